/-
  The shadow machine: slicing, make, append; all told rightly.
-/
import Derived.Test.YtkmbcjnaaokilaaGreatDoorMA
namespace Go.Proofs.YtkmbcjnaaokilaaGreatDoor
set_option linter.unusedSimpArgs false
set_option linter.unusedVariables false
open Go.RowKit Go.Maps

set_option maxRecDepth 100000 in
theorem Rw {P : Program} (w : World) (t e : TypeId) (i : TypeInfo) (z : Value) (k : Nat) (aO : P.underlying t = some (.slice e)) (aq : P.info? e = some i) (bO : i.zero = some z) (aB : i.size = k)
  (yW aez : IntKind) (n : Nat) (amJ : (n : Int) ≤ 9223372036854775807) (aJ : n * i.bytes ≤ 140737488355328) :
  (Instr.makeSlice t (.int yW n) (.int aez n)).run P w = .ok (.slice (some ⟨w.heap.size,0,none⟩) n n) (w.alloc (.cells ((Array.range (n * k)).map (fun j => z.cells[j % z.cells.size]!)) e)) := by
 have wl : IntKind.i64.wrap (n : Int) = n := by rw [IntKind.wrap_i64]; omega
 have jC : (i.bytes : Int) * n ≤ 140737488355328 := by rw [Int.mul_comm,← Int.natCast_mul]; omega
 have bM : ¬ ((n : Int) < 0) := by omega
 have fV : ¬ (281474976710656 < (i.bytes : Int) * n) := by omega
 have n5 : ¬ (140737488355328 < n * i.bytes) := by omega
 subst aB
 by_cases a7 : n * i.size = 0
 ·simp [Instr.makeSlice,run_underlying aO,asInt,asIntOf,typeInfo,aq,sizeOf,wl,bM,fV,n5,a7,newRow,askRoom,roomBytes]
  rw [show Array.range 0 = (#[] : Array Nat) from by decide]; simp
 ·simp [Instr.makeSlice,run_underlying aO,asInt,asIntOf,typeInfo,aq,sizeOf,zeroValue,bO,wl,bM,fV,n5,a7,newRow,askRoom,roomBytes]

section
variable {o : Oper} {S : ak} {E : Env} {H : bg} {B : Nat} {w : World}

theorem eD.Qy {k : Nat} {e : List av} {vs : List Value} (ax : db H ep e vs) (aF : vs.length = k) (af : e.all av.one = true) :
  ∀ (n : Nat) (xs : List Value),xs.length = n * k → (∀ i,i < n → (xs.drop (i * k)).take k = vs) → eD H k (List.replicate n e) xs
 | 0,xs,ar,_ => by simp at ar; subst ar; exact .nil
 | n + 1,xs,ar,h => by
  have bb := h 0 (by omega)
  simp at bb
  have ano : xs.length = n * k + k := by rw [ar,Nat.add_mul]; omega
  have dO := eD.Qy ax aF af n (xs.drop k) (by simp; omega) (fun i aq => by
   have := h (i + 1) (by omega)
   rw [List.drop_drop]; rw [Nat.add_mul] at this
   rw [← this]; congr 2; omega)
  have e : xs = vs ++ xs.drop k := by rw [← bb,List.take_append_drop]
  rw [e,List.replicate_succ]
  exact .cons ax aF af dO

theorem UK {k n : Nat} {zc : Array Value} {dz : List dX} (bO : zc.toList = dz.map dX.val) (aB : zc.size = k) (fz : 0 < k) :
  eD H k (List.replicate n (dz.map dX.hX)) ((Array.range (n * k)).map (fun j => zc[j % zc.size]!)).toList := by
 refine eD.Qy (yd H ep dz) (by rw [← bO]; simpa using aB) (zE dz) n _ (by simp) (fun i aq => ?_)
 rw [← bO]
 have hlen := Nat.mul_le_mul_right k (show i + 1 ≤ n from aq)
 rw [Nat.add_mul,Nat.one_mul] at hlen
 apply List.ext_getElem
 ·simp; omega
 ·intro j af aj
  simp at af aj
  have : (i * k + j) % k = j := by rw [Nat.add_comm,Nat.add_mul_mod_self_right]; exact Nat.mod_eq_of_lt (by omega)
  simp [aB,this,aj,getElem!_pos,aB ▸ aj]

theorem abD {t e i z n m fk} {dz : List dX} (ay : o.op = .makeSlice t n n) (hu : Tryz.prog.underlying t = some (.slice e)) (aq : Tryz.prog.info? e = some i) (bO : i.zero = some z) (hB : z.cells.toList = dz.map dX.val) (g4 : z.cells.size = i.size) (fz : 0 < i.size)
  (a7 : S.bf n = some (.v (.int fk m))) (bb : 0 ≤ m) (tN : m ≤ 1000000) (aJ : m.toNat * i.bytes ≤ 140737488355328) : Good o S E [n] (.au i.size 0 (List.replicate m.toNat (dz.map dX.hX))) := Az fun B a w H af aj aw => by
 have ba := aw.get (by simp) a7
 generalize aS : a.eval n = q at ba
 cases ba
 obtain ⟨N,rfl⟩ := Int.eq_ofNat_of_zero_le bb
 simp only [Int.toNat_natCast] at aJ ⊢
 obtain ⟨bL,cd⟩ := Ro (E := E) (e := e) (full := 0) af (UK (n := N) hB g4 fz) (by simp) (show N ≤ maxLen by unfold maxLen; omega)
 have c8 := Rw (P := Tryz.prog) w t e i z i.size hu aq bO rfl fk fk N (by omega) aJ
 exact ⟨.slice (some ⟨w.heap.size,0,none⟩) N N,_,_,by simp [execOp,ay,aS,c8],bL,cd⟩

theorem abC {t bc : TypeId} (ay : o.op = .makeMap t none) : Good o S E [] (.mp bc fun _ => none) := Az fun B a w H af aj aw => by
 refine ⟨.map (some w.heap.size),w.alloc (.map #[] 0),H.add w.heap.size (.map #[] 0),by simp [execOp,ay,run_makeMap],((Grow.refl af).alloc _).add (heap_alloc_new w _) (Nat.le_refl _),?_⟩
 exact .mp (bg.wA _ _ _) hR.made (by omega) (fun i => by simp) (fun i s u h => by cases h)

theorem zI.full {g n c : Nat} (h : zI g n c) {es : List (List av)} (aH : g = 1 ∨ (g = 0 ∧ es = [])) (a7 : es.length = n := by rfl) : c = n := by
 rcases aH with rfl | ⟨rfl,rfl⟩
 ·exact h.1 rfl
 ·simp at a7; subst a7; exact h.2 rfl rfl
theorem ra {k full es a n c} (ao : Sub H w) (h : ca H E (.au k full es) (.slice a n c)) :
  ∃ xs,eD H k es xs ∧ es.length = n ∧ n ≤ c ∧ c ≤ maxLen ∧ zI full n c ∧ (a = none → c = 0) ∧ ∀ fr,a = some fr → ∀ j u,xs[j]? = some u → w.cell? (fr.add j) = some u := by
 cases h with
 | au af aj aw OQ aV bF bH =>
  refine ⟨_,af,aj,aw,OQ,aV,bF,fun fr e j u hu => ?_⟩
  subst e
  obtain ⟨b,o,cells,t,cS,a2,a8,cg⟩ := bH j u hu
  cases a2
  rw [Addr.add_lit]
  simp [World.cell?,ao _ _ a8,cg]

theorem KJ {P : Program} {k : Nat} (t ty e : TypeId) (i : TypeInfo) (z : Value) (aO : P.underlying t = some (.slice e)) (aq : P.info? e = some i) (bO : i.zero = some z) (hB : z.cells.size = i.size) (fz : 0 < i.size)
  {bE : Option Addr} {n c : Nat} {xs : List Value} (lX : xs.length = n * i.size) (gB : ∀ u ∈ xs,u.oneCell' = true) (az : c = n) (aZ : bE = none → c = 0) (ad8 : ∀ fr,bE = some fr → ∀ j u,xs[j]? = some u → w.cell? (fr.add j) = some u)
  {fr : Addr} {m c2 : Nat} {ys : List Value} (r1 : ys.length = m * i.size) (um : ∀ u ∈ ys,u.oneCell' = true) (PN : ∀ j u,ys[j]? = some u → w.cell? (fr.add j) = some u) (hm : 0 < m) (c4 : n + m ≤ maxLen) (dm : (n + m) * i.bytes ≤ 140737488355328) :
  ∃ gY w',(Builtin.append_ #[t,t] ty #[.slice bE n c,.slice (some fr) m c2]).run P w = .ok gY w' ∧ w'.ownsRow w.heap.size e i.size gY (n + m) (xs ++ ys) ∧ w.grownBy w' none := by
 cases bE with
 | none =>
  have oG := aZ rfl
  have uc : n = 0 := by omega
  subst uc; subst oG
  have BI : xs = [] := List.eq_nil_of_length_eq_zero (by simpa using lX)
  subst BI
  obtain ⟨gY,w',c8,et,dP,_⟩ := run_append_own (P := P) w w.heap.size t ty e i z i.size i.bytes aO aq bO rfl rfl hB fz (.slice none 0 0) 0 [] (World.ownsRow_nil w _ e _) fr m c2 ys r1 PN um c4 dm (Nat.le_refl _)
  exact ⟨gY,w',c8,et,dP⟩
 | some b =>
  obtain ⟨gY,w',c8,et,dP⟩ := run_append_arg_grows (P := P) w t ty e i z i.size i.bytes aO aq bO rfl rfl hB fz b n c xs lX (ad8 b rfl) fr m c2 ys r1 PN (by omega) c4 dm
  exact ⟨gY,w',c8,et,dP⟩

theorem abj {t e i z x y xs ys k2 f2} (ay : o.op = .call ⟨.builtin .append,#[x,y],#[t,t]⟩) (aO : Tryz.prog.underlying t = some (.slice e)) (aq : Tryz.prog.info? e = some i) (bO : i.zero = some z) (hB : z.cells.size = i.size) (fz : 0 < i.size)
  {g1 : Nat} (ar : S.bf x = some (.au i.size g1 xs)) (n6 : g1 = 1 ∨ (g1 = 0 ∧ xs = [])) (a1 : S.bf y = some (.au k2 f2 ys)) (aG : k2 = i.size) (hm : xs = [] ∨ 0 < ys.length) (c4 : xs.length + ys.length ≤ 140737488355328) (dm : (xs.length + ys.length) * i.bytes ≤ 140737488355328) : Good o S E [x,y] (.au i.size 0 (xs ++ ys)) := Az fun B a w H af aj aw => by
 subst aG
 have cU := aw.get (by simp) ar
 have h3 := aw.get (by simp) a1
 generalize hA : a.eval x = jK at cU
 generalize iy : a.eval y = hh at h3
 obtain ⟨bE,n,c,rfl⟩ : ∃ a n c,jK = .slice a n c := by cases cU; exact ⟨_,_,_,rfl⟩
 obtain ⟨bP,m,c2,rfl⟩ : ∃ a n c,hh = .slice a n c := by cases h3; exact ⟨_,_,_,rfl⟩
 obtain ⟨us,eJ,fu,fM,_,oi,k4,hg⟩ := ra af cU
 obtain ⟨vs,bL,cd,dV,_,fW,ja,lu⟩ := ra af h3
 subst fu; subst cd
 by_cases sV : 0 < ys.length
 case neg =>
  have he : xs = [] := hm.resolve_right sV
  have oc : ys = [] := List.eq_nil_of_length_eq_zero (by omega)
  subst he; subst oc
  have az := oi.full n6
  simp only [List.length_nil] at az hA iy
  subst az
  have c8 : (Builtin.append_ #[t,t] o.type #[.slice bE 0 0,.slice bP 0 c2]).run Tryz.prog w = .ok (.slice bE 0 0) w := by
   have aF : ∀ (x : Addr),(loadCells x 0).run Tryz.prog w = .ok #[] w := fun x => by simpa using run_loadCells_list (P := Tryz.prog) w x [] (by simp)
   cases bE <;> cases bP <;> simp [Builtin.append_,run_underlying aO,run_sizeOf aq,Builtin.lenOf,Builtin.firstCells,aF,storeCells]
  exact ⟨.slice bE 0 0,w,H,by simp [execOp,ay,resolve,hA,iy,invoke,builtin,c8],Grow.refl af,.au .nil rfl (Nat.le_refl _) (Nat.zero_le _) ⟨fun _ => rfl,fun _ _ => rfl⟩ (fun _ => rfl) (fun j u hu => by simp at hu)⟩
 cases bP with
 | none => have := ja rfl; omega
 | some fr =>
  have kC : xs.length + ys.length ≤ maxLen := by unfold maxLen; omega
  obtain ⟨gY,w',c8,et,dP⟩ := KJ (P := Tryz.prog) (w := w) (k := i.size) t o.type e i z aO aq bO hB fz (c2 := c2) eJ.length eJ.one (oi.full n6) k4 hg bL.length bL.one (lu fr rfl) sV kC dm
  obtain ⟨aF,bj⟩ := et
  rcases bj with ⟨_,bb⟩ | ⟨g,ez,cur,rfl,aJ,aH,Bh,O5,g4,vB⟩
  ·omega
  ·have IA : H g = none := af.none aJ
   refine ⟨.slice (some ⟨g,0,none⟩) (xs.length + ys.length) ez,w',H.add g (.cells cur e (0,0)),?_,((Grow.refl af).grown dP (fun k e => by cases e)).add aH aJ,?_⟩
   ·simp [execOp,ay,resolve,hA,iy,invoke,builtin,c8]
   ·refine .au ((eJ.append bL).mono (bg.wB IA)) (by simp) Bh O5 ⟨(fun h => (by cases h)),(fun _ h => (by omega))⟩ (fun h => by cases h) (fun j u hu => ⟨g,0,cur,e,(0,0),rfl,bg.wA _ _ _,?_⟩)
    rw [← vB,List.getElem?_take] at hu
    split at hu
    ·simpa using hu
    ·cases hu

theorem EO {a : Act} {x : Operand} {n : Int} {xs : List Operand} (aw : ow S E H a xs) (ar : x ∈ xs) (h : ((S.bf x).bind fun j => match j with | .v (.int _ n) => some n | _ => none) = some n) : ∃ fk,a.eval x = .int fk n := by
 obtain ⟨y,a1,h⟩ := Option.bind_eq_some_iff.1 h
 have ba := aw.get ar a1
 cases y with
 | v q =>
  cases q with
  | int fk m => simp at h; subst h; generalize aS : a.eval x = q at ba; cases ba; exact ⟨fk,rfl⟩
  | _ => simp at h
 | _ => simp at h

theorem OJ {t e i x jo jD mx full es l h} (ay : o.op = .slice t x jo jD mx) (aO : Tryz.prog.underlying t = some (.slice e)) (aq : Tryz.prog.info? e = some i) (ar : S.bf x = some (.au i.size full es))
  (aF : S.q6 0 jo = some l)
  (dq : S.q6 es.length jD = some h)
  (cw : 0 ≤ l) (c2 : l ≤ h) (eE : h ≤ es.length) {f2 : Nat}
  (hm : (mx = none ∧ f2 = v7 full jo jD) ∨ ∃ iZ,mx = some iZ ∧ ((S.bf iZ).bind fun j => match j with | .v (.int _ n) => some n | _ => none) = some h ∧ jD.isSome = true ∧ f2 = 1) :
  Good o S E (x :: (jo.toList ++ jD.toList ++ mx.toList)) (.au i.size f2 ((es.take h.toNat).drop l.toNat)) := kT fun B a w H af aj aw => by
 have cU := aw.get (by simp) ar
 generalize hA : a.eval x = jK at cU
 cases cU with
 | au bK a7 az O5 aW aZ eA =>
  rename_i u2 n c xs
  subst a7
  obtain ⟨L,rfl⟩ := Int.eq_ofNat_of_zero_le cw
  obtain ⟨pK,rfl⟩ := Int.eq_ofNat_of_zero_le (show 0 ≤ h by omega)
  have ams : L ≤ pK := by omega
  have amt : pK ≤ es.length := by omega
  simp only [Int.toNat_natCast]
  -- aib amF index
  obtain ⟨M,amP,amQ,abV,aJ⟩ : ∃ M,pK ≤ M ∧ M ≤ c ∧ zI f2 (pK - L) (M - L) ∧
    (Instr.sliceBounds true es.length c (jo.map a.eval) (jD.map a.eval) (mx.map a.eval)).run Tryz.prog w = .ok (L,pK,M) w := by
   have w6 : (jo = none ∧ L = 0) ∨ ∃ ol fk,jo = some ol ∧ a.eval ol = .int fk L := by
    cases jo with
    | none => simp [ak.q6] at aF; exact .inl ⟨rfl,by omega⟩
    | some ol => obtain ⟨fk,e⟩ := EO aw (x := ol) (by simp) aF; exact .inr ⟨ol,fk,rfl,e⟩
   have cy : L ≤ pK := by omega
   have k2 : pK ≤ c := by omega
   rcases hm with ⟨rfl,rfl⟩ | ⟨iZ,rfl,n8,ao,rfl⟩
   ·refine ⟨c,by omega,Nat.le_refl _,?_,?_⟩
    ·cases jD with
     | some Fb => exact ⟨fun h => by simp [v7] at h,fun h => by simp [v7] at h⟩
     | none =>
      simp [ak.q6] at dq
      obtain rfl : es.length = pK := by omega
      unfold v7
      simp only
      split
      ·rename_i aH
       exact ⟨fun _ => by have := aW.1 aH; omega,fun h => by cases h⟩
      ·rcases w6 with ⟨rfl,rfl⟩ | ⟨ol,yW,rfl,el⟩
       ·simpa using aW
       ·exact ⟨fun h => (by cases h),fun h => (by cases h)⟩
    ·cases jD with
     | none =>
      simp [ak.q6] at dq
      obtain rfl : es.length = pK := by omega
      rcases w6 with ⟨rfl,rfl⟩ | ⟨ol,yW,rfl,el⟩
      ·simp [Instr.sliceBounds]
      ·simp [Instr.sliceBounds,el,Instr.sliceBound,asIntOf,cy]
     | some Fb =>
      obtain ⟨fk,e⟩ := EO aw (x := Fb) (by simp) dq
      rcases w6 with ⟨rfl,rfl⟩ | ⟨ol,yW,rfl,el⟩
      ·simp [Instr.sliceBounds,e,Instr.sliceBound,asIntOf,k2]
      ·simp [Instr.sliceBounds,e,el,Instr.sliceBound,asIntOf,cy,k2]
   ·refine ⟨pK,Nat.le_refl _,by omega,⟨fun _ => rfl,fun h => by cases h⟩,?_⟩
    obtain ⟨fk,e⟩ := EO aw (x := iZ) (by simp) n8
    cases jD with
    | none => cases ao
    | some Fb =>
     obtain ⟨ant,a8⟩ := EO aw (x := Fb) (by simp) dq
     rcases w6 with ⟨rfl,rfl⟩ | ⟨ol,yW,rfl,el⟩
     ·simp [Instr.sliceBounds,e,a8,Instr.sliceBound,asIntOf,k2]
     ·simp [Instr.sliceBounds,e,a8,el,Instr.sliceBound,asIntOf,cy,k2]
  refine ⟨.slice (if M = L then u2 else u2.map (·.add (L * i.size))) (pK - L) (M - L),?_,?_⟩
  ·simp only [execOp,ay,hA,Instr.sliceAt,Sem.run_bind,run_underlying aO,Result.andThen_ok,Instr.slice,aJ,run_sizeOf aq,Sem.run_pure]
  ·refine .au ((bK.take pK).drop L) (by simp; omega) (by omega) (by omega) abV (fun n9 => ?_) (fun j u hu => ?_)
   ·cases u2 with
    | none => have := aZ rfl; omega
    | some fr => split at n9 <;> cases n9
   ·rw [List.getElem?_drop,List.getElem?_take] at hu
    split at hu
    ·rename_i bN
     obtain ⟨b,o',cells,t',cS,a2,a8,cg⟩ := eA _ u hu
     subst a2
     have dd : M ≠ L := fun e => by
      subst e
      have : pK = M := by omega
      subst this
      omega
     exact ⟨b,o' + L * i.size,cells,t',cS,by rw [if_neg dd]; simp [Addr.add_lit],a8,by rw [Nat.add_assoc]; exact cg⟩
    ·cases hu
end

theorem NC {o : Oper} {S : ak} {E : Env} {op : Op} {eY : b4} {k : av → Prop} (ay : o.op = op) (hm : eM op eY) (h : cj eY S k) : ∃ s,k s ∧ Good o S E eY.cP s := by
 cases hm with
 | ah => obtain ⟨s,ao,aB⟩ := bW h; exact ⟨s,aB,OH (.inl ay) ao⟩
 | Dt => obtain ⟨s,ao,aB⟩ := bW h; exact ⟨s,aB,OH (.inr ay) ao⟩
 | P0 af aj aw =>
  obtain ⟨s,ao,h⟩ := bW h
  obtain ⟨⟨cs,off⟩,aZ,h⟩ := bW h
  exact OF ay af (.inl ⟨aj,_,aw,rfl⟩) ao aZ h
 | PZ af aj =>
  obtain ⟨s,ao,h⟩ := bW h
  obtain ⟨⟨cs,off⟩,aZ,h⟩ := bW h
  exact OF ay af (.inr ⟨aj,rfl⟩) ao aZ h
 | a3 af aj aw aV =>
  obtain ⟨s,ao,h⟩ := bW h
  cases s with
  | ptr i idx o' => exact ⟨_,h,OC ay af aj aw aV ao (.inl ⟨_,_,_,rfl,rfl⟩)⟩
  | dc e o' => exact ⟨_,h,OC ay af aj aw aV ao (.inr ⟨_,_,rfl,rfl⟩)⟩
  | _ => exact h.elim
 | NZ af aj aw aV bF =>
  obtain ⟨s,ao,h⟩ := bW h
  cases s with
  | agg cs => exact OD ay af aj aV (.inl ⟨bF,_,aw,rfl⟩) ao h
  | _ => exact h.elim
 | NY af aj aV bF =>
  obtain ⟨s,ao,h⟩ := bW h
  cases s with
  | agg cs => exact OD ay af aj aV (.inr ⟨bF,rfl⟩) ao h
  | _ => exact h.elim
 | dU af aj aw =>
  obtain ⟨s,ao,h⟩ := bW h
  obtain ⟨j,aM,h⟩ := bW h
  cases s with
  | au dA full es =>
   cases j with
   | v q =>
    cases q with
    | int fk n =>
     obtain ⟨rfl,bb,h⟩ := h
     obtain ⟨e,he,h⟩ := bW h
     exact ⟨_,h,abv ay af aj aw ao aM bb he⟩
    | _ => exact h.elim
   | _ => exact h.elim
  | own gD =>
   cases j with
   | v q =>
    cases q with
    | int fk n =>
     simp only at h
     split at h
     ·rename_i kS dA es aH
      obtain ⟨rfl,bb,aF,h⟩ := h
      exact ⟨_,h,abw ay af aj ao aH aM bb aF⟩
     ·rename_i kS cs aH
      obtain ⟨p5,bb,aF,h⟩ := h
      exact ⟨_,h,abx ay af aj p5 ao aH aM bb aF⟩
     ·exact h.elim
    | _ => exact h.elim
   | _ => exact h.elim
  | _ => exact h.elim
 | mi af aj =>
  obtain ⟨s,ao,h⟩ := bW h
  obtain ⟨j,aM,h⟩ := bW h
  cases s with
  | ptr i idx o' =>
   cases j with
   | v q =>
    cases q with
    | int fk n => obtain ⟨bb,aF,h⟩ := h; exact ⟨_,h,OE ay af aj ao aM bb aF (.inl ⟨_,_,_,rfl,rfl⟩)⟩
    | _ => exact h.elim
   | _ => exact h.elim
  | dc e o' =>
   cases j with
   | v q =>
    cases q with
    | int fk n => obtain ⟨bb,aF,h⟩ := h; exact ⟨_,h,OE ay af aj ao aM bb aF (.inr ⟨_,_,rfl,rfl⟩)⟩
    | _ => exact h.elim
   | _ => exact h.elim
  | _ => exact h.elim
 | dE af aj aw aV bF => obtain ⟨cs,az,h⟩ := bW h; exact ⟨_,h,abl ay af aj aw aV bF az⟩
 | tD => exact h.elim
 | g2 af aj aw aV bF bH cA => obtain ⟨cs,az,_,h⟩ := bW h; exact ⟨_,h,abm ay af aj aw aV bF bH cA az⟩
 | @kk t e i x jo aq mx af aj =>
  obtain ⟨s,ao,h⟩ := bW h
  cases s with
  | au dx full es =>
   obtain ⟨rfl,h⟩ := h
   obtain ⟨l,aF,h⟩ := bW h
   obtain ⟨dq,Pk,h⟩ := bW h
   obtain ⟨cw,c2,eE,h⟩ := h
   cases mx with
   | none => exact ⟨_,h,OJ ay af aj ao aF Pk cw c2 eE (.inl ⟨rfl,rfl⟩)⟩
   | some iZ =>
    obtain ⟨j,aM,h⟩ := bW h
    cases j with
    | v q =>
     cases q with
     | int fk n =>
      obtain ⟨rfl,a8,h⟩ := h
      exact ⟨_,h,OJ ay af aj ao aF Pk cw c2 eE (.inr ⟨iZ,rfl,by simp [aM],a8,rfl⟩)⟩
     | _ => exact h.elim
    | _ => exact h.elim
  | _ => exact h.elim
 | len af =>
  obtain ⟨s,ao,h⟩ := bW h
  cases s with
  | au dx full es => exact ⟨_,h,HZ ay af ao (.inl ⟨_,_,_,rfl,rfl⟩)⟩
  | own i =>
   simp only at h
   split at h
   ·rename_i kS dA es aH; exact ⟨_,h,HZ ay af ao (.inr (.inl ⟨_,_,_,_,rfl,aH,rfl⟩))⟩
   ·rename_i kS cs aH; exact ⟨_,h,HZ ay af ao (.inr (.inr ⟨_,_,_,rfl,aH,rfl⟩))⟩
   ·exact h.elim
  | _ => exact h.elim
 | mj af aj aw aV =>
  obtain ⟨s,ao,h⟩ := bW h
  obtain ⟨j,aM,h⟩ := bW h
  cases s with
  | mp iz f =>
   cases j with
   | v q =>
    cases q with
    | int fk n =>
     cases fk with
     | i64 => obtain ⟨rfl,bM,fV,h⟩ := h; exact ⟨_,h,aby ay af aj aw aV ao aM bM fV⟩
     | _ => exact h.elim
    | _ => exact h.elim
   | _ => exact h.elim
  | own gD =>
   cases j with
   | v q =>
    cases q with
    | int fk n =>
     cases fk with
     | i64 =>
      simp only at h
      split at h
      ·rename_i iz M f aH
       obtain ⟨rfl,bM,fV,h⟩ := h
       exact ⟨_,h,abz ay af aj aw aV ao aH aM bM fV⟩
      ·exact h.elim
     | _ => exact h.elim
    | _ => exact h.elim
   | _ => exact h.elim
  | _ => exact h.elim
 | ext =>
  obtain ⟨s,ao,h⟩ := bW h
  cases s with
  | bR cs => obtain ⟨r,ax,h⟩ := bW h; exact ⟨_,h,abr ay ao ax⟩
  | _ => exact h.elim
 | bin =>
  obtain ⟨s,ao,h⟩ := bW h
  obtain ⟨j,aM,h⟩ := bW h
  cases s with
  | v p =>
   cases j with
   | v q =>
    cases p with
    | int cy uL =>
     cases q with
     | int k2 x4 => obtain ⟨rfl,h⟩ := h; obtain ⟨r,ax,h⟩ := bW h; exact ⟨_,h,abk ay ao aM ax⟩
     | _ => exact h.elim
    | _ => exact h.elim
   | _ => cases p <;> exact h.elim
  | _ => exact h.elim
 | eqv =>
  obtain ⟨s,ao,h⟩ := bW h
  obtain ⟨j,aM,b,aJ,h⟩ := bW h
  exact ⟨_,h,OB (neg := false) ay ao aM aJ⟩
 | JW =>
  obtain ⟨s,ao,h⟩ := bW h
  obtain ⟨j,aM,b,aJ,h⟩ := bW h
  exact ⟨_,h,OB (neg := true) ay ao aM aJ⟩
 | not =>
  obtain ⟨s,ao,h⟩ := bW h
  cases s with
  | v q => cases q with
   | bool b => exact ⟨_,h,abE ay ao⟩
   | _ => exact h.elim
  | _ => exact h.elim
 | lE af aj =>
  obtain ⟨s,ao,h⟩ := bW h
  cases s with
  | v q => cases q with
   | int fk n => exact ⟨_,h,abq ay af aj ao⟩
   | _ => exact h.elim
  | _ => exact h.elim
 | call af aj aw =>
  obtain ⟨l,aF,r,ax,h⟩ := bW h
  exact ⟨_,h,abn ay (nn af aj aw) aF ax⟩
 | gen =>
  obtain ⟨l,aF,r,ax,h⟩ := bW h
  exact ⟨_,h,abu ay aF ax⟩
 | kt =>
  obtain ⟨s,ao,h⟩ := bW h
  obtain ⟨l,aF,h⟩ := bW h
  cases s with
  | fn f first cap =>
   cases f with
   | func f => obtain ⟨bK,r,ax,h⟩ := h; exact ⟨_,h,abp ay ao bK aF ax⟩
   | method name =>
    cases first with
    | nil => exact h.elim
    | cons y first =>
     cases y with
     | dr t s => obtain ⟨f,hm,bK,r,ax,h⟩ := h; exact ⟨_,h,abo ay ao hm bK aF ax⟩
     | _ => exact h.elim
   | _ => exact h.elim
  | _ => exact h.elim
 | jY =>
  obtain ⟨a,aZ,h⟩ := bW h
  obtain ⟨b,aJ,h⟩ := bW h
  exact ⟨_,h,abA ay aZ aJ⟩
 | ig af aj => obtain ⟨s,ao,h⟩ := bW h; exact ⟨_,h,abB ay af aj ao⟩
 | pick =>
  obtain ⟨s,ao,h⟩ := bW h
  cases s with
  | v q => cases q with
   | bool b => obtain ⟨r,ax,h⟩ := bW h; obtain ⟨af,aj⟩ := Q9 ax; exact ⟨_,h,abF ay ao af aj⟩
   | _ => exact h.elim
  | _ => exact h.elim
 | max =>
  obtain ⟨s,ao,h⟩ := bW h
  obtain ⟨j,aM,h⟩ := bW h
  cases s with
  | v p =>
   cases j with
   | v q =>
    cases p with
    | int cy uL =>
     cases q with
     | int k2 x4 => obtain ⟨rfl,h⟩ := h; exact ⟨_,h,OG (mx := true) ay ao aM⟩
     | _ => exact h.elim
    | _ => exact h.elim
   | _ => cases p <;> exact h.elim
  | _ => exact h.elim
 | min =>
  obtain ⟨s,ao,h⟩ := bW h
  obtain ⟨j,aM,h⟩ := bW h
  cases s with
  | v p =>
   cases j with
   | v q =>
    cases p with
    | int cy uL =>
     cases q with
     | int k2 x4 => obtain ⟨rfl,h⟩ := h; exact ⟨_,h,OG (mx := false) ay ao aM⟩
     | _ => exact h.elim
    | _ => exact h.elim
   | _ => cases p <;> exact h.elim
  | _ => exact h.elim
 | k3 =>
  obtain ⟨s,ao,h⟩ := bW h
  cases s with
  | ptr i idx o' => exact ⟨_,h,D1 ay ao (.inl ⟨_,_,_,rfl⟩)⟩
  | dc e o' => exact ⟨_,h,D1 ay ao (.inr (.inl ⟨_,_,rfl⟩))⟩
  | fn f a b => cases f with
   | func f => exact ⟨_,h,D1 ay ao (.inr (.inr (.inl ⟨_,_,_,rfl⟩)))⟩
   | _ => exact h.elim
  | dr t y => exact ⟨_,h,D1 ay ao (.inr (.inr (.inr ⟨_,_,rfl⟩)))⟩
  | _ => exact h.elim
 | mm af aj aw aV bF bH =>
  obtain ⟨s,ao,h⟩ := bW h
  cases s with
  | v q => cases q with
   | int fk m => obtain ⟨bE,bP,cK,h⟩ := h; exact ⟨_,h,abD ay af aj aw aV bF bH ao bE bP cK⟩
   | _ => exact h.elim
  | _ => exact h.elim
 | oe af aj => exact ⟨_,h,abC ay⟩
 | app af aj aw aV bF =>
  obtain ⟨s,ao,h⟩ := bW h
  obtain ⟨j,aM,h⟩ := bW h
  cases s with
  | au cy full xs =>
   cases j with
   | au k2 f2 ys => obtain ⟨rfl,rfl,G9,ha,c4,dm,h⟩ := h; exact ⟨_,h,abj ay af aj aw aV bF ao G9 aM rfl ha c4 dm⟩
   | _ => exact h.elim
  | _ => exact h.elim
 | _ => exact h.elim

section
variable {N : Nat} {w0 w w' : World} {H0 H H' : bg} {S : ak} {E : Env} {a : Act}

theorem bu.sub (h : bu N w0 H0 S E a w H) : Sub H w := h.grow.sub
theorem bu.cP (h : bu N w0 H0 S E a w H) (xs : List Operand) : ow S E H a xs := fun x _ y a1 => Q4 h.sub.qQ h.ob (fun t y _ aO => h.kK t y aO) a1
theorem aaG {a : Act} {d : Nat} {v : Value} (h : d < a.tmps.size) : (a.put (some d) v).eval (.tmp d) = v := by simp [Act.put,Act.eval,h]
theorem NQ {a : Act} {d t : Nat} {v : Value} (h : d ≠ t) : (a.put (some d) v).eval (.tmp t) = a.eval (.tmp t) := by simp [Act.put,Act.eval,Array.getElem?_setIfInBounds_ne h]
theorem Re {a : Act} {d : Option Nat} {v : Value} : (a.put d v).tmps.size = a.tmps.size := by cases d <;> simp [Act.put]
theorem put_defers {a : Act} {d : Option Nat} {v : Value} : (a.put d v).defers = a.defers := by cases d <;> simp [Act.put]

theorem bu.put (h : bu N w0 H0 S E a w H) {d : Option Nat} {s : av} {v : Value} (ax : ca H E s v) (aX : ∀ t,d = some t → t < N) : bu N w0 H0 (S.bX d s) E (a.put d v) w H := by
 cases d with
 | none => exact h
 | some d =>
  refine ⟨h.grow,fun t x ar => ?_,h.ob,h.ap,h.cS,by rw [Re]; exact h.jg,by rw [put_defers]; exact h.kv⟩
  simp only [ak.bX,ak.put,lj] at ar
  split at ar
  ·rename_i e; cases ar; subst e
   rw [aaG (by rw [h.jg]; exact aX _ rfl)]; exact ax
  ·rename_i e; rw [NQ e]; exact h.kK t x ar
theorem bu.grown (h : bu N w0 H0 S E a w H) (g : Grow w H w' H') : bu N w0 H0 S E a w' H' :=
 ⟨h.grow.trans g,fun t x ar => (h.kK t x ar).mono (g.le h.sub) (fK.refl _),h.ob.grow g h.sub,h.ap,h.cS,h.jg,h.kv⟩
theorem rE {α : Type} {l : List (Nat × α)} {i j : Nat} {x : α} (h : al (dC l i) j = some x) : al l j = some x ∧ i ≠ j := by
 by_cases e : i = j
 ·subst e; rw [Om] at h; cases h
 ·rw [vh l e] at h; exact ⟨h,e⟩
theorem bu.skip (h : bu N w0 H0 S E a w H) {d : Nat} {v : Value} : bu N w0 H0 ⟨dC S.T d,S.O,S.n⟩ E (a.put (some d) v) w H := by
 refine ⟨h.grow,fun t x ar => ?_,h.ob,h.ap,h.cS,by rw [Re]; exact h.jg,by rw [put_defers]; exact h.kv⟩
 obtain ⟨ar,e⟩ := rE ar
 rw [NQ e]; exact h.kK t x ar
theorem bu.less (h : bu N w0 H0 S E a w H) {S' : ak} (eP : ∀ t x,al S'.T t = some x → al S.T t = some x) (cX : ∀ i o,al S'.O i = some o → al S.O i = some o) (a7 : S'.n = S.n) : bu N w0 H0 S' E a w H :=
 ⟨h.grow,fun t x ar => h.kK t x (eP t x ar),fun i o ay => h.ob i o (cX i o ay),fun i j iw ⟨o,ay,aF⟩ ⟨o',fo,vr⟩ => h.ap i j iw ⟨o,cX _ _ ay,aF⟩ ⟨o',cX _ _ fo,vr⟩,fun i aq => h.cS i (by rw [← a7]; exact aq),h.jg,h.kv⟩

def Env.set (E : Env) (i : Nat) (p : Value × Nat × Option Nat) : Env := fun j => if j = i then some p else E j
theorem Env.iB (E : Env) (i : Nat) (p : Value × Nat × Option Nat) : E.set i p i = some p := if_pos rfl
theorem Env.uE {E : Env} {i : Nat} (p : Value × Nat × Option Nat) (h : E i = none) : fK E (E.set i p) := fun j q aM => by
 unfold Env.set; rw [if_neg (fun e => by subst e; rw [h] at aM; cases aM)]; exact aM
theorem pN.env {B H E E' w i o} (h : pN B H E w i o) (g : fK E E') : pN B H E' w i o := by
 cases o with
 | box t cs => obtain ⟨b,vs,af,aj,aw,aV,bF,bH⟩ := h; exact ⟨b,vs,g _ _ af,aj,aw,aV,bF.mono (fun _ _ h => h) g,bH⟩
 | row e k es => obtain ⟨u,ob,xs,af,h⟩ := h; exact ⟨u,ob,xs,g _ _ af,h⟩
 | map bc N f => obtain ⟨b,o,F,af,h⟩ := h; exact ⟨b,o,F,g _ _ af,h⟩
 | iter f left hH cur => obtain ⟨r,ob,af,h⟩ := h; exact ⟨r,ob,g _ _ af,h⟩
 | fS x => obtain ⟨u,k,b,af,h⟩ := h; exact ⟨u,k,b,g _ _ af,h⟩
 | hN e cs => obtain ⟨b,cap,cur,af,aj,aw,aV,bF,bH,cA⟩ := h; exact ⟨b,cap,cur,g _ _ af,aj,aw,aV,bF,bH.mono (fun _ _ h => h) g,cA⟩
 | cq J => obtain ⟨⟨p,hp⟩,af,aj⟩ := h; exact ⟨⟨p,g _ _ hp⟩,aj _ _ _ _ (g7.refl _) g af,aj⟩

theorem bu.new (h : bu N w0 H0 S E a w H) {o : bl} {p : Value × Nat × Option Nat} (ay : pN w0.heap.size H (E.set S.n p) w S.n o)
  (Pf : ∀ b,p.2.2 = some b → ∀ i,mQ S i → ∀ u k,E i = some (u,k,some b) → False) : bu N w0 H0 (S.fH o) (E.set S.n p) a w H := by
 have aH := Env.uE p (h.cS S.n (Nat.le_refl _))
 have bN : ∀ i o,al S.O i = some o → i ≠ S.n := fun i o ay e => by
  subst e
  have a7 := h.cS S.n (Nat.le_refl _)
  have := h.ob _ _ ay
  cases o with
  | box t cs => obtain ⟨b,vs,af,_⟩ := this; rw [a7] at af; cases af
  | row e k es => obtain ⟨u,ob,xs,af,_⟩ := this; rw [a7] at af; cases af
  | map bc N f => obtain ⟨b,o,F,af,_⟩ := this; rw [a7] at af; cases af
  | iter f left hH cur => obtain ⟨r,ob,af,_⟩ := this; rw [a7] at af; cases af
  | fS x => obtain ⟨u,k,b,af,_⟩ := this; rw [a7] at af; cases af
  | hN e cs => obtain ⟨b,cap,cur,af,_⟩ := this; rw [a7] at af; cases af
  | cq J => obtain ⟨⟨p,af⟩,_⟩ := this; rw [a7] at af; cases af
 have gp : ∀ i o',al (S.fH o).O i = some o' → (i = S.n ∧ o' = o) ∨ (i ≠ S.n ∧ al S.O i = some o') := fun i o' aq => by
  simp only [ak.fH,al] at aq
  split at aq
  ·rename_i e; cases aq; exact .inl ⟨e.symm,rfl⟩
  ·rename_i e; exact .inr ⟨fun e1 => e e1.symm,aq⟩
 refine ⟨h.grow,fun t x ar => (h.kK t x ar).mono (fun _ _ h => h) aH,fun i o' aq => ?_,?_,fun i aq => ?_,h.jg,h.kv⟩
 ·rcases gp i o' aq with ⟨rfl,rfl⟩ | ⟨_,aq⟩
  ·exact ay
  ·exact (h.ob i o' aq).env aH
 ·rintro i j iw ⟨eX,ue,qa⟩ ⟨eI,Bv,kc⟩ b u k kL dA a2 a8
  rcases gp i eX ue with ⟨rfl,rfl⟩ | ⟨bM,g1⟩ <;> rcases gp j eI Bv with ⟨rfl,rfl⟩ | ⟨fV,bQ⟩
  ·exact iw rfl
  ·rw [Env.iB] at a2
   unfold Env.set at a8; rw [if_neg fV] at a8
   cases a2
   exact Pf b rfl j ⟨eI,bQ,kc⟩ _ _ a8
  ·rw [Env.iB] at a8
   unfold Env.set at a2; rw [if_neg bM] at a2
   cases a8
   exact Pf b rfl i ⟨eX,g1,qa⟩ _ _ a2
  ·unfold Env.set at a2 a8; rw [if_neg bM] at a2; rw [if_neg fV] at a8
   exact h.ap i j iw ⟨eX,g1,qa⟩ ⟨eI,bQ,kc⟩ b u k kL dA a2 a8
 ·unfold Env.set
  simp only [ak.fH] at aq
  rw [if_neg (by omega)]
  exact h.cS i (by omega)

theorem bu.vJ (h : bu N w0 H0 S E a w H) {i b : Nat} (aF : mQ S i) {u k} (bK : E i = some (u,k,some b)) : w0.heap.size ≤ b ∧ H b = none ∧ b < w.heap.size := by
 obtain ⟨o,ay,kX⟩ := aF
 have := h.ob _ _ ay
 cases o with
 | box t cs => obtain ⟨fO,vs,af,aj,aw,aV,_⟩ := this; rw [bK] at af; cases af; exact ⟨aj,aw,(Array.getElem?_eq_some_iff.1 aV).1⟩
 | row e dA es =>
  obtain ⟨kL,ob,xs,af,_,_,aw⟩ := this
  rw [bK] at af; cases af
  rcases aw with ⟨_,h,_⟩ | ⟨g,cap,cur,bE,bP,cK,a4,fY,_⟩
  ·cases h
  ·cases bE; exact ⟨cK,a4,(Array.getElem?_eq_some_iff.1 fY).1⟩
 | map bc N f => obtain ⟨fO,o,F,af,aj,aw,aV,_⟩ := this; rw [bK] at af; cases af; exact ⟨aj,aw,(Array.getElem?_eq_some_iff.1 aV).1⟩
 | iter f left hH cur => obtain ⟨r,ob,af,aj,aw,aV,_⟩ := this; rw [bK] at af; cases af; exact ⟨aj,aw,(Array.getElem?_eq_some_iff.1 aV).1⟩
 | fS x => cases kX
 | hN e cs => obtain ⟨fO,cap,cur,af,aj,aw,aV,_⟩ := this; rw [bK] at af; cases af; exact ⟨aj,aw,(Array.getElem?_eq_some_iff.1 aV).1⟩
 | cq J => cases kX

theorem bu.afa (h : bu N w0 H0 S E a w H) {t : TypeId} {cs : List av} {vs : List Value} (az : db H E cs vs) (af : cs.all av.one = true) {d : Option Nat} (aX : ∀ t,d = some t → t < N) :
  ∃ E',bu N w0 H0 ((S.fH (.box t cs)).bX d (.ptr S.n 0 0)) E' (a.put d (.pointer (some ⟨w.heap.size,0,none⟩))) (w.alloc (.cells vs.toArray t)) H := by
 have aH : Grow w H (w.alloc (.cells vs.toArray t)) H := (Grow.refl h.sub).alloc _
 have ax := h.grown aH
 let p : Value × Nat × Option Nat := (.pointer (some ⟨w.heap.size,0,none⟩),0,some w.heap.size)
 have a7 := h.cS S.n (Nat.le_refl _)
 have ba : bu N w0 H0 (S.fH (.box t cs)) (E.set S.n p) a (w.alloc (.cells vs.toArray t)) H := by
  refine ax.new ⟨w.heap.size,vs,Env.iB _ _ _,h.grow.below.size,h.sub.none (Nat.le_refl _),heap_alloc_new w _,az.mono (fun _ _ h => h) (Env.uE p a7),af⟩ ?_
  intro b aJ i aF u k bK
  cases aJ
  exact absurd (h.vJ aF bK).2.2 (by omega)
 refine ⟨_,ba.put ?_ aX⟩
 have := ca.ptr (H := H) (E := E.set S.n p) (i := S.n) (idx := 0) (off := 0) (Env.iB E S.n p)
 simpa using this

theorem pN.eH {B : Nat} {i b : Nat} {o : bl} (h : pN B H E w i o) (dd : o.live = true → ∀ u k,E i ≠ some (u,k,some b)) (ao : ∀ k,k < w.heap.size → k ≠ b → w'.heap[k]? = w.heap[k]?) : pN B H E w' i o := by
 cases o with
 | box t cs =>
  obtain ⟨fO,vs,af,aj,aw,aV,bF,bH⟩ := h
  exact ⟨fO,vs,af,aj,aw,(ao fO (Array.getElem?_eq_some_iff.1 aV).1 (fun e => by subst e; exact dd rfl _ _ af)).trans aV,bF,bH⟩
 | row e k es =>
  obtain ⟨u,ob,xs,af,aB,aj,aw⟩ := h
  refine ⟨u,ob,xs,af,aB,aj,aw.imp id ?_⟩
  rintro ⟨j6,cap,cur,bE,bP,cK,a4,fY,ho⟩
  subst bE
  exact ⟨j6,cap,cur,rfl,bP,cK,a4,(ao j6 (Array.getElem?_eq_some_iff.1 fY).1 (fun e => by subst e; exact dd rfl _ _ af)).trans fY,ho⟩
 | map bc N f =>
  obtain ⟨fO,o,F,af,aj,aw,aV,bF⟩ := h
  exact ⟨fO,o,F,af,aj,aw,(ao fO (Array.getElem?_eq_some_iff.1 aV).1 (fun e => by subst e; exact dd rfl _ _ af)).trans aV,bF⟩
 | iter f left hH cur =>
  obtain ⟨r,ob,af,aj,aw,aV,bF⟩ := h
  exact ⟨r,ob,af,aj,aw,(ao r (Array.getElem?_eq_some_iff.1 aV).1 (fun e => by subst e; exact dd rfl _ _ af)).trans aV,bF⟩
 | fS x => exact h
 | hN e cs =>
  obtain ⟨fO,cap,cur,af,aj,aw,aV,bF⟩ := h
  exact ⟨fO,cap,cur,af,aj,aw,(ao fO (Array.getElem?_eq_some_iff.1 aV).1 (fun e => by subst e; exact dd rfl _ _ af)).trans aV,bF⟩
 | cq J => exact h

theorem bu.o1 (h : bu N w0 H0 S E a w H) {i b : Nat} {o' : bl} {u : Value} {k : Nat} (aq : mQ S i) (bK : E i = some (u,k,some b))
  (ao : ∀ k,k < w.heap.size → k ≠ b → w'.heap[k]? = w.heap[k]?) (g4 : w.heap.size ≤ w'.heap.size) (uf : w'.os = w.os) (adY : w'.tape = w.tape) (Jg : w'.output = w.output)
  (fo : pN w0.heap.size H E w' i o') (vr : o'.live = true) : bu N w0 H0 (S.eK i o') E a w' H := by
 obtain ⟨l1,l2,EV⟩ := h.vJ aq bK
 have gp : ∀ j o,al (S.eK i o').O j = some o → (j = i ∧ o = o') ∨ (i ≠ j ∧ al S.O j = some o) := fun j o aM => by
  simp only [ak.eK,lj] at aM
  split at aM
  ·rename_i e; cases aM; exact .inl ⟨e.symm,rfl⟩
  ·rename_i e; exact .inr ⟨e,aM⟩
 refine ⟨⟨⟨uf.trans h.grow.below.os,adY.trans h.grow.below.tape,Jg.trans h.grow.below.output,Nat.le_trans h.grow.below.size g4,fun k aB => ?_⟩,⟨fun k o aB => ?_,h.grow.sub.qQ⟩,h.grow.old⟩,h.kK,fun j o aM => ?_,?_,h.cS,h.jg,h.kv⟩
 ·exact (ao k (Nat.lt_of_lt_of_le aB h.grow.below.size) (by omega)).trans (h.grow.below.block k aB)
 ·have := h.sub.lt aB
  exact (ao k this (fun e => by subst e; rw [l2] at aB; cases aB)).trans (h.sub k o aB)
 ·rcases gp j o aM with ⟨rfl,rfl⟩ | ⟨e,aM⟩
  ·exact fo
  ·exact (h.ob j o aM).eH (fun aF kL dA e1 => h.ap i j e aq ⟨o,aM,aF⟩ b _ _ _ _ bK e1) ao
 ·rintro xu xv aM ⟨eX,ue,qa⟩ ⟨eI,Bv,kc⟩ fO l4 cy iD k2 a2 a8
  rcases gp xu eX ue with ⟨rfl,rfl⟩ | ⟨bM,g1⟩ <;> rcases gp xv eI Bv with ⟨rfl,rfl⟩ | ⟨fV,bQ⟩
  ·exact aM rfl
  ·exact h.ap _ _ aM aq ⟨eI,bQ,kc⟩ fO _ _ _ _ a2 a8
  ·exact h.ap _ _ aM ⟨eX,g1,qa⟩ aq fO _ _ _ _ a2 a8
  ·exact h.ap _ _ aM ⟨eX,g1,qa⟩ ⟨eI,bQ,kc⟩ fO _ _ _ _ a2 a8
end

section
variable {N : Nat} {w0 w w' : World} {H0 H H' : bg} {S : ak} {E : Env} {a : Act}

theorem bu.fS (h : bu N w0 H0 S E a w H) {i : Nat} {u : Value} {k : Nat} {ob : Option Nat} {x : av} (aF : mQ S i) (bK : E i = some (u,k,ob)) (ar : x.pure = true)
  (AU : ∀ e,x = .dc e 0 → k = 0 ∧ ∃ ha,ob = some ha ∧ u = .pointer (some ⟨ha,0,none⟩))
  (ax : match ob with | none => ca H ep x u | some b => ∃ o,w.heap[b]? = some o ∧ ca (H.add b o) ep x u) : ∃ H',g7 H H' ∧ bu N w0 H0 (S.eK i (.fS x)) E a w H' := by
 have gp : ∀ j o,al (S.eK i (.fS x)).O j = some o → (j = i ∧ o = .fS x) ∨ (i ≠ j ∧ al S.O j = some o) := fun j o aM => by
  simp only [ak.eK,lj] at aM
  split at aM
  ·rename_i e; cases aM; exact .inl ⟨e.symm,rfl⟩
  ·rename_i e; exact .inr ⟨e,aM⟩
 have oF : ∀ xu xv,xu ≠ xv → mQ (S.eK i (.fS x)) xu → mQ (S.eK i (.fS x)) xv → ∀ b u k kL dA,E xu = some (u,k,some b) → E xv = some (kL,dA,some b) → False := by
  rintro xu xv aM ⟨eX,ue,qa⟩ ⟨eI,Bv,kc⟩ b u k kL dA a2 a8
  rcases gp xu eX ue with ⟨rfl,rfl⟩ | ⟨bM,g1⟩
  ·cases qa
  rcases gp xv eI Bv with ⟨rfl,rfl⟩ | ⟨fV,bQ⟩
  ·cases kc
  exact h.ap _ _ aM ⟨eX,g1,qa⟩ ⟨eI,bQ,kc⟩ b _ _ _ _ a2 a8
 cases ob with
 | none =>
  refine ⟨H,g7.refl _,h.grow,h.kK,fun j o aM => ?_,oF,h.cS,h.jg,h.kv⟩
  rcases gp j o aM with ⟨rfl,rfl⟩ | ⟨_,aM⟩
  ·exact ⟨u,k,none,bK,ax,ar,AU⟩
  ·exact h.ob j o aM
 | some b =>
  obtain ⟨o,ay,ax⟩ := ax
  obtain ⟨l1,l2,EV⟩ := h.vJ aF bK
  have hle : g7 H (H.add b o) := bg.wB l2
  refine ⟨H.add b o,hle,h.grow.add ay l1,fun t y a1 => (h.kK t y a1).mono hle (fK.refl _),fun j o' aM => ?_,oF,h.cS,h.jg,h.kv⟩
  rcases gp j o' aM with ⟨rfl,rfl⟩ | ⟨dd,aM⟩
  ·exact ⟨u,k,some b,bK,ax,ar,AU⟩
  ·have cX := h.ob j o' aM
   have kD : o'.live = true → ∀ u k,E j ≠ some (u,k,some b) := fun kX kL dA e1 => h.ap i j dd aF ⟨o',aM,kX⟩ b _ _ _ _ bK e1
   have Bb : ∀ g,g ≠ b → H.add b o g = H g := fun g aH => by unfold bg.add; rw [if_neg aH]
   cases o' with
   | box t cs =>
    obtain ⟨fO,vs,af,aj,aw,aV,bF,bH⟩ := cX
    exact ⟨fO,vs,af,aj,(Bb fO (fun e => by subst e; exact kD rfl _ _ af)).trans aw,aV,bF.mono hle (fK.refl _),bH⟩
   | row e dA es =>
    obtain ⟨kL,Fa,xs,af,aB,aj,aw⟩ := cX
    refine ⟨kL,Fa,xs,af,aB,aj.mono hle,aw.imp id ?_⟩
    rintro ⟨j6,cap,cur,bE,bP,cK,a4,fY⟩
    subst bE
    exact ⟨j6,cap,cur,rfl,bP,cK,(Bb j6 (fun e => by subst e; exact kD rfl _ _ af)).trans a4,fY⟩
   | map bc N f =>
    obtain ⟨fO,eI,F,af,aj,aw,aV,bF,bH,cA,dY⟩ := cX
    exact ⟨fO,eI,F,af,aj,(Bb fO (fun e => by subst e; exact kD rfl _ _ af)).trans aw,aV,bF,bH,cA,fun j s u a b => (dY j s u a b).mono hle (fK.refl _)⟩
   | iter f left hH cur =>
    obtain ⟨r,vO,af,aj,aw,aV,bF,bH⟩ := cX
    exact ⟨r,vO,af,aj,(Bb r (fun e => by subst e; exact kD rfl _ _ af)).trans aw,aV,bF.le hle,fun j s e => (bH j s e).le hle⟩
   | fS y => obtain ⟨kL,dA,fO,af,aj,aw,aV⟩ := cX; exact ⟨kL,dA,fO,af,aj.mono hle (fK.refl _),aw,aV⟩
   | hN e cs =>
    obtain ⟨fO,cap,cur,af,aj,aw,aV,bF,bH,cA⟩ := cX
    exact ⟨fO,cap,cur,af,aj,(Bb fO (fun e => by subst e; exact kD rfl _ _ af)).trans aw,aV,bF,bH.mono hle (fK.refl _),cA⟩
   | cq J => exact ⟨cX.1,cX.2.2 _ _ _ _ hle (fK.refl _) cX.2.1,cX.2.2⟩

theorem bu.nu (h : bu N w0 H0 S E a w H) (i : Nat) : ∃ H',g7 H H' ∧ bu N w0 H0 (S.nu i) E a w H' := by
 unfold ak.nu
 split
 ·rename_i e k es aH
  obtain ⟨u,ob,xs,af,aB,aj,aw⟩ := h.ob _ _ aH
  refine h.fS ⟨_,aH,rfl⟩ af rfl (fun e he => by cases he) ?_
  rcases aw with ⟨rfl,rfl,fr,rfl⟩ | ⟨g,cap,cur,rfl,rfl,cK,a4,fY,ho,l8,tw,l9,hT⟩
  ·cases aj
   exact .au .nil rfl (Nat.le_refl _) (Nat.zero_le _) ⟨fun _ => rfl,fun _ _ => rfl⟩ (fun _ => rfl) (fun j u hu => by simp at hu)
  ·refine ⟨_,fY,.au (aj.mono (bg.wB a4)) rfl ho l8 ⟨(fun e => (by cases e)),fun _ h => tw (List.eq_nil_of_length_eq_zero h)⟩ (fun e => by cases e) (fun j u hu => ⟨g,0,cur,e,(0,0),rfl,bg.wA _ _ _,?_⟩)⟩
   rw [← hT,List.getElem?_take] at hu
   split at hu
   ·simpa using hu
   ·cases hu
 ·rename_i bc M f aH
  obtain ⟨b,o,F,af,aj,aw,aV,bF,bH,cA,dY⟩ := h.ob _ _ aH
  refine h.fS ⟨_,aH,rfl⟩ af rfl (fun e he => by cases he) ⟨o,aV,?_⟩
  exact .mp (bg.wA _ _ _) bF bH cA (fun j s u a b => (dY j s u a b).mono (bg.wB aw) (fK.refl _))
 ·exact ⟨H,g7.refl _,h⟩
theorem bu.fm : ∀ (cs : List av) {S : ak} {H : bg},bu N w0 H0 S E a w H → ∃ H',g7 H H' ∧ bu N w0 H0 (S.fm cs) E a w H'
 | [],S,H,h => ⟨H,g7.refl _,h⟩
 | .own i :: l,S,H,h => by
  obtain ⟨H1,l1,af⟩ := h.nu i
  obtain ⟨kq,l2,aj⟩ := bu.fm l af
  exact ⟨kq,l1.trans l2,aj⟩
 | .v _ :: l,S,H,h => bu.fm l h
 | .agg _ :: l,S,H,h => bu.fm l h
 | .bR _ :: l,S,H,h => bu.fm l h
 | .au .. :: l,S,H,h => bu.fm l h
 | .mp .. :: l,S,H,h => bu.fm l h
 | .fn .. :: l,S,H,h => bu.fm l h
 | .dr .. :: l,S,H,h => bu.fm l h
 | .dc .. :: l,S,H,h => bu.fm l h
 | .any :: l,S,H,h => bu.fm l h
 | .ptr .. :: l,S,H,h => bu.fm l h
theorem aa0 {S : ak} {i j : Nat} {t : TypeId} {cs : List av} (h : al S.O j = some (.box t cs)) : al (S.nu i).O j = some (.box t cs) := by
 unfold ak.nu
 split
 ·rename_i aH; simp only [ak.eK,lj]; rw [if_neg (fun e => by subst e; rw [h] at aH; cases aH)]; exact h
 ·rename_i aH; simp only [ak.eK,lj]; rw [if_neg (fun e => by subst e; rw [h] at aH; cases aH)]; exact h
 ·exact h
theorem qP {j : Nat} {t : TypeId} {cs : List av} : ∀ (l : List av) {S : ak},al S.O j = some (.box t cs) → al (S.fm l).O j = some (.box t cs)
 | [],_,h => h
 | .own i :: l,S,h => qP l (aa0 h)
 | .v _ :: l,S,h => qP l h
 | .agg _ :: l,S,h => qP l h
 | .bR _ :: l,S,h => qP l h
 | .au .. :: l,S,h => qP l h
 | .mp .. :: l,S,h => qP l h
 | .fn .. :: l,S,h => qP l h
 | .dr .. :: l,S,h => qP l h
 | .dc .. :: l,S,h => qP l h
 | .any :: l,S,h => qP l h
 | .ptr .. :: l,S,h => qP l h
theorem bu.wM (h : bu N w0 H0 S E a w H) (i : Nat) : ∃ H',g7 H H' ∧ bu N w0 H0 (S.wM i) E a w H' := by
 unfold ak.wM
 split
 ·rename_i t cs aH
  obtain ⟨H1,l1,af⟩ := h.fm cs
  have n6 := qP cs aH
  split
  ·rename_i ys a1
   obtain ⟨b,vs,a2,a8,cg,e7,h9,lH⟩ := af.ob _ _ n6
   obtain ⟨et,dP,nL⟩ := GW af.ob h9 a1
   obtain ⟨kq,l2,aj⟩ := af.fS (x := .dc ys 0) ⟨_,n6,rfl⟩ a2 rfl (fun e he => ⟨rfl,b,rfl,rfl⟩) ⟨_,e7,by
    have := ca.dc (H := H1.add b (.cells vs.toArray t (0,0))) (E := ep) (off := 0) (b := b) (o := 0) (et.mono (bg.wB cg) (fK.refl _)) (nL lH) (fun j u hu => ⟨_,_,_,bg.wA _ _ _,by simpa using hu⟩)
    simpa using this⟩
   exact ⟨kq,l1.trans l2,aj⟩
  ·exact ⟨H1,l1,af⟩
 ·exact ⟨H,g7.refl _,h⟩
theorem bu.jl (h : bu N w0 H0 S E a w H) (x : av) : ∃ H',g7 H H' ∧ bu N w0 H0 (S.jl x) E a w H' := by
 cases x with
 | own i => exact h.nu i
 | ptr i _ _ => exact h.wM i
 | agg cs => exact h.fm cs
 | _ => exact ⟨H,g7.refl _,h⟩
theorem bu.mc : ∀ (l : List Operand) {S : ak} {H : bg},bu N w0 H0 S E a w H → ∃ H',g7 H H' ∧ bu N w0 H0 (S.mc l) E a w H'
 | [],S,H,h => ⟨H,g7.refl _,h⟩
 | x :: l,S,H,h => by
  unfold ak.mc
  split
  ·rename_i s _
   obtain ⟨H1,l1,af⟩ := h.jl s
   obtain ⟨kq,l2,aj⟩ := bu.mc l af
   exact ⟨kq,l1.trans l2,aj⟩
  ·exact bu.mc l h

theorem eD.Qz {k : Nat} : ∀ (es : List (List av)) (xs : List Value),xs.length = es.length * k →
  (∀ i e,es[i]? = some e → ∃ vs,vs.length = k ∧ db H ep e vs ∧ e.all av.one = true ∧ ∀ j u,vs[j]? = some u → xs[i * k + j]? = some u) → eD H k es xs
 | [],xs,aF,_ => by simp at aF; subst aF; exact .nil
 | e :: es,xs,aF,h => by
  simp only [List.length_cons,Nat.add_mul,Nat.one_mul] at aF
  obtain ⟨vs,af,aj,aw,aV⟩ := h 0 e rfl
  have bj : xs.take k = vs := by
   apply List.ext_getElem?
   intro j
   rcases Nat.lt_or_ge j k with aM | aM
   ·have := aV j vs[j] (by simp)
    simp at this
    rw [List.getElem?_take,if_pos aM,this]; simp
   ·rw [List.getElem?_eq_none (by simp; omega),List.getElem?_eq_none (by omega)]
  have dO := eD.Qz (k := k) es (xs.drop k) (by simp [aF]) (fun i e1 he => by
   obtain ⟨lz,bE,bP,cK,a4⟩ := h (i + 1) e1 (by simpa using he)
   refine ⟨lz,bE,bP,cK,fun j u hu => ?_⟩
   have := a4 j u hu
   rw [List.getElem?_drop,← this]; congr 1; rw [Nat.add_mul]; omega)
  have fs : xs = vs ++ xs.drop k := by rw [← bj,List.take_append_drop]
  rw [fs]
  exact .cons aj af aw dO
end

theorem get_eq {α : Type} {l : List α} {i j : Nat} (h : i = j) : l[i]? = l[j]? := by rw [h]

def Told (N : Nat) (w0 : World) (H0 : bg) (o : Oper) (K : ak → Prop) (a : Act) (w : World) : Prop :=
 o.wp Tryz.prog a w (fun dD w' => ∃ S' E' H',K S' ∧ bu N w0 H0 S' E' dD w' H') zW

section
variable {N : Nat} {w0 w w' : World} {H0 H H' : bg} {S : ak} {E : Env} {a : Act} {o : Oper} {K : ak → Prop}

theorem aiB (aN : bu N w0 H0 S E a w H) (aX : ∀ t,o.dst = some t → t < N) {xs s} (aH : Good o S E xs s) (aB : K (S.bX o.dst s)) : Told N w0 H0 o K a w := by
 refine Oper.CH ?_ (aH w0.heap.size a w H aN.sub aN.ob (aN.cP xs))
 rintro dD w' ⟨v,H',rfl,g,r⟩
 exact ⟨_,E,H',aB,(aN.grown g).put r aX⟩

theorem Ug (aN : bu N w0 H0 S E a w H) (aX : ∀ t,o.dst = some t → t < N) {t : TypeId} {cs : List av} {vs : List Value} (az : db H E cs vs) (af : cs.all av.one = true)
  (he : (execOp a.eval o).run Tryz.prog w = .ok (.value (.pointer (some ⟨w.heap.size,0,none⟩))) (w.alloc (.cells vs.toArray t))) (aB : K ((S.fH (.box t cs)).bX o.dst (.ptr S.n 0 0))) : Told N w0 H0 o K a w := by
 obtain ⟨E',dh⟩ := aN.afa az af aX
 unfold Told Oper.wp
 rw [he]
 exact ⟨_,E',H,aB,dh⟩

theorem aie (aN : bu N w0 H0 S E a w H) (aX : ∀ t,o.dst = some t → t < N) {t i z} {dz : List dX} (ay : o.op = .alloc t) (aq : Tryz.prog.info? t = some i) (bO : i.zero = some z) (hB : z.cells.toList = dz.map dX.val)
  (aB : K ((S.fH (.box t (dz.map dX.hX))).bX o.dst (.ptr S.n 0 0))) : Told N w0 H0 o K a w := by
 refine Ug aN aX (yd H E dz) (zE dz) ?_ aB
 have e : (dz.map dX.val).toArray = z.cells := by rw [← hB]
 rw [e]
 simp [execOp,ay,Instr.alloc,xO aq bO,newVar,newRow]

theorem aii (aN : bu N w0 H0 S E a w H) (aX : ∀ t,o.dst = some t → t < N) {t x s} (ay : o.op = .box t x) (ar : S.bf x = some s) (af : s.cells.all av.one = true)
  (aB : K ((S.fH (.box t s.cells)).bX o.dst (.ptr S.n 0 0))) : Told N w0 H0 o K a w := by
 refine Ug aN aX (yo (aN.cP [x] x (by simp) s ar) af) af ?_ aB
 simp [execOp,ay,Instr.box,newVar,newRow]

theorem F8 (he : (execOp a.eval o).run Tryz.prog w = .ok .skip w') (aX : o.dst = none) {S' : ak} {E' : Env} {H' : bg} (dL : bu N w0 H0 S' E' a w' H') (aB : K S') : Told N w0 H0 o K a w := by
 unfold Told Oper.wp
 rw [he,Oper.upon_skip,aX]
 exact ⟨S',E',H',aB,dL⟩

theorem aiy (aN : bu N w0 H0 S E a w H) (aX : o.dst = none) {t gf x y i idx off v t' cs} (ay : o.op = .store t x y) (aq : Tryz.prog.info? t = some gf) (ar : S.bf x = some (.ptr i idx off)) (a1 : S.bf y = some v)
  (aH : al S.O i = some (.box t' cs)) (aF : v.cells.length = gf.size) (af : v.cells.all av.one = true) (aJ : off + gf.size ≤ cs.length)
  (aB : K (S.eK i (.box t' (cs.take off ++ v.cells ++ cs.drop (off + gf.size))))) : Told N w0 H0 o K a w := by
 have cU := aN.cP [x] x (by simp) _ ar
 have h3 := aN.cP [y] y (by simp) _ a1
 generalize hA : a.eval x = jK at cU
 generalize iy : a.eval y = hh at h3
 cases cU with
 | ptr bK =>
  rename_i kL dA b
  obtain ⟨fO,vs,a2,a8,cg,e7,h9,lH⟩ := aN.ob _ _ aH
  rw [bK] at a2; cases a2
  have hC := yo h3 af
  have gz := hC.length
  have PJ := h9.length
  rw [aF] at gz
  simp only [Array.length_toList] at gz
  have vm : jN w b vs.toArray t' := e7
  have c8 := KM (P := Tryz.prog) t b vs.toArray t' vm hh off (by rw [aq]; simp [gz]) (by simp; omega) (fun u hu => hC.one af u hu)
  have hp : tu w b (vs.take off ++ hh.cells.toList ++ vs.drop (off + hh.cells.size)).toArray t' (w.setRow b (vs.take off ++ hh.cells.toList ++ vs.drop (off + hh.cells.size)).toArray) := Fs vm
  have kA := aN.o1 (o' := .box t' (cs.take off ++ v.cells ++ cs.drop (off + gf.size))) ⟨_,aH,rfl⟩ bK (fun k _ aB => hp.same k aB) (by rw [hp.size]; exact Nat.le_refl _) hp.os hp.tape hp.output
   ⟨b,vs.take off ++ hh.cells.toList ++ vs.drop (off + hh.cells.size),bK,a8,cg,hp.box,((h9.take off).append hC).append (by rw [gz]; exact h9.drop _),GU lH af⟩ rfl
  refine F8 ?_ aX kA aB
  simp only [List.toList_toArray] at c8
  simp [execOp,ay,hA,iy,c8]

theorem aiA (aN : bu N w0 H0 S E a w H) (aX : o.dst = none) {t gf x y i idx off v e cs} (ay : o.op = .store t x y) (aq : Tryz.prog.info? t = some gf) (ar : S.bf x = some (.ptr i idx off)) (a1 : S.bf y = some v)
  (aH : al S.O i = some (.hN e cs)) (g4 : gf.size = 1) (af : v.one = true) (aJ : idx + off < cs.length)
  (aB : K (S.eK i (.hN e (cs.set (idx + off) v)))) : Told N w0 H0 o K a w := by
 have cU := aN.cP [x] x (by simp) _ ar
 have h3 := aN.cP [y] y (by simp) _ a1
 generalize hA : a.eval x = jK at cU
 generalize iy : a.eval y = hh at h3
 cases cU with
 | ptr bK =>
  rename_i kL dA b
  obtain ⟨fO,cap,cur,a2,a8,cg,e7,h9,lH,nY⟩ := aN.ob _ _ aH
  rw [bK] at a2; cases a2
  have ue := h3.Fk af
  have Et : hh.cells = #[hh] := by cases hh <;> simp_all [Value.cells,Value.oneCell']
  have vm : jN w b cur e := e7
  have c8 := KM (P := Tryz.prog) t b cur e vm hh (idx + off) (by rw [aq]; simp [Et,g4]) (by rw [Et]; simp; omega) (fun u hu => by rw [Et] at hu; simp at hu; subst hu; exact ue)
  rw [Et] at c8
  have BB : (cur.toList.take (idx + off) ++ [hh] ++ cur.toList.drop (idx + off + 1)) = cur.toList.set (idx + off) hh := by
   rw [List.set_eq_take_append_cons_drop,if_pos (by simp; omega)]; simp
  simp only [List.toList_toArray,List.size_toArray,List.length_cons,List.length_nil,Nat.zero_add,BB] at c8
  have hp : tu w b (cur.toList.set (idx + off) hh).toArray e (w.setRow b (cur.toList.set (idx + off) hh).toArray) := Fs vm
  have kA := aN.o1 (o' := .hN e (cs.set (idx + off) v)) ⟨_,aH,rfl⟩ bK (fun k _ aB => hp.same k aB) (by rw [hp.size]; exact Nat.le_refl _) hp.os hp.tape hp.output
   ⟨b,cap,(cur.toList.set (idx + off) hh).toArray,by rw [List.length_set]; exact bK,a8,cg,hp.box,by rw [List.length_set]; simpa using h9,by
    rw [List.length_set]
    simp only [List.toList_toArray]
    rw [List.take_set]
    exact lH.set h3 _,by
    rw [List.all_eq_true] at nY ⊢
    intro z bO
    rcases List.mem_or_eq_of_mem_set bO with bO | rfl
    ·exact nY z bO
    ·exact af⟩ rfl
  refine F8 ?_ aX kA aB
  simp only [Nat.mul_one] at hA
  simp [execOp,ay,hA,iy,c8]

theorem aiz (aN : bu N w0 H0 S E a w H) (aX : o.dst = none) {t gf x y i idx off v gY e dx es c} (ay : o.op = .store t x y) (aq : Tryz.prog.info? t = some gf) (ar : a.eval x = a.eval x) (cU : ca H E (.ptr i idx off) (a.eval x)) (h3 : ca H E v (a.eval y)) (bj : S.arg v = some gY)
  (aH : al S.O i = some (.row e dx es)) (aF : gY.cells.length = gf.size) (af : gY.cells.all av.one = true) (hp : gY.cells.all av.pure = true) (az : es[idx]? = some c) (aJ : off + gf.size ≤ c.length)
  (aB : K (S.eK i (.row e dx (es.set idx (c.take off ++ gY.cells ++ c.drop (off + gf.size)))))) : Told N w0 H0 o K a w := by
 have e9 := z8 aN.ob h3 bj
 generalize hA : a.eval x = jK at cU
 generalize iy : a.eval y = hh at e9
 have hC := yo e9 af
 have gz := hC.length
 rw [aF] at gz
 simp only [Array.length_toList] at gz
 cases cU with
 | ptr bK =>
  rename_i kL dA g
  obtain ⟨u,ob,xs,a2,Ei,a8,cg⟩ := aN.ob _ _ aH
  rw [bK] at a2; cases a2
  rcases cg with ⟨rfl,_⟩ | ⟨j6,cap,cur,bE,rfl,cK,a4,fY,ho,l8,tw,l9,hT⟩
  ·simp at az
  cases bE
  have AZ := (List.getElem?_eq_some_iff.1 az).1
  obtain ⟨vs,cw,c2,eE,hb⟩ := a8.get az
  have PJ := c2.length
  have hm : (idx + 1) * dx ≤ es.length * dx := Nat.mul_le_mul_right dx AZ
  have w7 : es.length * dx ≤ cap * dx := Nat.mul_le_mul_right dx ho
  rw [Nat.add_mul,Nat.one_mul] at hm
  have vm : jN w g cur e := fY
  have c8 := KM (P := Tryz.prog) t g cur e vm hh (idx * dx + off) (by rw [aq]; simp [gz]) (by omega) (fun u hu => hC.one af u hu)
  obtain ⟨oy,Eb⟩ : ∃ oy,oy = (cur.toList.take (idx * dx + off) ++ hh.cells.toList ++ cur.toList.drop (idx * dx + off + hh.cells.size)) := ⟨_,rfl⟩
  rw [← Eb] at c8
  have lU : tu w g oy.toArray e (w.setRow g oy.toArray) := Fs vm
  have hlen : oy.length = cur.size := by rw [Eb]; simp; omega
  have vu : db H ep (c.take off ++ gY.cells ++ c.drop (off + gf.size)) (vs.take off ++ hh.cells.toList ++ vs.drop (off + gf.size)) :=
   ((c2.take off).append (hC.pure ep hp)).append (c2.drop _)
  have kA := aN.o1 (o' := .row e dx (es.set idx (c.take off ++ gY.cells ++ c.drop (off + gf.size)))) ⟨_,aH,rfl⟩ bK (fun k _ aB => lU.same k aB) (by rw [lU.size]; exact Nat.le_refl _) lU.os lU.tape lU.output
   ⟨_,some g,oy.take (es.length * dx),bK,Ei,eD.Qz _ _ (by rw [List.length_take,hlen,List.length_set,l9]; exact Nat.min_eq_left w7) (fun j e1 tT => ?_),.inr ⟨g,cap,oy.toArray,rfl,by simp,cK,a4,lU.box,by simpa using ho,l8,fun e => tw (by simpa using e),by simp [hlen,l9],by simp⟩⟩ rfl
  ·refine F8 ?_ aX kA aB
   simp [execOp,ay,hA,iy,c8]
  ·have A2 : j < es.length := by have := (List.getElem?_eq_some_iff.1 tT).1; simpa using this
   have acY : (j + 1) * dx ≤ es.length * dx := Nat.mul_le_mul_right dx A2
   rw [Nat.add_mul,Nat.one_mul] at acY
   by_cases m9 : idx = j
   ·subst m9
    rw [List.getElem?_set_self AZ] at tT
    cases tT
    refine ⟨_,by simp; omega,vu,GU eE af,fun q qu aS => ?_⟩
    have Eu := (List.getElem?_eq_some_iff.1 aS).1
    simp at Eu
    rw [List.getElem?_take,if_pos (by omega),Eb]
    have hold : ∀ zb,zb < dx → cur.toList[idx * dx + zb]? = vs[zb]? := fun zb PB => by
     have := hb zb vs[zb] (by simp)
     rw [← hT,List.getElem?_take,if_pos (by omega)] at this
     rw [this]; simp
    rcases Nat.lt_or_ge q off with dh | dh
    ·rw [List.append_assoc,List.getElem?_append_left (by simp; omega),List.getElem?_take,if_pos (by omega),hold q (by omega)]
     rw [List.append_assoc,List.getElem?_append_left (by simp; omega),List.getElem?_take,if_pos dh] at aS
     exact aS
    rcases Nat.lt_or_ge q (off + gf.size) with aj | aj
    ·rw [List.append_assoc,List.getElem?_append_right (by simp; omega),List.getElem?_append_left (by simp; omega)]
     rw [List.append_assoc,List.getElem?_append_right (by simp; omega),List.getElem?_append_left (by simp; omega)] at aS
     rw [← aS]; exact get_eq (by simp; omega)
    ·rw [List.getElem?_append_right (by simp; omega),List.getElem?_drop]
     rw [List.getElem?_append_right (by simp; omega),List.getElem?_drop] at aS
     have gH : idx * dx + off + hh.cells.size + (idx * dx + q - (cur.toList.take (idx * dx + off) ++ hh.cells.toList).length) = idx * dx + q := by simp; omega
     rw [gH,hold q (by omega),← aS]
     exact get_eq (by simp; omega)
   ·rw [List.getElem?_set_ne m9] at tT
    obtain ⟨lz,d1,d2,d3,d4⟩ := a8.get tT
    refine ⟨lz,d1,d2,d3,fun q qu aS => ?_⟩
    have Eu := (List.getElem?_eq_some_iff.1 aS).1
    have O6 := d4 q qu aS
    rw [← hT,List.getElem?_take,if_pos (by omega)] at O6
    rw [List.getElem?_take,if_pos (by omega),Eb,← O6]
    rcases Nat.lt_or_ge j idx with bN | Pj
    ·have := Nat.mul_le_mul_right dx (show j + 1 ≤ idx from bN)
     rw [Nat.add_mul,Nat.one_mul] at this
     rw [List.append_assoc,List.getElem?_append_left (by simp; omega),List.getElem?_take,if_pos (by omega)]
    ·have := Nat.mul_le_mul_right dx (show idx + 1 ≤ j by omega)
     rw [Nat.add_mul,Nat.one_mul] at this
     rw [List.getElem?_append_right (by simp; omega),List.getElem?_drop]
     exact get_eq (by simp; omega)
end

section
variable {N : Nat} {w0 w w' : World} {H0 H H' : bg} {S : ak} {E : Env} {a : Act} {o : Oper} {K : ak → Prop}

theorem bu.by (h : bu N w0 H0 S E a w H) {row : Option Nat} (g : w.grownBy w' row) (pk : ∀ b,row = some b → w0.heap.size ≤ b ∧ H b = none ∧ ∀ j u k,mQ S j → E j ≠ some (u,k,some b)) : bu N w0 H0 S E a w' H := by
 have aB : ∀ k,k < w.heap.size → (∀ b,row = some b → k ≠ b) → w'.heap[k]? = w.heap[k]? := fun k aB a7 => g.block k aB (fun e => a7 k e.symm rfl)
 refine ⟨⟨⟨g.os.trans h.grow.below.os,g.tape.trans h.grow.below.tape,g.output.trans h.grow.below.output,Nat.le_trans h.grow.below.size g.size,fun k iR => ?_⟩,⟨fun k o iR => ?_,h.grow.sub.qQ⟩,h.grow.old⟩,h.kK,fun j o aM => ?_,h.ap,h.cS,h.jg,h.kv⟩
 ·exact (aB k (Nat.lt_of_lt_of_le iR h.grow.below.size) (fun b aJ e => by have := (pk b aJ).1; omega)).trans (h.grow.below.block k iR)
 ·exact (aB k (h.sub.lt iR) (fun b aJ e => by subst e; rw [(pk k aJ).2.1] at iR; cases iR)).trans (h.sub k o iR)
 ·cases row with
  | none => exact (h.ob j o aM).eH (b := w.heap.size) (fun aF u k e => absurd (h.vJ ⟨o,aM,aF⟩ e).2.2 (by omega)) (fun k iR _ => aB k iR (fun b aJ => by cases aJ))
  | some b => exact (h.ob j o aM).eH (b := b) (fun aF u k => (pk b rfl).2.2 j u k ⟨o,aM,aF⟩) (fun k iR dd => aB k iR (fun fO aJ => by cases aJ; exact dd))

theorem uG (aN : bu N w0 H0 S E a w H) (aX : ∀ t,o.dst = some t → t < N) {ob : bl} {p : Value × Nat × Option Nat} {row : Option Nat} (he : (execOp a.eval o).run Tryz.prog w = .ok (.value p.1) w')
  (g : w.grownBy w' row) (pk : ∀ b,row = some b → w0.heap.size ≤ b ∧ H b = none ∧ ∀ j u k,mQ S j → E j ≠ some (u,k,some b)) (ay : pN w0.heap.size H (E.set S.n p) w' S.n ob) (af : p.1.oneCell' = true)
  (aJ : ∀ b,p.2.2 = some b → w.heap.size ≤ b ∨ row = some b) (aB : K ((S.fH ob).bX o.dst (.own S.n))) : Told N w0 H0 o K a w := by
 have dh := aN.by g pk
 have dS := dh.new ay (fun b jC i aF u k bK => by
  rcases aJ b jC with h | h
  ·exact absurd (aN.vJ aF bK).2.2 (by omega)
  ·exact (pk b h).2.2 i u k aF bK)
 unfold Told Oper.wp
 rw [he]
 exact ⟨_,_,H,aB,dS.put (.own (Env.iB _ _ p) af) aX⟩

theorem aiu (aN : bu N w0 H0 S E a w H) (aX : ∀ t,o.dst = some t → t < N) {t e i z n m fk} {dz : List dX} (ay : o.op = .makeSlice t n n) (hu : Tryz.prog.underlying t = some (.slice e)) (aq : Tryz.prog.info? e = some i) (bO : i.zero = some z) (hB : z.cells.toList = dz.map dX.val) (g4 : z.cells.size = i.size) (fz : 0 < i.size)
  (a7 : S.bf n = some (.v (.int fk m))) (bb : 0 ≤ m) (tN : m ≤ 1000000) (aJ : m.toNat * i.bytes ≤ 140737488355328) (aB : K ((S.fH (.row e i.size (List.replicate m.toNat (dz.map dX.hX)))).bX o.dst (.own S.n))) : Told N w0 H0 o K a w := by
 have ba := aN.cP [n] n (by simp) _ a7
 generalize aS : a.eval n = q at ba
 cases ba
 obtain ⟨M,rfl⟩ := Int.eq_ofNat_of_zero_le bb
 simp only [Int.toNat_natCast] at aJ aB
 have c8 := Rw (P := Tryz.prog) w t e i z i.size hu aq bO rfl fk fk M (by omega) aJ
 refine uG aN aX (ob := .row e i.size (List.replicate M (dz.map dX.hX))) (p := (.slice (some ⟨w.heap.size,0,none⟩) M M,i.size,some w.heap.size)) (row := none) (w' := w.alloc (.cells ((Array.range (M * i.size)).map (fun j => z.cells[j % z.cells.size]!)) e)) (by simp [execOp,ay,aS,c8]) ⟨rfl,rfl,rfl,by simp,fun k aB _ => Below.heap_alloc w _ k aB⟩ (fun b aJ => by cases aJ)
  ⟨_,some w.heap.size,_,Env.iB _ _ _,fz,UK (n := M) hB g4 fz,.inr ⟨w.heap.size,M,_,rfl,by simp,aN.grow.below.size,aN.sub.none (Nat.le_refl _),heap_alloc_new w _,by simp,by unfold maxLen; omega,fun e => (by simpa using e),by simp,by rw [List.length_replicate,List.take_of_length_le (by simp)]⟩⟩ rfl (fun b aJ => by cases aJ; exact .inl (Nat.le_refl _)) aB

theorem aih (aN : bu N w0 H0 S E a w H) (aX : ∀ t,o.dst = some t → t < N) {t e i z parts xs es} (ay : o.op = .buildSlice t xs.length parts) (hu : Tryz.prog.underlying t = some (.slice e)) (aq : Tryz.prog.info? e = some i) (bO : i.zero = some z) (hB : z.cells.size = i.size) (fz : 0 < i.size)
  (hp : parts.toList = idxs 0 xs) (aF : xs.length * i.size ≤ 16777216) (he : S.elems i.size xs = some es) (aB : K ((S.fH (.row e i.size es)).bX o.dst (.own S.n))) : Told N w0 H0 o K a w := by
 obtain ⟨out,c8,ba,a7⟩ := aht ay hu aq bO hB fz hp aF he aN.ob (aN.cP xs)
 have g4 : out.size = xs.length * i.size := by have := ba.length; rw [a7] at this; simpa using this
 have ar : xs.length ≤ 16777216 := by have := Nat.le_mul_of_pos_right xs.length fz; omega
 refine uG aN aX (ob := .row e i.size es) (p := (.slice (some ⟨w.heap.size,0,none⟩) xs.length xs.length,i.size,some w.heap.size)) (row := none) (w' := w.alloc (.cells out e)) c8 ⟨rfl,rfl,rfl,by simp,fun k aB _ => Below.heap_alloc w _ k aB⟩ (fun b aJ => by cases aJ)
  ⟨_,some w.heap.size,out.toList,Env.iB _ _ _,fz,ba,.inr ⟨w.heap.size,xs.length,out,rfl,by rw [a7],aN.grow.below.size,aN.sub.none (Nat.le_refl _),heap_alloc_new w _,by omega,by unfold maxLen; omega,fun gH => by rw [gH] at a7; simpa using a7.symm,g4,by rw [a7,List.take_of_length_le (by simp [g4])]⟩⟩ rfl (fun b aJ => by cases aJ; exact .inl (Nat.le_refl _)) aB

theorem ait (aN : bu N w0 H0 S E a w H) (aX : ∀ t,o.dst = some t → t < N) {t bc : TypeId} (ay : o.op = .makeMap t none) (aB : K ((S.fH (.map bc 0 fun _ => none)).bX o.dst (.own S.n))) : Told N w0 H0 o K a w :=
 uG aN aX (ob := .map bc 0 fun _ => none) (p := (.map (some w.heap.size),0,some w.heap.size)) (row := none) (w' := w.alloc (.map #[] 0)) (by simp [execOp,ay,run_makeMap]) ⟨rfl,rfl,rfl,by simp,fun k aB _ => Below.heap_alloc w _ k aB⟩ (fun b aJ => by cases aJ)
  ⟨_,.map #[] 0,fun _ => none,Env.iB _ _ _,aN.grow.below.size,aN.sub.none (Nat.le_refl _),heap_alloc_new w _,hR.made,by omega,fun j => by simp,fun j s u h => by cases h⟩ rfl (fun b aJ => by cases aJ; exact .inl (Nat.le_refl _)) aB

theorem B2 {B : Nat} {e : TypeId} {k n : Nat} {v : Value} {xs : List Value} {es : List (List av)} (h : w.ownsRow B e k v n xs) (ax : eD H k es xs) (a7 : es.length = n) (fz : 0 < n) :
  ∃ g cap cur,v = .slice (some ⟨g,0,none⟩) es.length cap ∧ B ≤ g ∧ w.heap[g]? = some (.cells cur e (0,0)) ∧ es.length ≤ cap ∧ cap ≤ maxLen ∧ cur.size = cap * k ∧ cur.toList.take (es.length * k) = xs := by
 subst a7
 rcases h.2 with ⟨_,bb⟩ | ⟨g,cap,cur,af,aj,aw,aV,bF,bH,cA⟩
 ·omega
 ·exact ⟨g,cap,cur,af,aj,aw,aV,bF,bH,cA⟩

theorem Uf (aN : bu N w0 H0 S E a w H) (aX : ∀ t,o.dst = some t → t < N) {t e i z x y es ys k2 f2} (ay : o.op = .call ⟨.builtin .append,#[x,y],#[t,t]⟩) (aO : Tryz.prog.underlying t = some (.slice e)) (aq : Tryz.prog.info? e = some i) (bO : i.zero = some z) (hB : z.cells.size = i.size) (fz : 0 < i.size)
  {g1 : Nat} (cU : ca H E (.au i.size g1 es) (a.eval x)) (n6 : g1 = 1 ∨ (g1 = 0 ∧ es = [])) (a1 : S.bf y = some (.au k2 f2 ys)) (aG : k2 = i.size) (hm : es = [] ∨ 0 < ys.length) (c4 : es.length + ys.length ≤ 140737488355328) (dm : (es.length + ys.length) * i.bytes ≤ 140737488355328)
  (aB : K ((S.fH (.row e i.size (es ++ ys))).bX o.dst (.own S.n))) : Told N w0 H0 o K a w := by
 subst aG
 have h3 := aN.cP [y] y (by simp) _ a1
 generalize hA : a.eval x = jK at cU
 generalize iy : a.eval y = hh at h3
 obtain ⟨bE,n,c,rfl⟩ : ∃ a n c,jK = .slice a n c := by cases cU; exact ⟨_,_,_,rfl⟩
 obtain ⟨bP,m,c2,rfl⟩ : ∃ a n c,hh = .slice a n c := by cases h3; exact ⟨_,_,_,rfl⟩
 obtain ⟨us,eJ,fu,fM,_,oi,k4,hg⟩ := ra aN.sub cU
 obtain ⟨vs,bL,cd,dV,_,fW,ja,lu⟩ := ra aN.sub h3
 subst fu; subst cd
 by_cases bb : 0 < ys.length
 ·cases bP with
  | none => have := ja rfl; omega
  | some fr =>
   have kC : es.length + ys.length ≤ maxLen := by unfold maxLen; omega
   obtain ⟨gY,w',c8,et,dP⟩ := KJ (P := Tryz.prog) (w := w) (k := i.size) t o.type e i z aO aq bO hB fz (c2 := c2) eJ.length eJ.one (oi.full n6) k4 hg bL.length bL.one (lu fr rfl) bb kC dm
   obtain ⟨g,cap,cur,rfl,s2,sm,sn,so,tf,sq⟩ := B2 et (eJ.append bL) (by simp) (by omega)
   refine uG aN aX (ob := .row e i.size (es ++ ys)) (p := (.slice (some ⟨g,0,none⟩) (es ++ ys).length cap,i.size,some g)) (row := none) (w' := w') (by simp [execOp,ay,resolve,hA,iy,invoke,builtin,c8]) dP (fun b aJ => by cases aJ)
    ⟨_,some g,_,Env.iB _ _ _,fz,eJ.append bL,.inr ⟨g,cap,cur,rfl,rfl,Nat.le_trans aN.grow.below.size s2,aN.sub.none s2,sm,sn,so,fun e => absurd (List.append_eq_nil_iff.1 e).2 (fun e => by simp [e] at bb),tf,sq⟩⟩ rfl (fun b aJ => by cases aJ; exact .inl s2) aB
 ·have he : es = [] := hm.resolve_right bb
  have oc : ys = [] := List.eq_nil_of_length_eq_zero (by omega)
  subst he; subst oc
  have az := oi.full n6
  simp only [List.length_nil] at az hA iy
  subst az
  have c8 : (Builtin.append_ #[t,t] o.type #[.slice bE 0 0,.slice bP 0 c2]).run Tryz.prog w = .ok (.slice bE 0 0) w := by
   have aF : ∀ (x : Addr),(loadCells x 0).run Tryz.prog w = .ok #[] w := fun x => by simpa using run_loadCells_list (P := Tryz.prog) w x [] (by simp)
   cases bE <;> cases bP <;> simp [Builtin.append_,run_underlying aO,run_sizeOf aq,Builtin.lenOf,Builtin.firstCells,aF,storeCells]
  refine uG aN aX (ob := .row e i.size []) (p := (.slice bE 0 0,i.size,none)) (row := none) (w' := w) (by simp [execOp,ay,resolve,hA,iy,invoke,builtin,c8]) ⟨rfl,rfl,rfl,Nat.le_refl _,fun k aB _ => rfl⟩ (fun b aJ => by cases aJ)
   ⟨_,none,[],Env.iB _ _ _,fz,.nil,.inl ⟨rfl,rfl,bE,rfl⟩⟩ rfl (fun b aJ => by cases aJ) (by simpa using aB)

theorem HQ {α : Type} {l : List (Nat × α)} {i j : Nat} {x : α} (h : al (dC l i) j = some x) : al l j = some x ∧ i ≠ j := rE h

theorem aif (aN : bu N w0 H0 S E a w H) (aX : ∀ t,o.dst = some t → t < N) {t e i z x y gD es ys k2 f2} (ay : o.op = .call ⟨.builtin .append,#[x,y],#[t,t]⟩) (aO : Tryz.prog.underlying t = some (.slice e)) (aq : Tryz.prog.info? e = some i) (bO : i.zero = some z) (hB : z.cells.size = i.size) (fz : 0 < i.size)
  (ar : S.bf x = some (.own gD)) (aH : al S.O gD = some (.row e i.size es)) (a1 : S.bf y = some (.au k2 f2 ys)) (aG : k2 = i.size) (c4 : es.length + ys.length ≤ 140737488355328) (dm : (es.length + ys.length) * i.bytes ≤ 140737488355328)
  (aB : K ((ak.fH ⟨S.T,dC S.O gD,S.n⟩ (.row e i.size (es ++ ys))).bX o.dst (.own S.n))) : Told N w0 H0 o K a w := by
 have cU := aN.cP [x] x (by simp) _ ar
 have ej : bu N w0 H0 ⟨S.T,dC S.O gD,S.n⟩ E a w H := aN.less (fun _ _ h => h) (fun i o h => (HQ h).1) rfl
 obtain ⟨u,ob,xs,a2,Ei,a8,cg⟩ := aN.ob _ _ aH
 have lM : a.eval x = u := by
  generalize a.eval x = jK at cU
  cases cU with
  | own bK _ => rw [bK] at a2; cases a2; rfl
 rcases cg with ⟨rfl,rfl,fr,rfl⟩ | ⟨g,cap,cur,rfl,rfl,cK,a4,fY,ho,l8,tw,l9,hT⟩
 ·refine Uf (es := []) (g1 := 1) ej aX ay aO aq bO hB fz ?_ (.inl rfl) (S := ⟨S.T,dC S.O gD,S.n⟩) (y := y) (ys := ys) (k2 := k2) (f2 := f2) ?_ aG (.inl rfl) c4 dm aB
  ·rw [lM]; exact .au .nil rfl (Nat.le_refl _) (Nat.zero_le _) ⟨fun _ => rfl,fun _ _ => rfl⟩ (fun _ => rfl) (fun j u hu => by simp at hu)
  ·revert a1
   cases y with
   | tmp ty =>
    simp only [ak.bf,Option.map_eq_some_iff]
    rintro ⟨lv,af,aj⟩
    refine ⟨lv,af,?_⟩
    revert aj
    cases lv <;> simp only [ak.res] <;> intro aj
    case own j =>
     split at aj
     ·rename_i anR aM
      subst aj
      by_cases m9 : gD = j
      ·subst m9; rw [aH] at aM; cases aM
      ·rw [vh _ m9,aM]
     ·cases aj
    case ptr j idx off => split at aj <;> cases aj
    all_goals exact aj
   | const v => intro h; exact h
   | func f => intro h; exact h
   | global g => intro h; exact h
 ·subst aG
  have h3 := aN.cP [y] y (by simp) _ a1
  generalize iy : a.eval y = hh at h3
  obtain ⟨bP,m,c2,rfl⟩ : ∃ a n c,hh = .slice a n c := by cases h3; exact ⟨_,_,_,rfl⟩
  obtain ⟨vs,bL,cd,dV,_,fW,ja,lu⟩ := ra aN.sub h3
  subst cd
  have jF : ∀ j u k,mQ (⟨S.T,dC S.O gD,S.n⟩ : ak) j → E j ≠ some (u,k,some g) := by
   rintro j u k ⟨o',aM,aF⟩ he
   obtain ⟨aM,dd⟩ := HQ aM
   exact aN.ap gD j dd ⟨_,aH,rfl⟩ ⟨o',aM,aF⟩ g _ _ _ _ a2 he
  have kC : es.length + ys.length ≤ maxLen := by unfold maxLen; omega
  have qZ := a8.append bL
  have lX := a8.length
  have r1 := bL.length
  have a7 : ∀ hm : 0 < es.length + ys.length,∀ (gY : Value) (w' : World) (row : Option Nat),(Builtin.append_ #[t,t] o.type #[.slice (some ⟨g,0,none⟩) es.length cap,.slice bP ys.length c2]).run Tryz.prog w = .ok gY w' → w.grownBy w' row → (row = none ∨ row = some g) →
    (∃ j6 sH oy,gY = .slice (some ⟨j6,0,none⟩) (es ++ ys).length sH ∧ w0.heap.size ≤ j6 ∧ H j6 = none ∧ (w.heap.size ≤ j6 ∨ row = some j6) ∧ w'.heap[j6]? = some (.cells oy e (0,0)) ∧ (es ++ ys).length ≤ sH ∧ sH ≤ maxLen ∧ (es ++ ys = [] → sH = 0) ∧ oy.size = sH * i.size ∧ oy.toList.take ((es ++ ys).length * i.size) = xs ++ vs) → Told N w0 H0 o K a w := by
   rintro _ gY w' row c8 HR pk ⟨j6,sH,oy,rfl,s2,ahx,ahy,sm,sn,so,ahz,tf,sq⟩
   refine uG ej aX (ob := .row e i.size (es ++ ys)) (p := (.slice (some ⟨j6,0,none⟩) (es ++ ys).length sH,i.size,some j6)) (row := row) (w' := w') (by simp [execOp,ay,resolve,lM,iy,invoke,builtin,c8]) HR (fun b aJ => ?_)
    ⟨_,some j6,_,Env.iB _ _ _,fz,qZ,.inr ⟨j6,sH,oy,rfl,rfl,s2,ahx,sm,sn,so,ahz,tf,sq⟩⟩ rfl (fun b aJ => by cases aJ; exact ahy) aB
   rcases pk with rfl | rfl
   ·cases aJ
   ·cases aJ; exact ⟨cK,a4,jF⟩
  have hlen : (es ++ ys).length = es.length + ys.length := by simp
  by_cases bb : 0 < ys.length
  ·cases bP with
   | none => have := ja rfl; omega
   | some fr =>
    by_cases PD : es.length + ys.length ≤ cap
    ·have Iv : es.length * i.size + vs.length ≤ cur.size := by rw [r1,l9,← Nat.add_mul]; exact Nat.mul_le_mul_right _ PD
     have ax := run_append_room (P := Tryz.prog) w t o.type e i aO aq g es.length cap cur fY fr ys.length c2 vs r1 (lu fr rfl) bL.one PD Iv
     refine a7 (by omega) _ _ (some g) ax ⟨rfl,rfl,rfl,by simp [World.setRow],fun k _ aB => setRow_other w g k _ (fun e => aB (by rw [e]))⟩ (.inr rfl) ⟨g,cap,_,by rw [hlen],cK,a4,.inr rfl,setRow_heap w g cur _ e _ fY,by omega,l8,fun e => absurd (List.append_eq_nil_iff.1 e).2 (fun e => by simp [e] at bb),?_,?_⟩
     ·simp only [List.size_toArray,List.length_append,List.length_take,List.length_drop,Array.length_toList]; omega
     ·rw [hT,hlen]
      have : (es.length + ys.length) * i.size = (xs ++ vs).length := by simp [lX,r1,Nat.add_mul]
      rw [this]; exact List.take_left
    ·obtain ⟨gY,w',c8,et,dP⟩ := run_append_arg_grows (P := Tryz.prog) w t o.type e i z i.size i.bytes aO aq bO rfl rfl hB fz ⟨g,0,none⟩ es.length cap xs lX (fun j u hu => by
      rw [Addr.add_lit,← hT,List.getElem?_take] at *
      split at hu
      ·simp [World.cell?,fY]; simpa using hu
      ·cases hu) fr ys.length c2 vs r1 (lu fr rfl) (by omega) kC dm
     obtain ⟨j6,sH,oy,rfl,s2,sm,sn,so,tf,sq⟩ := B2 et qZ (by simp) (by omega)
     exact a7 (by omega) _ _ none c8 dP (.inl rfl) ⟨j6,sH,oy,rfl,Nat.le_trans aN.grow.below.size s2,aN.sub.none s2,.inl s2,sm,sn,so,fun e => absurd (List.append_eq_nil_iff.1 e).2 (fun e => by simp [e] at bb),tf,sq⟩
  ·have oc : ys = [] := List.eq_nil_of_length_eq_zero (by omega)
   subst oc
   have BF : vs = [] := List.eq_nil_of_length_eq_zero (by simpa using r1)
   subst BF
   simp only [List.length_nil] at iy
   have c8 : (Builtin.append_ #[t,t] o.type #[.slice (some ⟨g,0,none⟩) es.length cap,.slice bP 0 c2]).run Tryz.prog w = .ok (.slice (some ⟨g,0,none⟩) es.length cap) w := by
    have aF : ∀ (x : Addr),(loadCells x 0).run Tryz.prog w = .ok #[] w := fun x => by simpa using run_loadCells_list (P := Tryz.prog) w x [] (by simp)
    cases bP <;> simp [Builtin.append_,run_underlying aO,run_sizeOf aq,Builtin.lenOf,Builtin.firstCells,aF,storeCells,ho]
   refine uG ej aX (ob := .row e i.size (es ++ [])) (p := (.slice (some ⟨g,0,none⟩) es.length cap,i.size,some g)) (row := some g) (w' := w) (by simp [execOp,ay,resolve,lM,iy,invoke,builtin,c8]) ⟨rfl,rfl,rfl,Nat.le_refl _,fun k aB _ => rfl⟩ (fun b aJ => by cases aJ; exact ⟨cK,a4,jF⟩)
    ⟨_,some g,_,Env.iB _ _ _,fz,qZ,.inr ⟨g,cap,cur,rfl,by simp,cK,a4,fY,by simpa using ho,l8,fun e => tw (by simpa using e),l9,by simpa using hT⟩⟩ rfl (fun b aJ => by cases aJ; exact .inr rfl) aB

theorem ahu {P : Program} (ei Ld ty elem : TypeId) (i : TypeInfo) (hu : P.underlying ei = some (.slice elem)) (aq : P.info? elem = some i) (g Hm Hl : Nat) (src : Option Addr) (zl Lc : Nat) (cur : Array Value) (t : TypeId) (cs : List Value)
  (aH : w.heap[g]? = some (.cells cur t (0,0))) (a7 : cs.length = Nat.min zl Hm * i.size) (adQ : src = none → zl = 0)
  (EB : ∀ a,src = some a → ∀ j v,cs[j]? = some v → w.cell? (a.add j) = some v) (Iv : cs.length ≤ cur.size) (af : ∀ v ∈ cs,v.oneCell' = true) :
  (Builtin.copy_ #[ei,Ld] ty #[.slice (some ⟨g,0,none⟩) Hm Hl,.slice src zl Lc]).run P w = .ok (goInt (Nat.min zl Hm : Nat)) (w.setRow g (cs ++ cur.toList.drop cs.length).toArray) := by
 have ie := run_storeCells_at P g 0 t cs 0 cur w aH (by simpa using Iv) af
 simp only [Nat.zero_add,List.take_zero,List.nil_append] at ie
 cases src with
 | none =>
  have := adQ rfl
  subst this
  simp at a7
  subst a7
  simp only [List.nil_append,List.length_nil,List.drop_zero] at ie ⊢
  simp [Builtin.copy_,run_underlying hu,Builtin.lenOf,Builtin.firstCells,run_sizeOf aq,ie]
 | some a =>
  have aF := run_loadCells_list (P := P) w a cs (EB a rfl)
  rw [a7] at aF
  simp [Builtin.copy_,run_underlying hu,Builtin.lenOf,Builtin.firstCells,run_sizeOf aq,aF,ie]

theorem ahv {P : Program} (ei Ld ty elem : TypeId) (i : TypeInfo) (hu : P.underlying ei = some (.slice elem)) (aq : P.info? elem = some i) (d : Option Addr) (Hl : Nat) (src : Option Addr) (zl Lc : Nat) :
  (Builtin.copy_ #[ei,Ld] ty #[.slice d 0 Hl,.slice src zl Lc]).run P w = .ok (goInt 0) w := by
 have aF : ∀ (x : Addr),(loadCells x 0).run P w = .ok #[] w := fun x => by simpa using run_loadCells_list (P := P) w x [] (by simp)
 cases d <;> cases src <;> simp [Builtin.copy_,run_underlying hu,Builtin.lenOf,Builtin.firstCells,run_sizeOf aq,aF,storeCells]

theorem rf {v : Value} (he : (execOp a.eval o).run Tryz.prog w = .ok (.value v) w') (aX : ∀ t,o.dst = some t → t < N) {S' : ak} {E' : Env} {H' : bg} (dL : bu N w0 H0 S' E' a w' H') {s : av} (ax : ca H' E' s v) (aB : K (S'.bX o.dst s)) : Told N w0 H0 o K a w := by
 unfold Told Oper.wp
 rw [he]
 exact ⟨_,E',H',aB,dL.put ax aX⟩

theorem ail (aN : bu N w0 H0 S E a w H) (aX : ∀ t,o.dst = some t → t < N) {t e i x y t2 gD kS es ys k2 f2} (ay : o.op = .call ⟨.builtin .copy,#[x,y],#[t,t2]⟩) (aO : Tryz.prog.underlying t = some (.slice e)) (aq : Tryz.prog.info? e = some i)
  (ar : S.bf x = some (.own gD)) (aH : al S.O gD = some (.row kS i.size es)) (a1 : S.bf y = some (.au k2 f2 ys)) (aG : k2 = i.size)
  (aB : K ((S.eK gD (.row kS i.size (ys.take es.length ++ es.drop ys.length))).bX o.dst (.v (.int .i64 (min ys.length es.length : Nat))))) : Told N w0 H0 o K a w := by
 subst aG
 have cU := aN.cP [x] x (by simp) _ ar
 have h3 := aN.cP [y] y (by simp) _ a1
 obtain ⟨u,ob,xs,a2,Ei,a8,cg⟩ := aN.ob _ _ aH
 have lM : a.eval x = u := by
  generalize a.eval x = jK at cU
  cases cU with
  | own bK _ => rw [bK] at a2; cases a2; rfl
 generalize iy : a.eval y = hh at h3
 obtain ⟨bP,m,c2,rfl⟩ : ∃ a n c,hh = .slice a n c := by cases h3; exact ⟨_,_,_,rfl⟩
 obtain ⟨vs,bL,cd,dV,_,fW,ja,lu⟩ := ra aN.sub h3
 subst cd
 have I0 : Nat.min ys.length es.length = min ys.length es.length := rfl
 rcases cg with ⟨rfl,rfl,fr,rfl⟩ | ⟨g,cap,cur,rfl,rfl,cK,a4,fY,ho,l8,tw,l9,hT⟩
 ·have c8 := ahv (P := Tryz.prog) (w := w) t t2 o.type e i aO aq fr 0 bP ys.length c2
  have aS : (S.eK gD (.row kS i.size (ys.take 0 ++ ([] : List (List av)).drop ys.length))) = S.eK gD (.row kS i.size []) := by simp
  simp only [List.length_nil] at aB
  rw [aS] at aB
  have dL : bu N w0 H0 (S.eK gD (.row kS i.size [])) E a w H := aN.less (S' := S.eK gD (.row kS i.size [])) (fun _ _ h => h) (fun j o' aM => by
   simp only [ak.eK,lj] at aM
   split at aM
   ·rename_i e; cases aM; subst e; exact aH
   ·exact aM) rfl
  exact rf (v := .int .i64 0) (w' := w) (by simp [execOp,ay,resolve,lM,iy,invoke,builtin,c8,goInt]) aX dL (.v rfl) (by simpa using aB)
 ·have lX := a8.length
  have r1 := bL.length
  have af : (vs.take (min ys.length es.length * i.size)).length = min ys.length es.length * i.size := by
   rw [List.length_take,r1]; exact Nat.min_eq_left (Nat.mul_le_mul_right _ (Nat.min_le_left _ _))
  have IZ : min ys.length es.length * i.size ≤ es.length * i.size := Nat.mul_le_mul_right _ (Nat.min_le_right _ _)
  have w7 : es.length * i.size ≤ cap * i.size := Nat.mul_le_mul_right _ ho
  have c8 := ahu (P := Tryz.prog) (w := w) t t2 o.type e i aO aq g es.length cap bP ys.length c2 cur kS (vs.take (min ys.length es.length * i.size)) fY af (fun h => by have := ja h; omega)
   (fun fr dq j v bj => lu fr dq j v (by rw [List.getElem?_take] at bj; split at bj; exact bj; cases bj)) (by omega) (fun v bj => bL.one v (List.mem_of_mem_take bj))
  rw [af] at c8
  have hp : tu w g (vs.take (min ys.length es.length * i.size) ++ cur.toList.drop (min ys.length es.length * i.size)).toArray kS (w.setRow g (vs.take (min ys.length es.length * i.size) ++ cur.toList.drop (min ys.length es.length * i.size)).toArray) := Fs fY
  have hlen : (ys.take es.length ++ es.drop ys.length).length = es.length := by simp; omega
  have ED : ys.take es.length = ys.take (min ys.length es.length) := by
   rcases Nat.le_total ys.length es.length with h | h
   ·rw [Nat.min_eq_left h,List.take_of_length_le h,List.take_of_length_le (Nat.le_refl _)]
   ·rw [Nat.min_eq_right h]
  have Ip : es.drop ys.length = es.drop (min ys.length es.length) := by
   rcases Nat.le_total ys.length es.length with h | h
   ·rw [Nat.min_eq_left h]
   ·rw [Nat.min_eq_right h,List.drop_of_length_le h,List.drop_of_length_le (Nat.le_refl _)]
  have qZ : eD H i.size (ys.take es.length ++ es.drop ys.length) (vs.take (min ys.length es.length * i.size) ++ xs.drop (min ys.length es.length * i.size)) := by
   rw [ED,Ip]; exact (bL.take _).append (a8.drop _)
  have kA := aN.o1 (o' := .row kS i.size (ys.take es.length ++ es.drop ys.length)) ⟨_,aH,rfl⟩ a2 (fun k _ aB => hp.same k aB) (by rw [hp.size]; exact Nat.le_refl _) hp.os hp.tape hp.output
   ⟨_,some g,_,a2,Ei,qZ,.inr ⟨g,cap,_,rfl,by rw [hlen],cK,a4,hp.box,by rw [hlen]; exact ho,l8,fun e => tw (List.eq_nil_of_length_eq_zero (by rw [← hlen,e]; rfl)),?_,?_⟩⟩ rfl
  ·rw [I0] at c8
   exact rf (v := goInt (min ys.length es.length : Nat)) (w' := (w.setRow g (vs.take (min ys.length es.length * i.size) ++ cur.toList.drop (min ys.length es.length * i.size)).toArray)) (by simp only [execOp,ay,resolve,lM,iy,invoke,builtin,Sem.run_bind,Sem.run_pure,Result.andThen_ok,List.map_toArray,List.map_cons,List.map_nil,c8]) aX kA (.v rfl) aB
  ·simp only [List.size_toArray,List.length_append,af,List.length_drop,Array.length_toList]; omega
  ·rw [hlen,List.toList_toArray,List.take_append,af,List.take_of_length_le (by rw [af]; exact IZ),← hT,List.drop_take]

theorem Uj (aN : bu N w0 H0 S E a w H) (aX : o.dst = none) {t bc e m key x gD M f n v} (ay : o.op = .mapUpdate t m key x) (aO : Tryz.prog.underlying t = some (.map bc e)) (nB : Tryz.prog.underlying bc = some (.int .i64))
  (hm : S.bf m = some (.own gD)) (mJ : S.bf key = some (.v (.int .i64 n))) (ar : (S.bf x).bind S.ma = some v) (aH : al S.O gD = some (.map bc M f)) (bk : M < 1000000) (bM : -9223372036854775808 ≤ n) (fV : n ≤ 9223372036854775807)
  {qB : Nat} (yH : qB = M + 1 ∨ (qB ≤ 1000000 ∧ ∀ j,(if j = n then some v else f j) ≠ none → 0 ≤ j ∧ j < (qB : Int))) (aB : K (S.eK gD (.map bc qB fun j => if j = n then some v else f j))) : Told N w0 H0 o K a w := by
 have vj := aN.cP [m] m (by simp) _ hm
 have vi := aN.cP [key] key (by simp) _ mJ
 obtain ⟨y,a1,bj⟩ := Option.bind_eq_some_iff.1 ar
 obtain ⟨e9,_,_⟩ := Dr aN.ob (aN.cP [x] x (by simp) _ a1) bj
 obtain ⟨b,xD,F,a2,a8,cg,e7,h9,lH,nY,qK⟩ := aN.ob _ _ aH
 have lM : a.eval m = .map (some b) := by
  generalize a.eval m = jK at vj
  cases vj with
  | own bK _ => rw [bK] at a2; cases a2; rfl
 have AF : a.eval key = .int .i64 n := by
  generalize a.eval key = jK at vi
  cases vi; rfl
 obtain ⟨w',o',c8,fp,et,dP⟩ := h9.update e7 nB aO (by unfold maxLen; omega) bM fV (a.eval x)
 refine F8 (w' := w') (by simp [execOp,ay,lM,AF,c8]) aX (aN.o1 (o' := .map bc qB fun j => if j = n then some v else f j) ⟨_,aH,rfl⟩ a2 (fun k aB dd => dP.block k aB (fun e => dd (Option.some.inj e))) dP.size dP.os dP.tape dP.output
  ⟨b,o',_,a2,a8,cg,fp,(by
   rcases yH with rfl | ⟨_,yH⟩
   ·exact et
   ·exact et.tight nB qB (fun j aM => yH j (fun e => by
     have : o1 F n (some (a.eval x)) j = none := by
      unfold o1
      split at e
      ·cases e
      ·rename_i dd; rw [if_neg dd]; exact (nY j).1 e
     rw [this] at aM; cases aM))),(by rcases yH with rfl | h; omega; exact h.1),fun j => ?_,fun j s u ao hu => ?_⟩ rfl) aB
 ·unfold o1; by_cases aM : j = n <;> simp [aM,nY]
 ·unfold o1 at hu
  simp only at ao
  split at ao
  ·rename_i aM; cases ao; rw [if_pos aM] at hu; cases hu; exact e9
  ·rename_i aM; rw [if_neg aM] at hu; exact qK j s u ao hu

theorem aix (aN : bu N w0 H0 S E a w H) (aX : ∀ t,o.dst = some t → t < N) {f args hE l e k es} (ay : o.op = .call ⟨.value (.func f),args,hE⟩) (bK : Enters f) (aF : S.args args.toList = some l) (ax : ts f l e k es)
  (aB : K ((S.fH (.row e k es)).bX o.dst (.own S.n))) : Told N w0 H0 o K a w := by
 have br := tx aN.ob (aN.cP args.toList) aF
 have az := ax w H _ aN.sub br
 have he : (execOp a.eval o).run Tryz.prog w = .ok (.enter f (args.toList.map a.eval).toArray) w := by
  have := bK (args.map a.eval) w
  rw [y0]
  simp [execOp,ay,resolve,Act.eval,Deferred.ofValue,invoke]
  exact this
 unfold Told Oper.wp
 rw [he,Oper.upon_enter]
 refine Calls.mono az fun e1 w' aS => ?_
 obtain ⟨v,xs,rfl,aH,fz,jF,ba,xg⟩ := aS
 have dL := aN.grown aH
 have fresh : ∀ b,w.heap.size ≤ b → ∀ i,mQ S i → ∀ u k,E i = some (u,k,some b) → False := fun b aJ i aF u k bK => by
  have := (aN.vJ aF bK).2.2
  omega
 by_cases bb : es = []
 ·subst bb
  obtain ⟨fr,rfl⟩ := xg rfl
  have dS := dL.new (o := .row e k []) (p := (.slice fr 0 0,k,none)) ⟨_,none,[],Env.iB _ _ _,fz,.nil,.inl ⟨rfl,rfl,fr,rfl⟩⟩ (fun b aJ => by cases aJ)
  exact ⟨_,_,H,aB,dS.put (.own (Env.iB _ _ _) rfl) aX⟩
 ·have hp : 0 < es.length := by cases es with | nil => exact absurd rfl bb | cons => simp
  obtain ⟨g,cap,cur,rfl,s2,sm,sn,so,tf,sq⟩ := B2 jF ba rfl hp
  have dS := dL.new (o := .row e k es) (p := (.slice (some ⟨g,0,none⟩) es.length cap,k,some g)) ⟨_,some g,xs,Env.iB _ _ _,fz,ba,.inr ⟨g,cap,cur,rfl,rfl,Nat.le_trans aN.grow.below.size s2,aN.sub.none s2,sm,sn,so,fun e => absurd e bb,tf,sq⟩⟩
   (fun b aJ => by cases aJ; exact fresh g s2)
  exact ⟨_,_,H,aB,dS.put (.own (Env.iB _ _ _) rfl) aX⟩

theorem ais (aN : bu N w0 H0 S E a w H) (aX : ∀ t,o.dst = some t → t < N) {f args hE l bc M g} (ay : o.op = .call ⟨.value (.func f),args,hE⟩) (bK : Enters f) (aF : S.args args.toList = some l) (ax : zY f l bc M g)
  (aB : K ((S.fH (.map bc M g)).bX o.dst (.own S.n))) (aG : (∀ i,g i = none) → K (S.bX o.dst (.v (.map none)))) : Told N w0 H0 o K a w := by
 have br := tx aN.ob (aN.cP args.toList) aF
 have az := ax w H _ aN.sub br
 have he : (execOp a.eval o).run Tryz.prog w = .ok (.enter f (args.toList.map a.eval).toArray) w := by
  have := bK (args.map a.eval) w
  rw [y0]
  simp [execOp,ay,resolve,Act.eval,Deferred.ofValue,invoke]
  exact this
 unfold Told Oper.wp
 rw [he,Oper.upon_enter]
 refine Calls.mono az fun e1 w' aS => ?_
 obtain ⟨v,rfl,aH,h⟩ := aS
 have dL := aN.grown aH
 have fresh : ∀ b,w.heap.size ≤ b → ∀ i,mQ S i → ∀ u k,E i = some (u,k,some b) → False := fun b aJ i aF u k bK => by
  have := (aN.vJ aF bK).2.2
  omega
 rcases h with ⟨rfl,bb⟩ | ⟨b,ob,F,rfl,af,aj,aw,aV,bF,bH⟩
 ·exact ⟨_,_,H,aG bb,dL.put (.v rfl) aX⟩
 ·have dS := dL.new (o := .map bc M g) (p := (.map (some b),0,some b)) ⟨b,ob,F,Env.iB _ _ _,Nat.le_trans aN.grow.below.size af,aN.sub.none af,aj,aw,aV,bF,bH⟩ (fun fO aJ => by cases aJ; exact fresh b af)
  exact ⟨_,_,H,aB,dS.put (.own (Env.iB _ _ _) rfl) aX⟩

theorem Fl (aN : bu N w0 H0 S E a w H) : ∀ {xs : List Operand} {l : List av},S.kj xs = some l → db H E l (xs.map a.eval)
 | [],l,h => by simp only [ak.kj,Option.some.injEq] at h; subst h; exact .nil
 | x :: xs,l,h => by
  simp only [ak.kj,Option.bind_eq_some_iff,Option.map_eq_some_iff] at h
  obtain ⟨y,a1,q3,aF,rfl⟩ := h
  exact .cons (aN.cP [x] x (by simp) _ a1) (Fl aN aF)
theorem aij (aN : bu N w0 H0 S E a w H) (aX : ∀ t,o.dst = some t → t < N) {f args hE l P} (ay : o.op = .call ⟨.value (.func f),args,hE⟩) (bK : Enters f) (aF : S.kj args.toList = some l) (ax : fv f l S.O S.n P)
  (aB : ∀ J r O' bI,P J r O' bI → K (ak.bX ⟨S.T,dC O' S.n,bI⟩ o.dst r)) : Told N w0 H0 o K a w := by
 have br := Fl aN aF
 have p4 := aN.cS _ (Nat.le_refl _)
 have hle := Env.uE (E := E) (i := S.n) (undef,0,none) p4
 have AI : bu N w0 H0 ⟨[],(S.n,.cq fun H E => ∀ t x,al S.T t = some x → ca H E x (a.eval (.tmp t))) :: S.O,S.n + 1⟩ (E.set S.n (undef,0,none)) a w H := by
  have := aN.new (o := .cq fun H E => ∀ t x,al S.T t = some x → ca H E x (a.eval (.tmp t))) (p := (undef,0,none))
   ⟨⟨_,Env.iB _ _ _⟩,fun t x ar => (aN.kK t x ar).mono (fun _ _ h => h) hle,fun H1 kq hj qA g1 bQ gJ t x ar => (gJ t x ar).mono g1 bQ⟩ (fun b aJ => by cases aJ)
  exact this.less (S' := ⟨[],(S.n,.cq fun H E => ∀ t x,al S.T t = some x → ca H E x (a.eval (.tmp t))) :: S.O,S.n + 1⟩) (fun t x ar => by cases ar) (fun _ _ h => h) rfl
 have az := ax _ N w0 H0 _ a w H _ AI (br.mono (fun _ _ h => h) hle)
 have he : (execOp a.eval o).run Tryz.prog w = .ok (.enter f (args.toList.map a.eval).toArray) w := by
  have := bK (args.map a.eval) w
  rw [y0]
  simp [execOp,ay,resolve,Act.eval,Deferred.ofValue,invoke]
  exact this
 unfold Told Oper.wp
 rw [he,Oper.upon_enter]
 refine Calls.mono az fun e1 w' aS => ?_
 obtain ⟨v,r,O',bI,E',H',rfl,bV,aH,dL,ba⟩ := aS
 have gJ := (dL.ob S.n _ aH).2.1
 have hr : bu N w0 H0 ⟨S.T,dC O' S.n,bI⟩ E' a w' H' :=
  ⟨dL.grow,gJ,fun i o ay => dL.ob i o (rE ay).1,fun i j iw ⟨eX,af,l1⟩ ⟨eI,aj,l2⟩ => dL.ap i j iw ⟨eX,(rE af).1,l1⟩ ⟨eI,(rE aj).1,l2⟩,dL.cS,dL.jg,dL.kv⟩
 exact ⟨_,E',H',aB _ r O' bI bV,hr.put ba aX⟩

theorem aik (aN : bu N w0 H0 S E a w H) (aX : ∀ t,o.dst = some t → t < N) {x args hE s l0 f l P} (ay : o.op = .call ⟨.value x,args,hE⟩) (ar : S.bf x = some s) (aF : S.kj args.toList = some l0) (az : callee s l0 f l) (ax : fv f l S.O S.n P)
  (aB : ∀ J r O' bI,P J r O' bI → K (ak.bX ⟨S.T,dC O' S.n,bI⟩ o.dst r)) : Told N w0 H0 o K a w := by
 have br := Fl aN aF
 have cU := aN.cP [x] x (by simp) _ ar
 have p4 := aN.cS _ (Nat.le_refl _)
 have hle := Env.uE (E := E) (i := S.n) (undef,0,none) p4
 have AI : bu N w0 H0 ⟨[],(S.n,.cq fun H E => ∀ t x,al S.T t = some x → ca H E x (a.eval (.tmp t))) :: S.O,S.n + 1⟩ (E.set S.n (undef,0,none)) a w H := by
  have := aN.new (o := .cq fun H E => ∀ t x,al S.T t = some x → ca H E x (a.eval (.tmp t))) (p := (undef,0,none))
   ⟨⟨_,Env.iB _ _ _⟩,fun t x ar => (aN.kK t x ar).mono (fun _ _ h => h) hle,fun H1 kq hj qA g1 bQ gJ t x ar => (gJ t x ar).mono g1 bQ⟩ (fun b aJ => by cases aJ)
  exact this.less (S' := ⟨[],(S.n,.cq fun H E => ∀ t x,al S.T t = some x → ca H E x (a.eval (.tmp t))) :: S.O,S.n + 1⟩) (fun t x ar => by cases ar) (fun _ _ h => h) rfl
 obtain ⟨us,kA,he⟩ : ∃ us : List Value,db H E l us ∧ (execOp a.eval o).run Tryz.prog w = .ok (.enter f us.toArray) w := by
  rcases az with ⟨first,cap,rfl,bK,rfl⟩ | ⟨name,t,lv,first,cap,rfl,bk,bK,rfl⟩
  ·generalize aS : a.eval x = q at cU
   cases cU with
   | fn f1 f2 =>
    rename_i vs us
    refine ⟨(vs ++ args.toList.map a.eval) ++ us,((f1.mono (fun _ _ h => h) (lB E)).append br).append (f2.mono (fun _ _ h => h) (lB E)),?_⟩
    have := bK ((vs ++ args.toList.map a.eval) ++ us).toArray w
    have a8 : ((vs ++ args.toList.map a.eval) ++ us).toArray = vs.toArray ++ args.map a.eval ++ us.toArray := by apply Array.ext'; simp
    rw [a8] at this ⊢
    simp only [execOp,ay,resolve,aS,Deferred.ofValue,invoke,Sem.run_bind,Sem.run_pure,Result.andThen_ok]
    exact this
  ·generalize aS : a.eval x = q at cU
   cases cU with
   | fn f1 f2 =>
    rename_i vs us
    cases f1 with
    | cons aq f1 =>
     rename_i u vs
     cases aq with
     | dr aq =>
      rename_i u
      refine ⟨u :: (vs ++ args.toList.map a.eval),.cons (aq.mono (fun _ _ h => h) (lB E)) ((f1.mono (fun _ _ h => h) (lB E)).append br),?_⟩
      have := bK (u :: (vs ++ args.toList.map a.eval)).toArray w
      have sV := bk u w
      have a8 : (u :: (vs ++ args.toList.map a.eval)).toArray = #[u] ++ (vs.toArray ++ args.map a.eval) := by apply Array.ext'; simp
      have cg : (((Value.iface t u :: vs).toArray ++ args.map a.eval).extract 1 ((Value.iface t u :: vs).toArray ++ args.map a.eval).size) = vs.toArray ++ args.map a.eval := by
       apply Array.ext'; simp
       rw [List.take_of_length_le (by omega),List.take_of_length_le (by simp)]
      have e7 : ((Value.iface t u :: vs).toArray ++ args.map a.eval)[0]? = some (Value.iface t u) := by rw [Array.getElem?_append_left (by simp)]; rfl
      rw [a8] at this ⊢
      simp only [execOp,ay,resolve,aS,Deferred.ofValue,invoke,Sem.run_bind,Sem.run_pure,Result.andThen_ok,e7,callMethod,cg,run_program,sV]
      exact this
 have az := ax _ N w0 H0 _ a w H _ AI (kA.mono (fun _ _ h => h) hle)
 unfold Told Oper.wp
 rw [he,Oper.upon_enter]
 refine Calls.mono az fun e1 w' aS => ?_
 obtain ⟨v,r,O',bI,E',H',rfl,bV,aH,dL,ba⟩ := aS
 have gJ := (dL.ob S.n _ aH).2.1
 have hr : bu N w0 H0 ⟨S.T,dC O' S.n,bI⟩ E' a w' H' :=
  ⟨dL.grow,gJ,fun i o ay => dL.ob i o (rE ay).1,fun i j iw ⟨eX,af,l1⟩ ⟨eI,aj,l2⟩ => dL.ap i j iw ⟨eX,(rE af).1,l1⟩ ⟨eI,(rE aj).1,l2⟩,dL.cS,dL.jg,dL.kv⟩
 exact ⟨_,E',H',aB _ r O' bI bV,hr.put ba aX⟩

theorem aip (aN : bu N w0 H0 S E a w H) (aX : ∀ t,o.dst = some t → t < N) {x name args hE t lv l0 f P} (ay : o.op = .call ⟨.invoke x name,args,hE⟩) (ar : S.bf x = some (.dr t lv)) (aF : S.kj args.toList = some l0) (bk : rr t name f) (H8 : Enters f) (ax : fv f (lv :: l0) S.O S.n P)
  (aB : ∀ J r O' bI,P J r O' bI → K (ak.bX ⟨S.T,dC O' S.n,bI⟩ o.dst r)) : Told N w0 H0 o K a w := by
 have br := Fl aN aF
 have cU := aN.cP [x] x (by simp) _ ar
 have p4 := aN.cS _ (Nat.le_refl _)
 have hle := Env.uE (E := E) (i := S.n) (undef,0,none) p4
 have AI : bu N w0 H0 ⟨[],(S.n,.cq fun H E => ∀ t x,al S.T t = some x → ca H E x (a.eval (.tmp t))) :: S.O,S.n + 1⟩ (E.set S.n (undef,0,none)) a w H := by
  have := aN.new (o := .cq fun H E => ∀ t x,al S.T t = some x → ca H E x (a.eval (.tmp t))) (p := (undef,0,none))
   ⟨⟨_,Env.iB _ _ _⟩,fun t x ar => (aN.kK t x ar).mono (fun _ _ h => h) hle,fun H1 kq hj qA g1 bQ gJ t x ar => (gJ t x ar).mono g1 bQ⟩ (fun b aJ => by cases aJ)
  exact this.less (S' := ⟨[],(S.n,.cq fun H E => ∀ t x,al S.T t = some x → ca H E x (a.eval (.tmp t))) :: S.O,S.n + 1⟩) (fun t x ar => by cases ar) (fun _ _ h => h) rfl
 obtain ⟨us,kA,he⟩ : ∃ us : List Value,db H E (lv :: l0) us ∧ (execOp a.eval o).run Tryz.prog w = .ok (.enter f us.toArray) w := by
  generalize aS : a.eval x = q at cU
  cases cU with
  | dr aq =>
   rename_i u
   refine ⟨u :: args.toList.map a.eval,.cons (aq.mono (fun _ _ h => h) (lB E)) br,?_⟩
   have := H8 (u :: args.toList.map a.eval).toArray w
   have sV := bk u w
   have a8 : (u :: args.toList.map a.eval).toArray = #[u] ++ args.map a.eval := by apply Array.ext'; simp
   have cg : ((#[Value.iface t u] ++ args.map a.eval).extract 1 (#[Value.iface t u] ++ args.map a.eval).size) = args.map a.eval := by
    apply Array.ext'; simp
    rw [List.take_of_length_le (by simp)]
   have e7 : (#[Value.iface t u] ++ args.map a.eval)[0]? = some (Value.iface t u) := by rw [Array.getElem?_append_left (by simp)]; rfl
   rw [a8] at this ⊢
   simp only [execOp,ay,resolve,aS,invoke,Sem.run_bind,Sem.run_pure,Result.andThen_ok,e7,callMethod,cg,run_program,sV]
   exact this
 have az := ax _ N w0 H0 _ a w H _ AI (kA.mono (fun _ _ h => h) hle)
 unfold Told Oper.wp
 rw [he,Oper.upon_enter]
 refine Calls.mono az fun e1 w' aS => ?_
 obtain ⟨v,r,O',bI,E',H',rfl,bV,aH,dL,ba⟩ := aS
 have gJ := (dL.ob S.n _ aH).2.1
 have hr : bu N w0 H0 ⟨S.T,dC O' S.n,bI⟩ E' a w' H' :=
  ⟨dL.grow,gJ,fun i o ay => dL.ob i o (rE ay).1,fun i j iw ⟨eX,af,l1⟩ ⟨eI,aj,l2⟩ => dL.ap i j iw ⟨eX,(rE af).1,l1⟩ ⟨eI,(rE aj).1,l2⟩,dL.cS,dL.jg,dL.kv⟩
 exact ⟨_,E',H',aB _ r O' bI bV,hr.put ba aX⟩

theorem Uh (aN : bu N w0 H0 S E a w H) (aX : ∀ t,o.dst = some t → t < N) {t x y t2 i bc iz e M f} {neg : Bool} (ay : o.op = .binOp (if neg then .neq else .eql) t x y t2) (hu : Tryz.prog.underlying t = some (.map iz e))
  (ar : S.bf x = some (.own i)) (a1 : S.bf y = some (.v (.map none))) (aH : al S.O i = some (.map bc M f)) (aB : K (S.bX o.dst (.v (.bool neg)))) : Told N w0 H0 o K a w := by
 have cU := aN.cP [x] x (by simp) _ ar
 have h3 := aN.cP [y] y (by simp) _ a1
 obtain ⟨b,xD,F,a2,_⟩ := aN.ob _ _ aH
 have lM : a.eval x = .map (some b) := by
  generalize a.eval x = jK at cU
  cases cU with
  | own bK _ => rw [bK] at a2; cases a2; rfl
 have OY : a.eval y = .map none := by
  generalize a.eval y = hh at h3
  cases h3; rfl
 have aS := run_eql_map_nil_sl (P := Tryz.prog) w t iz e (some b) hu
 refine rf (v := .bool neg) (w' := w) ?_ aX aN (.v rfl) aB
 cases neg
 ·simp [execOp,ay,lM,OY,eqGuard,aS]
 ·simp only [binOp,Sem.run_bind] at aS
  cases ax : Sem.run Tryz.prog (Op.equal t (.map (some b)) (.map none)) w with
  | ok v fh =>
   rw [ax] at aS
   simp at aS
   obtain ⟨rfl,rfl⟩ := aS
   simp [execOp,ay,lM,OY,eqGuard,binOp,ax]
  | halt x fh => rw [ax] at aS; simp at aS

theorem aim (aN : bu N w0 H0 S E a w H) (aX : ∀ t,o.dst = some t → t < N) {t bc e m key gD M f n} (ay : o.op = .call ⟨.builtin .delete,#[m,key],#[t,bc]⟩) (aO : Tryz.prog.underlying t = some (.map bc e)) (nB : Tryz.prog.underlying bc = some (.int .i64))
  (hm : S.bf m = some (.own gD)) (mJ : S.bf key = some (.v (.int .i64 n))) (aH : al S.O gD = some (.map bc M f)) (bM : -9223372036854775808 ≤ n) (fV : n ≤ 9223372036854775807)
  (aB : K ((S.eK gD (.map bc M fun j => if j = n then none else f j)).bX o.dst (.bR []))) : Told N w0 H0 o K a w := by
 have vj := aN.cP [m] m (by simp) _ hm
 have vi := aN.cP [key] key (by simp) _ mJ
 obtain ⟨b,xD,F,a2,a8,cg,e7,h9,lH,nY,qK⟩ := aN.ob _ _ aH
 have lM : a.eval m = .map (some b) := by
  generalize a.eval m = jK at vj
  cases vj with
  | own bK _ => rw [bK] at a2; cases a2; rfl
 have AF : a.eval key = .int .i64 n := by
  generalize a.eval key = jK at vi
  cases vi; rfl
 obtain ⟨D,jF,aW⟩ := h9.owns e7
 have rU := int_keyed (P := Tryz.prog) nB
 obtain ⟨w',c8,et,dP⟩ := jF.drop rU aO (keyOf_int_mk (P := Tryz.prog) nB (zz bM fV)) o.type
 obtain ⟨o',nL,xI⟩ := hR.QA (f := fun j => if j = n then Option.none else F j) et (fun j => by
  by_cases e : j = n
  ·subst e; rw [if_pos rfl,atKey_del_same]
  ·rw [if_neg e,atKey_del_other (by intro h; exact e (by cases h; rfl)),aW j])
 obtain ⟨amB,cw,Nz,c2,bL,rfl⟩ := dP
 have wU : ∀ k,k < w.heap.size → k ≠ b → (ChangeMaps.setBlock w b (.map Nz c2)).heap[k]? = w.heap[k]? := fun k aB dd => by
  simp [ChangeMaps.setBlock,Array.getElem?_setIfInBounds_ne (Ne.symm dd)]
 have kA := aN.o1 (w' := ChangeMaps.setBlock w b (.map Nz c2)) (o' := .map bc M fun j => if j = n then none else f j) ⟨_,aH,rfl⟩ a2 wU (by simp [ChangeMaps.setBlock]) rfl rfl rfl
  ⟨b,o',_,a2,a8,cg,nL,xI,lH,fun j => ?_,fun j s u ao hu => ?_⟩ rfl
 ·exact rf (v := .tuple #[]) (by simp [execOp,ay,resolve,lM,AF,invoke,builtin,c8]) aX kA (.bR .nil) aB
 ·by_cases aM : j = n <;> simp [aM,nY]
 ·simp only at ao hu
  split at ao
  ·cases ao
  ·rename_i aM; rw [if_neg aM] at hu; exact qK j s u ao hu

theorem ain (aN : bu N w0 H0 S E a w H) (aX : ∀ t,o.dst = some t → t < N) {t bc e m key n} (ay : o.op = .call ⟨.builtin .delete,#[m,key],#[t,bc]⟩) (aO : Tryz.prog.underlying t = some (.map bc e)) (nB : Tryz.prog.underlying bc = some (.int .i64))
  (hm : S.bf m = some (.v (.map none))) (mJ : S.bf key = some (.v (.int .i64 n))) (bM : -9223372036854775808 ≤ n) (fV : n ≤ 9223372036854775807)
  (aB : K (S.bX o.dst (.bR []))) : Told N w0 H0 o K a w := by
 have vj := aN.cP [m] m (by simp) _ hm
 have vi := aN.cP [key] key (by simp) _ mJ
 have lM : a.eval m = .map none := by
  generalize a.eval m = jK at vj
  cases vj; rfl
 have AF : a.eval key = .int .i64 n := by
  generalize a.eval key = jK at vi
  cases vi; rfl
 have c8 : (Builtin.delete_ #[t,bc] o.type #[.map none,.int .i64 n]).run Tryz.prog w = .ok (.tuple #[]) w := by
  have az := fun b => (int_keyed (P := Tryz.prog) nB).check w b (keyOf_int_mk (P := Tryz.prog) nB (zz bM fV))
  simp [Builtin.delete_,run_underlying aO,az]
 exact rf (v := .tuple #[]) (w' := w) (by simp [execOp,ay,resolve,lM,AF,invoke,builtin,c8]) aX aN (.bR .nil) aB
end

theorem Rh {zS : Type} {P : Program} {k : TypeId} {R : Value → Option (DataW zS × List MemPlace)} {w w' : World} {b r n : Nat} {D : DataW zS} {left : Lit → Bool} {hH : Nat} (h : w.ranges P k R b r n D left hH)
  (aJ : w'.heap[b]? = w.heap[b]?) (ax : w'.heap[r]? = w.heap[r]?) : w'.ranges P k R b r n D left hH := by
 obtain ⟨es,clock,since,seen,dn,af,aj,aw,aV,bF,bH⟩ := h
 exact ⟨es,clock,since,seen,dn,aJ.trans af,aj,aw,aV,ax.trans bF,bH⟩
theorem Ri {zS : Type} {P : Program} {k : TypeId} {R : Value → Option (DataW zS × List MemPlace)} {w : World} {b r n : Nat} {D : DataW zS} {left : Lit → Bool} {hH : Nat} (h : w.ranges P k R b r n D left hH) :
  ∃ ob,w.heap[r]? = some ob := by
 obtain ⟨es,clock,since,seen,dn,af,aj,aw,aV,bF,bH⟩ := h
 exact ⟨_,bF⟩

theorem rj.get {D : DataW Value} {F : Int → Option Value} (aX : rj D F) {x : Int} {v : Value} (eA : ∀ ak3,D.atKey (.int .i64 x) ak3 = .held v) : F x = some v := by
 obtain ⟨es,rfl,ui,hm⟩ := aX
 have oF := apart_of_rising ui
 have dq := Maps.has_true_of_atKey eA
 obtain ⟨p,hp,xl⟩ := List.any_eq_true.1 (show es.any (fun p => p.1.sameKey (.int .i64 x)) = true from dq)
 have a2 : p.1 = .int .i64 x := WideAt.sameKey_eq xl
 obtain ⟨k,u,rfl,aB⟩ := (hm p).1 hp
 cases a2
 have a8 := eA .nil
 rw [WideAt.atKey_mem (k := .int .i64 x) (d := .held u) .nil (by simp [WideAt.IsKeyLit]) oF hp] at a8
 simp only [DataW.held.injEq] at a8
 subst a8
 exact aB
theorem rj.has {D : DataW Value} {F : Int → Option Value} (aX : rj D F) (x : Int) : Maps.has D (.int .i64 x) = (F x).isSome := by
 obtain ⟨es,rfl,ui,hm⟩ := aX
 cases bs : F x with
 | some v =>
  have hp := (hm (.int .i64 x,.held v)).2 ⟨x,v,rfl,bs⟩
  show es.any (fun p => p.1.sameKey (.int .i64 x)) = true
  exact List.any_eq_true.2 ⟨_,hp,by simp [Lit.sameKey]⟩
 | none =>
  cases dq : Maps.has (.map es) (.int .i64 x) with
  | false => rfl
  | true =>
   obtain ⟨p,hp,xl⟩ := List.any_eq_true.1 (show es.any (fun p => p.1.sameKey (.int .i64 x)) = true from dq)
   have a2 : p.1 = .int .i64 x := WideAt.sameKey_eq xl
   obtain ⟨k,u,rfl,aB⟩ := (hm p).1 hp
   cases a2
   rw [bs] at aB; cases aB

theorem KL {P : Program} {w : World} {r : Nat} {x s c} {vZ : Array Nat} (h : w.heap[r]? = some (.mapIter x s vZ c)) : (getObj r).run P w = .ok (.mapIter x s vZ c) w := by
 simp [getObj,Sem.run,h]
theorem Rx {P : Program} {w : World} {r : Nat} {es c} (h : w.heap[r]? = some (.map es c)) : (getObj r).run P w = .ok (.map es c) w := by
 simp [getObj,Sem.run,h]
theorem wf_i64 {j : Int} (h : (Lit.int .i64 j).wf = true) : -9223372036854775808 ≤ j ∧ j ≤ 9223372036854775807 := by
 simp [Lit.wf] at h
 exact ⟨h.1,h.2⟩
theorem aaw {P : Program} {w w' : World} {r b : Nat} {ob iZ : Obj} {v : Value} (h : w.heap[r]? = some ob) (aJ : w.heap[b]? = some iZ) (dh : w'.heap[r]? = some ob) (jC : w'.heap[b]? = some iZ)
  (lT : ∃ s vZ c,ob = .mapIter (some b) s vZ c) (Jf : ∃ es c,iZ = .map es c) (bj : (Instr.entry (.pointer (some ⟨r,0,none⟩))).run P w = .ok v w) : (Instr.entry (.pointer (some ⟨r,0,none⟩))).run P w' = .ok v w' := by
 obtain ⟨s,vZ,c,rfl⟩ := lT
 obtain ⟨es,amw,rfl⟩ := Jf
 simp only [Instr.entry,Sem.run_bind,KL h,KL dh,Result.andThen_ok] at bj ⊢
 cases PE : vZ.back? with
 | none => rw [PE] at bj; simp at bj
 | some st =>
  rw [PE] at bj
  simp only [Sem.run_bind,Rx aJ,Rx jC,Result.andThen_ok] at bj ⊢
  split at bj
  ·simp at bj
  ·rename_i az
   rw [if_neg az]
   cases aW : Array.find? (fun x => x.born == st) es with
   | none => rw [aW] at bj; simp at bj
   | some e => rw [aW] at bj; simp at bj ⊢; exact bj

theorem hR.empty {bc : TypeId} {o : Obj} {n : Nat} {f : Int → Option Value} (h : hR bc o n f) (aB : Tryz.prog.underlying bc = some (.int .i64)) : ∃ es clock,o = .map es clock ∧ (es.size = 0 ↔ ∀ i,f i = none) := by
 obtain ⟨D,⟨es,clock,rfl,F,_,iG⟩,aW⟩ := h
 refine ⟨es,clock,rfl,fun bb i => ?_,fun a7 => ?_⟩
 ·obtain rfl : es = #[] := by simpa using bb
  have af := aW i
  rw [iG] at af
  have aj : (DataW.map ((([] : List MapEntry).map (Go.WideElems.rg Tryz.prog bc ji)).foldr DataW.insert []) : DataW Value).atKey (.int .i64 i) .nil = .nil := WideAt.atKey_none _ (by simp)
  cases e : f i with
  | none => rfl
  | some v => rw [e] at af; rw [show (#[] : Array MapEntry).toList = [] from rfl,aj] at af; cases af
 ·refine Classical.byContradiction fun bb => ?_
  have K := int_keyed (P := Tryz.prog) aB
  obtain ⟨fs,hm⟩ : ∃ fs,fs ∈ es.toList := ⟨es[0]'(by omega),by simp⟩
  obtain ⟨gP,oc⟩ := F.reads fs hm
  have mJ := Go.WideElems.rd_key oc
  obtain ⟨z,bO,Jv⟩ := Go.WideElems.rd_val oc
  have eA := (Go.WideShapes.atKey_sorted (es.toList.map (Go.WideElems.rg Tryz.prog bc ji)) (Maps.fit_rising K F) gP.1 (K.key mJ)).2 (Go.WideElems.rg Tryz.prog bc ji fs) (List.mem_map.2 ⟨fs,hm,rfl⟩) (by rw [Go.WideElems.rg_of oc]) .nil
  rw [Go.WideElems.rg_of oc,← iG] at eA
  have rU : ∃ a,gP.1 = .int .i64 a := by
   have h := mJ
   unfold keyOf at h
   cases aS : fs.key <;> rw [aS] at h <;> simp [aB,mapKey] at h
   rename_i s7 a
   cases s7 <;> simp at h
   exact ⟨a,h.2.symm⟩
  obtain ⟨a,aZ⟩ := rU
  rw [aZ,aW a,a7 a] at eA
  simp only [ji,Option.some.injEq] at bO
  rw [Jv,← bO] at eA
  cases eA

theorem hR.count {bc : TypeId} {o : Obj} {n : Nat} {f : Int → Option Value} (h : hR bc o n f) (aB : Tryz.prog.underlying bc = some (.int .i64)) : ∃ es clock,o = .map es clock ∧ ∃ l : List Int,l.Nodup ∧ l.length = es.size ∧ ∀ j,f j ≠ none ↔ j ∈ l := by
 obtain ⟨D,⟨es,clock,rfl,F,_,iG⟩,aW⟩ := h
 refine ⟨es,clock,rfl,?_⟩
 have K := int_keyed (P := Tryz.prog) aB
 have ui := Maps.fit_rising K F
 have AQ : ∀ p ∈ es.toList.map (Go.WideElems.rg Tryz.prog bc ji),(∃ a,p.1 = .int .i64 a) ∧ ∃ v,p.2 = .held v := fun p hp => by
  obtain ⟨fs,hm,rfl⟩ := List.mem_map.1 hp
  obtain ⟨gP,oc⟩ := F.reads fs hm
  have mJ := Go.WideElems.rd_key oc
  obtain ⟨z,bO,Jv⟩ := Go.WideElems.rd_val oc
  rw [Go.WideElems.rg_of oc]
  refine ⟨?_,?_⟩
  ·have h := mJ
   unfold keyOf at h
   cases aS : fs.key <;> rw [aS] at h <;> simp [aB,mapKey] at h
   rename_i s7 a
   cases s7 <;> simp at h
   exact ⟨a,h.2.symm⟩
  ·simp only [ji,Option.some.injEq] at bO
   rw [Jv,← bO]
   exact ⟨_,rfl⟩
 have oF := Go.WideShapes.apart_of_rising _ ui
 have eA := fun k iR => Go.WideShapes.atKey_sorted _ ui k iR
 rw [← iG] at eA
 have hlen : (es.toList.map (Go.WideElems.rg Tryz.prog bc ji)).length = es.size := by simp
 generalize es.toList.map (Go.WideElems.rg Tryz.prog bc ji) = L at *
 have aF : ∃ l : List Int,L.map Prod.fst = l.map (fun a => (.int .i64 a : Lit)) := by
  clear oF eA hlen ui iG
  induction L with
  | nil => exact ⟨[],rfl⟩
  | cons p L dO =>
   obtain ⟨l,aF⟩ := dO fun q aS => AQ q (List.mem_cons_of_mem _ aS)
   obtain ⟨a,aZ⟩ := (AQ p (List.mem_cons_self ..)).1
   exact ⟨a :: l,by rw [List.map_cons,List.map_cons,aF,aZ]⟩
 obtain ⟨l,aF⟩ := aF
 have Em : ∀ j : Int,WideAt.IsKeyLit (.int .i64 j : Lit) := fun j => trivial
 refine ⟨l,?_,?_,fun j => ⟨fun aM => ?_,fun aM => ?_⟩⟩
 ·have af : (L.map Prod.fst).Pairwise (· ≠ ·) := List.pairwise_map.2 oF
  rw [aF] at af
  exact (List.pairwise_map.1 af).imp fun h e => h (by rw [e])
 ·rw [← hlen,← List.length_map (f := Prod.fst),aF,List.length_map]
 ·refine Classical.byContradiction fun kD => aM ?_
  have af := (eA (.int .i64 j) (Em j)).1 (fun p hp e => kD (by
   have aj : p.1 ∈ L.map Prod.fst := List.mem_map.2 ⟨p,hp,rfl⟩
   rw [aF,e] at aj
   obtain ⟨a,aZ,a8⟩ := List.mem_map.1 aj
   cases a8
   exact aZ)) .nil
  have aw := aW j
  rw [af] at aw
  cases e : f j with
  | none => rfl
  | some v => rw [e] at aw; cases aw
 ·have aj : (.int .i64 j : Lit) ∈ L.map Prod.fst := by rw [aF]; exact List.mem_map.2 ⟨j,aM,rfl⟩
  obtain ⟨p,hp,e⟩ := List.mem_map.1 aj
  have af := (eA (.int .i64 j) (Em j)).2 p hp e .nil
  obtain ⟨v,bj⟩ := (AQ p hp).2
  have aw := aW j
  rw [af,bj] at aw
  intro aV
  rw [aV] at aw
  cases aw
section
variable {N : Nat} {w0 w w' : World} {H0 H H' : bg} {S : ak} {E : Env} {a : Act} {o : Oper} {K : ak → Prop}

theorem aiq (aN : bu N w0 H0 S E a w H) (aX : ∀ t,o.dst = some t → t < N) {t bc e x iz f} (ay : o.op = .call ⟨.builtin .len,#[x],#[t]⟩) (aO : Tryz.prog.underlying t = some (.map bc e)) (nB : Tryz.prog.underlying bc = some (.int .i64)) (ar : S.bf x = some (.mp iz f))
  (b2 : (∀ i,f i = none) → K (S.bX o.dst (.v (.int .i64 0)))) (cy : ∀ n : Nat,0 < n → (∃ i,f i ≠ none) → K (S.bX o.dst (.v (.int .i64 n)))) (rU : Tryz.prog.underlying iz = some (.int .i64)) : Told N w0 H0 o K a w := by
 have cU := aN.cP [x] x (by simp) _ ar
 generalize aS : a.eval x = q at cU
 cases cU with
 | mR bb =>
  exact rf (S' := S) (E' := E) (H' := H) (v := .int .i64 0) (w' := w) (s := .v (.int .i64 0)) (by simp [execOp,ay,resolve,aS,invoke,builtin,Maps.len_nil aO]) aX aN (.v rfl) (b2 bb)
 | @mp _ _ _ b iZ M F aJ hm dS aq ax =>
  obtain ⟨es,clock,rfl,jW⟩ := hm.empty rU
  have hw := aN.sub b _ aJ
  have c8 : (Builtin.len_ #[t] o.type #[.map (some b)]).run Tryz.prog w = .ok (.int .i64 es.size) w := by
   simp [Builtin.len_,run_underlying aO,MapKept.run_getObj_map hw,goInt,Result.andThen]
  refine rf (S' := S) (E' := E) (H' := H) (v := .int .i64 es.size) (w' := w) (s := .v (.int .i64 es.size)) (by simp [execOp,ay,resolve,aS,invoke,builtin,c8]) aX aN (.v rfl) ?_
  by_cases bb : es.size = 0
  ·rw [bb]; exact b2 fun i => (aq i).2 (jW.1 bb i)
  ·refine cy _ (by omega) ?_
   refine Classical.byContradiction fun a7 => bb (jW.2 fun i => ?_)
   exact (aq i).1 (Classical.byContradiction fun dd => a7 ⟨i,dd⟩)

theorem air (aN : bu N w0 H0 S E a w H) (aX : ∀ t,o.dst = some t → t < N) {t bc e x i iz M f} (ay : o.op = .call ⟨.builtin .len,#[x],#[t]⟩) (aO : Tryz.prog.underlying t = some (.map bc e)) (ar : S.bf x = some (.own i)) (aH : al S.O i = some (.map iz M f))
  (cy : ∀ n : Nat,(∃ l : List Int,l.Nodup ∧ l.length = n ∧ ∀ j,f j ≠ none ↔ j ∈ l) → K (S.bX o.dst (.v (.int .i64 n)))) (rU : Tryz.prog.underlying iz = some (.int .i64)) : Told N w0 H0 o K a w := by
 have cU := aN.cP [x] x (by simp) _ ar
 obtain ⟨b,iZ,F,bK,_,_,hw,hm,_,aq,_⟩ := aN.ob i _ aH
 generalize aS : a.eval x = q at cU
 cases cU with
 | own af _ =>
  rw [bK] at af
  cases af
  obtain ⟨es,clock,rfl,l,l1,l2,EV⟩ := hm.count rU
  have c8 : (Builtin.len_ #[t] o.type #[.map (some b)]).run Tryz.prog w = .ok (.int .i64 es.size) w := by
   simp [Builtin.len_,run_underlying aO,MapKept.run_getObj_map hw,goInt,Result.andThen]
  refine rf (S' := S) (E' := E) (H' := H) (v := .int .i64 es.size) (w' := w) (s := .v (.int .i64 es.size)) (by simp [execOp,ay,resolve,aS,invoke,builtin,c8]) aX aN (.v rfl) (cy _ ⟨l,l1,l2,fun j => ?_⟩)
  rw [← EV j]
  exact not_congr (aq j)
theorem aiw (aN : bu N w0 H0 S E a w H) (aX : ∀ t,o.dst = some t → t < N) {t bc e x f} (ay : o.op = .range t x) (aO : Tryz.prog.underlying t = some (.map bc e)) (nB : Tryz.prog.underlying bc = some (.int .i64)) (ar : S.bf x = some (.mp bc f))
  (aB : ∀ hH,K ((S.fH (.iter f (fun i => (f i).isSome) hH none)).bX o.dst (.own S.n))) : Told N w0 H0 o K a w := by
 have cU := aN.cP [x] x (by simp) _ ar
 generalize aS : a.eval x = q at cU
 cases cU with
 | mR bb =>
  have c8 := run_range_nilMap (P := Tryz.prog) w t bc e aO
  refine uG aN aX (ob := .iter f (fun i => (f i).isSome) 0 none) (p := (.pointer (some ⟨w.heap.size,0,none⟩),0,some w.heap.size)) (row := none) (w' := w.alloc (.mapIter none 0 #[] 0)) (by simp [execOp,ay,aS,c8]) ⟨rfl,rfl,rfl,by simp,fun k aB _ => Below.heap_alloc w _ k aB⟩ (fun b aJ => by cases aJ)
   ⟨w.heap.size,_,Env.iB _ _ _,aN.grow.below.size,aN.sub.none (Nat.le_refl _),heap_alloc_new w _,.inl ⟨_,_,_,rfl,fun j => by simp [bb]⟩,fun j s e => by cases e⟩ rfl (fun b aJ => by cases aJ; exact .inl (Nat.le_refl _)) (aB 0)
 | @mp _ _ _ b iZ M F aJ hm dS aq ax =>
  obtain ⟨D,jF,AM⟩ := hm.kv (aN.sub b iZ aJ) nB
  obtain ⟨w',c8,uh,aH,g4⟩ := jF.range (int_keyed (P := Tryz.prog) nB) aO
  obtain ⟨ob,lT⟩ := Ri uh
  have wU : b < w.heap.size := aN.sub.lt aJ
  have jC : w'.heap[b]? = some iZ := (aH.block b wU (by simp)).trans (aN.sub b iZ aJ)
  refine uG aN aX (ob := .iter f (fun i => (f i).isSome) (size D) none) (p := (.pointer (some ⟨w.heap.size,0,none⟩),0,some w.heap.size)) (row := none) (w' := w') (by simp [execOp,ay,aS,c8]) aH (fun b aJ => by cases aJ)
   ⟨w.heap.size,ob,Env.iB _ _ _,aN.grow.below.size,aN.sub.none (Nat.le_refl _),lT,.inr ⟨b,iZ,bc,M,D,_,F,aJ,nB,fun cE bL cd => Rh uh (bL.trans jC.symm) (cd.trans lT.symm),AM,aq,ax,fun j => ?_⟩,fun j s e => by cases e⟩ rfl (fun b aJ => by cases aJ; exact .inl (Nat.le_refl _)) (aB _)
  rw [AM.has]
  have := aq j
  cases af : f j <;> cases aj : F j <;> simp_all

theorem aiv (aN : bu N w0 H0 S E a w H) (aX : ∀ t,o.dst = some t → t < N) {x gD f left hH cur} (ay : o.op = .next x false) (ar : S.bf x = some (.own gD)) (aH : al S.O gD = some (.iter f left hH cur))
  (p5 : (∀ j,left j = false) → K (S.bX o.dst (.bR [.v (.bool false)])))
  (aG : ∀ j s tE,left j = true → f j = some s → -9223372036854775808 ≤ j → j ≤ 9223372036854775807 → tE < hH → K ((S.eK gD (.iter f (fun z => left z && z != j) tE (some (j,s)))).bX o.dst (.bR [.v (.bool true),.v (.int .i64 j),s]))) : Told N w0 H0 o K a w := by
 have cU := aN.cP [x] x (by simp) _ ar
 obtain ⟨r,ob,a2,a8,cg,e7,h9,lH⟩ := aN.ob _ _ aH
 have lM : a.eval x = .pointer (some ⟨r,0,none⟩) := by
  generalize a.eval x = jK at cU
  cases cU with
  | own bK _ => rw [bK] at a2; cases a2; rfl
 rcases h9 with ⟨eJ,fu,fM,rfl,bb⟩ | ⟨b,iZ,bc,M,D,yY,F,af,nB,dM,AM,aq,ax,aF⟩
 ·have c8 : (Instr.next (.pointer (some ⟨r,0,none⟩)) false o.type).run Tryz.prog w = .ok (.tuple #[.bool false]) w := by
   simp [Instr.next,KL e7]
  exact rf (v := .tuple #[.bool false]) (w' := w) (by simp [execOp,ay,lM,c8]) aX aN (.bR (.cons (.v rfl) .nil)) (p5 bb)
 ·have uh := dM w (aN.sub b iZ af) e7
  rcases uh.next (int_keyed (P := Tryz.prog) nB) o.type with ⟨_,w5,c8⟩ | ⟨key,v,yW,y,w',Nn,bL,cd,dV,fW,c8,Ey,ja,lu,anz,AQ⟩
  ·exact rf (v := .tuple #[.bool false]) (w' := w) (by simp [execOp,ay,lM,c8]) aX aN (.bR (.cons (.v rfl) .nil)) (p5 fun j => (aF j).symm.trans (w5 _))
  ·obtain ⟨j,rfl,rfl,PK⟩ := Maps.keyOf_int_inv nB bL
   simp only [ji,Option.some.injEq] at dV
   subst dV
   have bs := AM.get fW
   cases Iw : f j with
   | none => rw [(aq j).1 Iw] at bs; cases bs
   | some s =>
    have qZ := ax j s v Iw bs
    obtain ⟨Fa,Er⟩ := Ri Ey
    have ab9 : b ≠ r := fun e => by subst e; rw [cg] at af; cases af
    have wU : b < w.heap.size := aN.sub.lt af
    have jC : w'.heap[b]? = some iZ := (lu.block b wU (by simpa using ab9)).trans (aN.sub b iZ af)
    have IH : ∃ s vZ c,Fa = .mapIter (some b) s vZ c := by
     obtain ⟨es,clock,since,seen,dn,_,_,_,_,vf,_⟩ := Ey
     rw [Er] at vf; cases vf; exact ⟨_,_,_,rfl⟩
    have Jf : ∃ es c,iZ = .map es c := by
     obtain ⟨es,clock,since,seen,dn,g1,_⟩ := Ey
     rw [jC] at g1; cases g1; exact ⟨_,_,rfl⟩
    have kA := aN.o1 (o' := .iter f (fun z => left z && z != j) Nn (some (j,s))) ⟨_,aH,rfl⟩ a2 (fun k aB dd => lu.block k aB (fun e => dd (Option.some.inj e))) lu.size lu.os lu.tape lu.output
     ⟨r,Fa,a2,a8,cg,Er,.inr ⟨b,iZ,bc,M,D,_,F,af,nB,fun cE g1 bQ => Rh Ey (g1.trans jC.symm) (bQ.trans Er.symm),AM,aq,ax,fun z => ?_⟩,fun yV dv e => ?_⟩ rfl
    ·exact rf (v := .tuple #[.bool true,.int .i64 j,v]) (by simp [execOp,ay,lM,c8]) aX kA (.bR (.cons (.v rfl) (.cons (.v rfl) (.cons (qZ.mono (fun _ _ h => h) (lB _)) .nil)))) (aG j s Nn ((aF j).symm.trans cd) Iw (wf_i64 PK).1 (wf_i64 PK).2 ja)
    ·show (yY (.int .i64 z) && !(Lit.int .i64 z).sameKey (.int .i64 j)) = (left z && z != j)
     rw [aF z]
     by_cases e : z = j <;> simp [Lit.sameKey,bne,e]
    ·cases e
     exact ⟨v,fun cE g1 bQ => aaw Er jC bQ (g1 b iZ af) IH Jf AQ,qZ⟩

theorem aio (aN : bu N w0 H0 S E a w H) (aX : ∀ t,o.dst = some t → t < N) {x gD f left hH j s} (ay : o.op = .entry x) (ar : S.bf x = some (.own gD)) (aH : al S.O gD = some (.iter f left hH (some (j,s))))
  (aB : K (S.bX o.dst (.bR [.v (.int .i64 j),s]))) : Told N w0 H0 o K a w := by
 have cU := aN.cP [x] x (by simp) _ ar
 obtain ⟨r,ob,a2,a8,cg,e7,h9,lH⟩ := aN.ob _ _ aH
 have lM : a.eval x = .pointer (some ⟨r,0,none⟩) := by
  generalize a.eval x = jK at cU
  cases cU with
  | own bK _ => rw [bK] at a2; cases a2; rfl
 obtain ⟨v,af,aj⟩ := lH j s rfl
 have c8 := af w aN.sub e7
 exact rf (v := .tuple #[.int .i64 j,v]) (w' := w) (by simp [execOp,ay,lM,c8]) aX aN (.bR (.cons (.v rfl) (.cons (aj.mono (fun _ _ h => h) (lB _)) .nil))) aB
theorem JZ {H : bg} {E : Env} {x : av} {u : Value} (h : vL x = true) (ax : ca H E x u) : ∃ a,u = .slice a 0 0 ∧ ∀ k,ca H ep (.au k 0 []) u := by
 have aB : ∀ a k,ca H ep (.au k 0 []) (.slice a 0 0) := fun a k => .au .nil rfl (Nat.le_refl _) (Nat.zero_le _) ⟨fun _ => rfl,fun _ _ => rfl⟩ (fun _ => rfl) (fun j u hu => by simp at hu)
 unfold vL at h
 split at h
 ·cases ax; exact ⟨_,rfl,aB _⟩
 ·cases ax with
  | au af aj aw aV bF bH cA =>
   simp only [List.length_nil] at aj
   subst aj
   have := bF.2 rfl rfl
   subst this
   exact ⟨_,rfl,aB _⟩
 ·cases h
theorem bu.cast (h : bu N w0 H0 S E a w H) (c : qz) : ∃ E',bu N w0 H0 (S.cast c) E' a w H := by
 have row : ∀ (e : TypeId) (k : Nat) (u : Value),0 < k → (∃ a,u = .slice a 0 0) → ∃ E',fK E E' ∧ E' S.n = some (u,k,none) ∧ bu N w0 H0 (S.fH (.row e k [])) E' a w H := fun e k u aB hu =>
  ⟨E.set S.n (u,k,none),Env.uE _ (h.cS _ (Nat.le_refl _)),Env.iB _ _ _,h.new (p := (u,k,none)) ⟨u,none,[],Env.iB _ _ _,aB,.nil,.inl ⟨rfl,rfl,hu⟩⟩ (fun b aJ => by cases aJ)⟩
 have xH : ∀ {b0 : ak} {hj : Env} {t : Nat} {x : av},bu N w0 H0 b0 hj a w H → ca H hj x (a.eval (.tmp t)) → bu N w0 H0 (b0.put t x) hj a w H := fun {b0 hj t x} af ar =>
  ⟨af.grow,fun t' y a1 => by
   simp only [ak.put,lj] at a1
   split at a1
   ·rename_i e; cases a1; subst e; exact ar
   ·exact af.kK t' y a1,af.ob,af.ap,af.cS,af.jg,af.kv⟩
 have lZ : ∀ {b0 : ak} {hj : Env} {i c : Nat} {qH : TypeId} {cs : List av} {y : av},bu N w0 H0 b0 hj a w H → al b0.O i = some (.box qH cs) → y.one = true → (∀ vs b,hj i = some (.pointer (some ⟨b,0,none⟩),0,some b) → w.heap[b]? = some (.cells vs.toArray qH (0,0)) → db H hj cs vs → db H hj (cs.set c y) vs) → bu N w0 H0 (b0.eK i (.box qH (cs.set c y))) hj a w H := fun {b0 hj i c qH cs y} af aH a1 ax => by
  have gp : ∀ j o,al (b0.eK i (.box qH (cs.set c y))).O j = some o → (j = i ∧ o = .box qH (cs.set c y)) ∨ (i ≠ j ∧ al b0.O j = some o) := fun j o aM => by
   simp only [ak.eK,lj] at aM
   split at aM
   ·rename_i e; cases aM; exact .inl ⟨e.symm,rfl⟩
   ·rename_i e; exact .inr ⟨e,aM⟩
  have kX : ∀ j,mQ (b0.eK i (.box qH (cs.set c y))) j → mQ b0 j := by
   rintro j ⟨o,ay,aF⟩
   rcases gp j o ay with ⟨rfl,rfl⟩ | ⟨_,aM⟩
   ·exact ⟨_,aH,rfl⟩
   ·exact ⟨o,aM,aF⟩
  refine ⟨af.grow,af.kK,fun j o aM => ?_,fun jn yV iw aq aM => af.ap jn yV iw (kX _ aq) (kX _ aM),af.cS,af.jg,af.kv⟩
  rcases gp j o aM with ⟨rfl,rfl⟩ | ⟨_,aM⟩
  ·obtain ⟨b,vs,a2,a8,cg,e7,h9,lH⟩ := af.ob _ _ aH
   refine ⟨b,vs,a2,a8,cg,e7,ax vs b a2 e7 h9,?_⟩
   rw [List.all_eq_true] at lH ⊢
   intro z bO
   rcases List.mem_or_eq_of_mem_set bO with bO | rfl
   ·exact lH z bO
   ·exact a1
  ·exact af.ob j o aM
 have LJ : ∀ {hj : Env} {cs : List av} {vs : List Value} {c : Nat} {y : av},db H hj cs vs → (∀ u,vs[c]? = some u → ca H hj y u) → db H hj (cs.set c y) vs := by
  intro hj cs
  induction cs with
  | nil => intro vs c y h _; simpa using h
  | cons z cs dO =>
   intro vs c y h a1
   cases h with
   | cons h t =>
    cases c with
    | zero => exact .cons (a1 _ rfl) t
    | succ c => exact .cons h (dO t (fun u hu => a1 u (by simpa using hu)))
 cases c with
 | slot t e k =>
  simp only [ak.cast]
  split
  ·rename_i x ar
   split
   ·rename_i az
    simp only [Bool.and_eq_true,decide_eq_true_eq] at az
    obtain ⟨a0,aZ,aB⟩ := JZ az.1 (h.kK t x ar)
    cases e with
    | none => exact ⟨E,xH h ((aB k).mono (fun _ _ h => h) (lB E))⟩
    | some e =>
     obtain ⟨E',hle,bK,aN⟩ := row e k _ az.2 ⟨a0,aZ⟩
     exact ⟨E',xH aN (.own bK (by rw [aZ]; rfl))⟩
   ·exact ⟨E,h⟩
  ·exact ⟨E,h⟩
 | cell i c e k =>
  simp only [ak.cast]
  split
  ·rename_i qH cs aH
   split
   ·rename_i x ar
    split
    ·rename_i az
     simp only [Bool.and_eq_true,decide_eq_true_eq] at az
     obtain ⟨b,vs,a2,a8,cg,e7,h9,lH⟩ := h.ob _ _ aH
     obtain ⟨u,hu,BA⟩ := h9.get ar
     obtain ⟨a0,aZ,aB⟩ := JZ az.1 BA
     cases e with
     | none =>
      refine ⟨E,lZ h aH rfl (fun lz fO _ _ bj => LJ bj fun kL s0 => ?_)⟩
      obtain ⟨iD,s3,yT⟩ := bj.get ar
      rw [s0] at s3; cases s3
      obtain ⟨_,_,iR⟩ := JZ az.1 yT
      exact (iR k).mono (fun _ _ h => h) (lB E)
     | some e =>
      obtain ⟨E',hle,bK,aN⟩ := row e k u az.2 ⟨a0,aZ⟩
      have ka : i ≠ S.n := fun e1 => by rw [e1,h.cS _ (Nat.le_refl _)] at a2; cases a2
      have rM : al (S.fH (.row e k [])).O i = some (.box qH cs) := by
       simp only [ak.fH,al]
       rw [if_neg (fun e1 => ka e1.symm)]; exact aH
      refine ⟨E',lZ aN rM rfl (fun lz fO f1 f2 bj => LJ bj fun kL s0 => ?_)⟩
      have := hle _ _ a2
      rw [f1] at this
      simp only [Option.some.injEq,Prod.mk.injEq] at this
      obtain ⟨_,_,rfl⟩ := this
      rw [f2] at e7
      simp only [Option.some.injEq,Obj.cells.injEq] at e7
      have nY : lz = vs := by have := e7.1; simpa using congrArg Array.toList this
      subst nY
      rw [hu] at s0; cases s0
      exact .own bK (by rw [aZ]; rfl)
    ·exact ⟨E,h⟩
   ·exact ⟨E,h⟩
  ·exact ⟨E,h⟩
 | any t =>
  simp only [ak.cast]
  split
  ·rename_i x ar
   split
   ·rename_i af
    exact ⟨E,xH h (.any ((h.kK t x ar).Fk af))⟩
   ·exact ⟨E,h⟩
  ·exact ⟨E,h⟩
 | M0 t c =>
  simp only [ak.cast]
  split
  ·rename_i cs ar
   have ax := h.kK t _ ar
   generalize aS : a.eval (.tmp t) = q at ax
   cases ax with
   | agg ej af =>
    refine ⟨E,xH h (aS ▸ .agg (LJ ej fun u hu => ?_) ?_)⟩
    ·exact .any (ej.one af u (List.mem_of_getElem? hu))
    ·rw [List.all_eq_true] at af ⊢
     intro z bO
     rcases List.mem_or_eq_of_mem_set bO with bO | rfl
     ·exact af z bO
     ·rfl
  ·exact ⟨E,h⟩
 | hN i =>
  simp only [ak.cast]
  split
  ·rename_i e c es aH
   obtain ⟨u,ob,xs,a2,aB,a8,cg⟩ := h.ob _ _ aH
   rcases cg with ⟨bb,_⟩ | ⟨g,cap,cur,rfl,rfl,cK,a4,fY,ho,l8,tw,l9,hT⟩
   ·cases bb
   ·have mG : ∀ {es : List (List av)} {xs : List Value},eD H 1 es xs → db H E es.flatten xs ∧ es.flatten.length = es.length ∧ es.flatten.all av.one = true := by
     intro es
     induction es with
     | nil => intro xs h; cases h; exact ⟨.nil,rfl,rfl⟩
     | cons c es dO =>
      intro xs h
      cases h with
      | cons et dP nL xI =>
       obtain ⟨i1,i2,i3⟩ := dO xI
       refine ⟨by rw [List.flatten_cons]; exact (et.mono (fun _ _ h => h) (lB _)).append i1,?_,?_⟩
       ·have := et.length
        rw [List.flatten_cons,List.length_append,i2,this,dP,List.length_cons,Nat.add_comm]
       ·rw [List.flatten_cons,List.all_append,nL,i3]; rfl
    obtain ⟨f1,f2,f3⟩ := mG a8
    have gp : ∀ j o,al (S.eK i (.hN e (c :: es).flatten)).O j = some o → (j = i ∧ o = .hN e (c :: es).flatten) ∨ (i ≠ j ∧ al S.O j = some o) := fun j o aM => by
     simp only [ak.eK,lj] at aM
     split at aM
     ·rename_i e; cases aM; exact .inl ⟨e.symm,rfl⟩
     ·rename_i e; exact .inr ⟨e,aM⟩
    have kX : ∀ j,mQ (S.eK i (.hN e (c :: es).flatten)) j → mQ S j := by
     rintro j ⟨o,ay,aF⟩
     rcases gp j o ay with ⟨rfl,rfl⟩ | ⟨_,aM⟩
     ·exact ⟨_,aH,rfl⟩
     ·exact ⟨o,aM,aF⟩
    refine ⟨E,h.grow,h.kK,fun j o aM => ?_,fun jn yV iw aq aM => h.ap jn yV iw (kX _ aq) (kX _ aM),h.cS,h.jg,h.kv⟩
    rcases gp j o aM with ⟨rfl,rfl⟩ | ⟨_,aM⟩
    ·refine ⟨g,cap,cur,by rw [f2]; exact a2,cK,a4,fY,by rw [f2,l9]; omega,?_,f3⟩
     rw [f2]
     have : (c :: es).length * 1 = (c :: es).length := Nat.mul_one _
     rw [this] at hT
     rw [hT]; exact f1
    ·exact h.ob j o aM
  ·exact ⟨E,h⟩

theorem bu.gw : ∀ (l : List qz) {S : ak} {E : Env},bu N w0 H0 S E a w H → ∃ E',bu N w0 H0 (S.gw l) E' a w H
 | [],_,E,h => ⟨E,h⟩
 | c :: l,_,_,h => by
  obtain ⟨hj,af⟩ := h.cast c
  exact bu.gw l af

end

section
variable {N : Nat} {w0 w w' : World} {H0 H H' : bg} {S : ak} {E : Env} {a : Act} {o : Oper} {K : ak → Prop}

theorem bu.bf (aN : bu N w0 H0 S E a w H) {x : Operand} {s : av} (h : S.bf x = some s) : ca H E s (a.eval x) := aN.cP [x] x (by simp) s h

theorem Ui (aN : bu N w0 H0 S E a w H) (aX : ∀ t,o.dst = some t → t < N) {op eY} (ay : o.op = op) (hm : eM op eY) (h : cj eY S fun s => K (S.bX o.dst s)) : Told N w0 H0 o K a w := by
 obtain ⟨s,aB,aH⟩ := NC (E := E) ay hm h
 exact aiB aN aX aH aB

theorem NO (n3 : bu N w0 H0 S E a w H) (aX : ∀ t,o.dst = some t → t < N) {op eY} (ay : o.op = op) (hm : eM op eY) (h : fx o.dst eY S K) : Told N w0 H0 o K a w := by
 obtain ⟨H1,_,aN⟩ := n3.mc eY.fA
 have br : cj eY (S.mc eY.fA) (fun s => K ((S.mc eY.fA).bX o.dst s)) → Told N w0 H0 o K a w := fun h => Ui aN aX ay hm h
 cases hm with
 | cm af aj aw => exact aie aN aX ay af aj aw h
 | box =>
  obtain ⟨s,ao,af,h⟩ := bW h
  exact aii aN aX ay ao af h
 | st af =>
  obtain ⟨lO,h⟩ := h
  obtain ⟨s,ao,h⟩ := bW h
  obtain ⟨v,bj,h⟩ := bW h
  cases s with
  | ptr i idx off =>
   simp only at h
   split at h
   ·rename_i t cs aH
    obtain ⟨bE,bP,cK,h⟩ := h
    exact aiy aN lO ay af ao bj aH bE bP cK h
   ·obtain ⟨gY,xm,h⟩ := bW h
    obtain ⟨bE,bP,cK,h⟩ := h
    have cU := aN.bf ao
    have h3 := aN.bf bj
    obtain ⟨kq,l2,hr⟩ := aN.jl v
    split at h
    ·rename_i e dx es aH
     obtain ⟨c,az,a4,h⟩ := bW h
     exact aiz hr lO ay af rfl (cU.mono l2 (fK.refl _)) (h3.mono l2 (fK.refl _)) xm aH bE bP cK az a4 h
    ·exact h.elim
   ·rename_i e cs aH
    obtain ⟨bE,bP,cK,h⟩ := h
    exact aiA aN lO ay af ao bj aH bE bP cK h
   ·exact h.elim
  | _ => exact h.elim
 | tD af aj aw aV bF bH cA => obtain ⟨es,he,_,h⟩ := bW h; exact aih aN aX ay af aj aw aV bF bH cA he h
 | mm af aj aw aV bF bH =>
  obtain ⟨s,ao,h⟩ := bW h
  cases s with
  | v q => cases q with
   | int fk m => obtain ⟨bE,bP,cK,h⟩ := h; exact aiu aN aX ay af aj aw aV bF bH ao bE bP cK h
   | _ => exact h.elim
  | _ => exact h.elim
 | oe af aj => exact ait aN aX ay h
 | app af aj aw aV bF =>
  obtain ⟨s,ao,h⟩ := bW h
  obtain ⟨j,aM,h⟩ := bW h
  cases s with
  | au cy full xs =>
   cases j with
   | au k2 f2 ys => obtain ⟨rfl,rfl,G9,ha,c4,dm,h⟩ := h; exact Uf aN aX ay af aj aw aV bF (aN.bf ao) G9 aM rfl ha c4 dm h
   | _ => exact h.elim
  | own i =>
   cases j with
   | au k2 f2 ys =>
    simp only at h
    split at h
    ·rename_i e1 cy es aH
     obtain ⟨rfl,rfl,rfl,c4,dm,h⟩ := h
     exact aif aN aX ay af aj aw aV bF ao aH aM rfl c4 dm h
    ·exact h.elim
   | _ => exact h.elim
  | _ => exact h.elim
 | qJ af aj =>
  obtain ⟨s,ao,h⟩ := bW h
  obtain ⟨j,aM,h⟩ := bW h
  cases s with
  | own i =>
   cases j with
   | au k2 f2 ys =>
    simp only at h
    split at h
    ·rename_i e1 cy es aH
     obtain ⟨rfl,rfl,h⟩ := h
     exact ail aN aX ay af aj ao aH aM rfl h
    ·exact h.elim
   | _ => exact h.elim
  | _ => exact h.elim
 | pv af aj =>
  obtain ⟨lO,h⟩ := h
  obtain ⟨s,ao,h⟩ := bW h
  obtain ⟨j,aM,h⟩ := bW h
  obtain ⟨v,bj,h⟩ := bW h
  cases s with
  | own i =>
   cases j with
   | v q =>
    cases q with
    | int fk n =>
     cases fk with
     | i64 =>
      simp only at h
      split at h
      ·rename_i iz M f aH
       obtain ⟨rfl,c4,dm,gi,h⟩ := h
       rcases h with h | ⟨qB,yH,h⟩
       ·exact Uj aN lO ay af aj ao aM bj aH c4 dm gi (.inl rfl) h
       ·exact Uj aN lO ay af aj ao aM bj aH c4 dm gi (.inr yH) h
      ·exact h.elim
     | _ => exact h.elim
    | _ => exact h.elim
   | _ => exact h.elim
  | _ => exact h.elim
 | r9 af aj =>
  obtain ⟨s,ao,h⟩ := bW h
  cases s with
  | mp iz f => obtain ⟨rU,b2,cy⟩ := h; exact aiq aN aX ay af aj ao b2 cy (by rw [rU]; exact aj)
  | own i =>
   simp only at h
   split at h
   ·rename_i iz M f aH
    obtain ⟨rU,cy⟩ := h
    exact air aN aX ay af ao aH cy (by rw [rU]; exact aj)
   ·exact h.elim
  | _ => exact h.elim
 | call af aj aw =>
  have go : ∀ {S : ak} {E : Env} {H : bg},bu N w0 H0 S E a w H → DL _ _ S o.dst K → Told N w0 H0 o K a w := fun aN h => by
   rcases h with h | h
   ·exact Ui aN aX ay (.call af aj aw) h
   ·obtain ⟨l,aF,h⟩ := bW h
    rcases h with ⟨e,k,es,ax,aB⟩ | ⟨bc,M,g,ax,aB,aG⟩
    ·exact aix aN aX ay (nn af aj aw) aF ax aB
    ·exact ais aN aX ay (nn af aj aw) aF ax aB aG
  rcases h with h | ⟨cs,h⟩ | ⟨l,P,aF,ax,aB⟩
  ·exact go aN h
  ·obtain ⟨qA,hr⟩ := n3.gw cs
   obtain ⟨kq,_,wS⟩ := hr.mc _
   exact go wS h
  ·exact aij n3 aX ay (nn af aj aw) aF ax aB
 | @kt t args hE =>
  rcases h with h | ⟨s,l0,f,l,P,ar,aF,az,ax,aB⟩
  ·exact br h
  ·exact aik n3 aX ay ar aF az ax aB
 | gen =>
  rcases h with h | ⟨x,name,args,hE,t,lv,l0,f,P,rfl,rfl,ar,aF,bk,H8,ax,aB⟩
  ·exact br h
  ·exact aip n3 aX ay ar aF bk H8 ax aB
 | @eqv t x y t2 =>
  rcases h with h | h
  ·exact br h
  ·obtain ⟨s,ao,h⟩ := bW h
   obtain ⟨j,aM,h⟩ := bW h
   cases s with
   | own i =>
    cases j with
    | v q =>
     cases q with
     | map p =>
      cases p with
      | none =>
       simp only at h
       split at h
       ·rename_i bc M f aH
        obtain ⟨⟨iz,e,hu⟩,h⟩ := h
        exact Uh (neg := false) aN aX ay hu ao aM aH h
       ·exact h.elim
      | _ => exact h.elim
     | _ => exact h.elim
    | _ => exact h.elim
   | _ => exact h.elim
 | @JW t x y t2 =>
  rcases h with h | h
  ·exact br h
  ·obtain ⟨s,ao,h⟩ := bW h
   obtain ⟨j,aM,h⟩ := bW h
   cases s with
   | own i =>
    cases j with
    | v q =>
     cases q with
     | map p =>
      cases p with
      | none =>
       simp only at h
       split at h
       ·rename_i bc M f aH
        obtain ⟨⟨iz,e,hu⟩,h⟩ := h
        exact Uh (neg := true) aN aX ay hu ao aM aH h
       ·exact h.elim
      | _ => exact h.elim
     | _ => exact h.elim
    | _ => exact h.elim
   | _ => exact h.elim
 | del af aj =>
  obtain ⟨s,ao,h⟩ := bW h
  obtain ⟨j,aM,h⟩ := bW h
  cases s with
  | own i =>
   cases j with
   | v q =>
    cases q with
    | int fk n =>
     cases fk with
     | i64 =>
      simp only at h
      split at h
      ·rename_i iz M f aH
       obtain ⟨rfl,dm,gi,h⟩ := h
       exact aim aN aX ay af aj ao aM aH dm gi h
      ·exact h.elim
     | _ => exact h.elim
    | _ => exact h.elim
   | _ => exact h.elim
  | v p =>
   cases p with
   | map pm =>
    cases pm with
    | none =>
     cases j with
     | v q =>
      cases q with
      | int fk n =>
       cases fk with
       | i64 => obtain ⟨dm,gi,h⟩ := h; exact ain aN aX ay af aj ao aM dm gi h
       | _ => exact h.elim
      | _ => exact h.elim
     | _ => exact h.elim
    | some b => cases j with
     | v q => cases q with
      | int fk n => cases fk <;> exact h.elim
      | _ => exact h.elim
     | _ => exact h.elim
   | _ => cases j with
    | v q => cases q with
     | int fk n => cases fk <;> exact h.elim
     | _ => exact h.elim
    | _ => exact h.elim
  | _ => exact h.elim
 | jZ af aj =>
  obtain ⟨s,ao,h⟩ := bW h
  cases s with
  | mp iz f => obtain ⟨rfl,h⟩ := h; exact aiw aN aX ay af aj ao h
  | _ => exact h.elim
 | oh =>
  obtain ⟨s,ao,h⟩ := bW h
  cases s with
  | own i =>
   simp only at h
   split at h
   ·rename_i f left hH cur aH
    exact aiv aN aX ay ao aH h.1 h.2
   ·exact h.elim
  | _ => exact h.elim
 | qM =>
  obtain ⟨s,ao,h⟩ := bW h
  cases s with
  | own i =>
   simp only at h
   split at h
   ·rename_i f left hH j s aH
    exact aio aN aX ay ao aH h
   ·exact h.elim
  | _ => exact h.elim
 | _ => exact br h
end

def Mw (ops : Array Oper) (o : Oper) : Option (Nat × Bool) → Prop
 | none => o.guard = none
 | some (t,b) => ∃ j hD,o.guard = some (j,b) ∧ ops[j]? = some hD ∧ hD.dst = some t
structure zQ (N : Nat) (ops : Array Oper) (o : Oper) (g : cl) : Prop where
 d : g.d = o.dst
 op : eM o.op g.op
 lt : ∀ t,o.dst = some t → t < N
 tL : Mw ops o g.g
inductive j1 (N : Nat) (ops : Array Oper) : List Oper → List cl → Prop
 | nil : j1 N ops [] []
 | cons {o g l cf} : zQ N ops o g → j1 N ops l cf → j1 N ops (o :: l) (g :: cf)

def End (N : Nat) (w0 : World) (H0 : bg) (K : ak → Prop) (a : Act) (w : World) : Prop := ∃ S' E' H',K S' ∧ bu N w0 H0 S' E' a w H'

section
variable {N : Nat} {w0 w w' : World} {H0 H H' : bg} {S : ak} {E : Env} {a : Act} {o : Oper} {K : ak → Prop} {ops : Array Oper} {Q : Exit → Act → World → Prop}

theorem Ai {j : Nat} {hD : Oper} {t : Nat} (aM : ops[j]? = some hD) (aX : hD.dst = some t) : lG ops a j = a.eval (.tmp t) := by simp [lG,aM,aX]

theorem Dy {t : Nat} {ev : Bool} (ba : ca H E (.v (.bool ev)) (a.eval (.tmp t))) : a.eval (.tmp t) = .bool ev := by
 generalize a.eval (.tmp t) = q at ba
 cases ba; rfl

theorem bu.lF (h : bu N w0 H0 S E a w H) {d : Option Nat} {v : Value} : bu N w0 H0 (S.lF d) E (a.put d v) w H := by
 cases d with
 | none => exact h
 | some d => exact h.skip

theorem Mb {j : Nat} {hD : Oper} {t : Nat} {b : Bool} (g1 : o.guard = some (j,b)) (bQ : ops[j]? = some hD) (gy : hD.dst = some t) (bj : a.eval (.tmp t) = undef) : Region.wanted o (yielded ops a.tmps) = false := by
 unfold Region.wanted
 rw [g1]
 simp only [yielded,bQ,gy,Option.bind_some]
 cases h : a.tmps[t]? with
 | none => rfl
 | some v =>
  have : v = undef := by simpa [Act.eval,h] using bj
  subst this
  rfl

theorem Ar {l2 : List Oper} : ∀ {l : List Oper} {cf : List cl} {S : ak} {E : Env} {a : Act} {w : World} {H : bg} {K : ak → Prop},j1 N ops l cf → h0 cf S K → bu N w0 H0 S E a w H → (∀ a w,End N w0 H0 K a w → wpList Tryz.prog ops Q l2 a w) → wpList Tryz.prog ops Q (l ++ l2) a w
 | _,_,_,_,_,_,_,_,.nil,h,aN,jB => jB _ _ ⟨_,_,_,h,aN⟩
 | o :: l,g :: cf,S,E,a,w,H,K,.cons aH aO,h,aN,jB => by
  have run : ∀ {o4 : ak → Prop},fx o.dst g.op S o4 → (∀ S',o4 S' → h0 cf S' K) → o.wp Tryz.prog a w (wpList Tryz.prog ops Q (l ++ l2)) Q := fun aB Ia => by
   refine Oper.CH ?_ (NO aN aH.lt rfl aH.op aB)
   rintro dD w' ⟨S',E',H',iR,dL⟩
   exact Ar aO (Ia _ iR) dL jB
  rw [List.cons_append]
  unfold wpList
  simp only [h0,jT] at h
  have j8 := aH.tL
  split at h
  ·rename_i a7
   rw [a7] at j8
   rw [if_pos (zy j8)]
   rw [aH.d] at h
   exact .inl (run h fun _ h => h)
  ·rename_i t b a7
   rw [a7] at j8
   obtain ⟨j,hD,g1,bQ,gy⟩ := j8
   obtain ⟨s,ao,h⟩ := bW h
   have ba := aN.bf ao
   cases s with
   | v q =>
    cases q with
    | bool ev =>
     have bj : lG ops a j = .bool ev := (Ai bQ gy).trans (Dy ba)
     rw [CE g1 bj]
     rw [aH.d] at h
     by_cases aJ : ev = b
     ·rw [if_pos (by simp [aJ])]
      exact .inl (run (h.1 aJ) fun _ h => h)
     ·rw [if_neg (by simp [aJ])]
      have jC : ev = !b := by cases ev <;> cases b <;> simp_all
      exact Ar aO (h.2 jC) (aN.put (v := undef) (.bR .nil) aH.lt) jB
    | _ => exact h.elim
   | bR cs =>
    cases cs with
    | nil =>
     have bj : a.eval (.tmp t) = undef := by
      generalize a.eval (.tmp t) = q at ba
      cases ba with
      | bR h => cases h; rfl
     rw [Mb g1 bQ gy bj,if_neg (by simp)]
     rw [aH.d] at h
     exact Ar aO h (aN.put (v := undef) (.bR .nil) aH.lt) jB
    | cons _ _ => exact h.elim
   | _ => exact h.elim

theorem NM {l : List Oper} {cf : List cl} {S : ak} {E : Env} {a : Act} {w : World} {H : bg} {K : ak → Prop} (aH : j1 N ops l cf) (h : h0 cf S K) (aN : bu N w0 H0 S E a w H) (jB : ∀ a w,End N w0 H0 K a w → Q .normal a w) : wpList Tryz.prog ops Q l a w := by
 have := Ar (l2 := []) aH h aN (Q := Q) jB
 rwa [List.append_nil] at this

def v5 (E : Env) (s : av) : Rel := fun v _ H => ca H E s v
theorem PX (E : Env) (s : av) : uU (v5 E s) := fun _ _ _ _ _ h g ao => h.mono (g.le ao) (fK.refl _)
def Ha (E : Env) (B : Nat) (t : TypeId) (cs : List av) : Rel := fun v w H => ∃ b vs,v = .pointer (some ⟨b,0,none⟩) ∧ B ≤ b ∧ H b = none ∧ w.heap[b]? = some (.cells vs.toArray t (0,0)) ∧ db H E cs vs
theorem aeA (E : Env) (B : Nat) (t : TypeId) (cs : List av) : uU (Ha E B t cs) := fun v w H w' H' ⟨b,vs,af,aj,aw,aV,bF⟩ g ao => by
 have bN := (Array.getElem?_eq_some_iff.1 aV).1
 exact ⟨b,vs,af,aj,(g.old b bN).trans aw,(g.below.block b bN).trans aV,bF.mono (g.le ao) (fK.refl _)⟩

def Cf (E : Env) (B : Nat) (e : TypeId) (k : Nat) (es : List (List av)) : Rel := fun v w H => ∃ ob xs,0 < k ∧ eD H k es xs ∧ ((es = [] ∧ ob = none ∧ ∃ a,v = .slice a 0 0) ∨
 ∃ g cap cur,ob = some g ∧ v = .slice (some ⟨g,0,none⟩) es.length cap ∧ B ≤ g ∧ H g = none ∧ w.heap[g]? = some (.cells cur e (0,0)) ∧ es.length ≤ cap ∧ cap ≤ maxLen ∧ (es = [] → cap = 0) ∧ cur.size = cap * k ∧ cur.toList.take (es.length * k) = xs)
theorem aeC (E : Env) (B : Nat) (e : TypeId) (k : Nat) (es : List (List av)) : uU (Cf E B e k es) := fun v w H w' H' ⟨ob,xs,aB,aj,aw⟩ g ao => by
 refine ⟨ob,xs,aB,aj.mono (g.le ao),aw.imp id ?_⟩
 rintro ⟨j6,cap,cur,bE,bP,cK,a4,fY,ho⟩
 have bN := (Array.getElem?_eq_some_iff.1 fY).1
 exact ⟨j6,cap,cur,bE,bP,cK,(g.old _ bN).trans a4,(g.below.block _ bN).trans fY,ho⟩

def LU (ops : Array Oper) (n : Nat) (o : Oper) (t : Nat) : Bool := sf ops n t || (List.range n).any fun i => waits o i && ((ops[i]?).bind (·.dst) == some t)
def Kl (ops : Array Oper) (n : Nat) (o : Oper) : Operand → Bool
 | .tmp t => LU ops n o t
 | _ => true
def DX (ops : Array Oper) (n : Nat) (cf : List cl) : Bool :=
 (List.range n).all fun i => match ops[i]?,cf[i]? with
  | some o,some g => g.op.cP.all (Kl ops n o) && (match g.g with | none => true | some (t,_) => (match o.guard with | some (j,_) => waits o j && decide (j < n) | none => false) && LU ops n o t)
  | _,_ => false
def b4.b1 : b4 → Bool
 | .ah _ | .ext _ _ | .k3 _ => true
 | _ => false
def DR (eS : List Nat) (cf : List cl) : Bool := eS.all fun i => match cf[i]? with
 | some g => g.op.b1
 | none => false

def GP (ops : Array Oper) (n : Nat) (Γ : List Rel) (S0 : ak) (E : Env) (t : Nat) (x : av) : Prop :=
 (sf ops n t = true ∧ al S0.T t = some x) ∨ (∃ i o,i < Γ.length ∧ ops[i]? = some o ∧ o.dst = some t ∧ Γ[i]? = some (v5 E x)) ∨ (∃ i o,Γ.length ≤ i ∧ i < n ∧ ops[i]? = some o ∧ o.dst = some t)
def wx (ops : Array Oper) (n : Nat) (Γ : List Rel) (S0 S : ak) (E : Env) : Prop :=
 S.O = S0.O ∧ ∀ t x,al S.T t = some x → GP ops n Γ S0 E t x

theorem Qv {n t i : Nat} {o : Oper} (h : sf ops n t = true) (aq : i < n) (ay : ops[i]? = some o) : o.dst ≠ some t := by
 unfold sf at h
 rw [List.all_eq_true] at h
 have hm : o ∈ ops.toList.take n := by
  rw [List.mem_iff_getElem?]
  exact ⟨i,by rw [List.getElem?_take,if_pos aq]; simpa using ay⟩
 simpa using h o hm

variable {n : Nat} {eS : List Nat} {a0 : Act} {hn : World} {hQ : bg} {Γ : List Rel} {S0 : ak}

theorem TW (aW : CQ ops n eS) (aN : bu N w0 H0 S0 E a0 hn hQ) (mO : wx ops n Γ S0 S E) (hlen : Γ.length < n) (fg : ops[Γ.length]? = some o) (hw : Grow hn hQ w H) (hp : qC ops Γ o a w H) (ay : pO ops n a0 a)
  {x : Operand} (ar : Kl ops n o x = true) : ∀ y,S.bf x = some y → ca H E y (a.eval x) := fun y a1 => by
 have cX : m4 w0.heap.size S E w H := fun i o' aq => by rw [mO.1] at aq; exact (aN.ob i o' aq).grow hw aN.sub
 refine Q4 hw.sub.qQ cX (fun t z aO bO => ?_) a1
 subst aO
 simp only [Kl,LU,Bool.or_eq_true,List.any_eq_true,List.mem_range,Bool.and_eq_true,beq_iff_eq] at ar
 rcases mO.2 t z bO with ⟨af,aj⟩ | ⟨i,ki,af,aj,aw,aV⟩ | ⟨i,ki,af,aj,aw,aV⟩
 ·rw [afv ay af]; exact (aN.kK t z aj).mono (hw.le aN.sub) (fK.refl _)
 ·rcases ar with ar | ⟨jn,jD,gB,EM⟩
  ·exact absurd aw (Qv ar (by omega) aj)
  ·have Eg : jn = i := Decidable.byContradiction fun dd => aW.dst jn i jD (by omega) dd t EM (by rw [aj]; simpa using aw)
   subst Eg
   have := hp jn _ gB aV
   rw [Ai aj aw] at this
   exact this
 ·rcases ar with ar | ⟨jn,jD,gB,EM⟩
  ·exact absurd aV (Qv ar aj aw)
  ·have Eg : jn = i := Decidable.byContradiction fun dd => aW.dst jn i jD aj dd t EM (by rw [aw]; simpa using aV)
   subst Eg
   obtain ⟨e,he,aJ,anh⟩ := sw gB
   have := aW.An _ _ fg e he aJ
   omega
end

section
variable {N : Nat} {w0 w w' : World} {H0 H H' : bg} {S : ak} {E : Env} {a : Act} {o : Oper} {K : ak → Prop} {ops : Array Oper} {Q : Exit → Act → World → Prop}
variable {n : Nat} {eS : List Nat} {a0 : Act} {hn : World} {hQ : bg} {Γ : List Rel} {S0 F : ak} {cB : List TypeId}

theorem N0 {op : Op} {eY : b4} {k : av → Prop} (ay : o.op = op) (hm : eM op eY) (mG : eY.b1 = true) (h : cj eY S k) :
  ∃ s,k s ∧ ∀ (a : Act) (H : bg),ow S E H a eY.cP → ∃ v,(∀ w',(execOp a.eval o).run Tryz.prog w' = .ok (.value v) w') ∧ ca H E s v := by
 cases hm with
 | ah => obtain ⟨s,ao,aB⟩ := bW h; exact ⟨s,aB,fun a H aw => ⟨a.eval _,fun w' => by simp [execOp,ay],aw.get (by simp [b4.cP]) ao⟩⟩
 | Dt => obtain ⟨s,ao,aB⟩ := bW h; exact ⟨s,aB,fun a H aw => ⟨a.eval _,fun w' => by simp [execOp,ay],aw.get (by simp [b4.cP]) ao⟩⟩
 | @ext x i =>
  obtain ⟨s,ao,h⟩ := bW h
  cases s with
  | bR cs =>
   obtain ⟨r,ax,h⟩ := bW h
   refine ⟨r,h,fun a H aw => ?_⟩
   have ba := aw.get (by simp [b4.cP]) ao
   generalize aS : a.eval x = q at ba
   cases ba with
   | bR ej =>
    obtain ⟨u,hu,ax⟩ := ej.get ax
    exact ⟨u,fun w' => by simp [execOp,ay,aS,Instr.extract,hu],ax⟩
  | _ => exact h.elim
 | @k3 x =>
  obtain ⟨s,ao,h⟩ := bW h
  have run : ((∃ i idx o,s = .ptr i idx o) ∨ (∃ e o,s = .dc e o) ∨ (∃ f a b,s = .fn (.func f) a b) ∨ ∃ t y,s = .dr t y) → ∀ (a : Act) (H : bg),ow S E H a (b4.k3 x).cP → ∃ v,(∀ w',(execOp a.eval o).run Tryz.prog w' = .ok (.value v) w') ∧ ca H E s v := fun az a H aw => by
   have ba := aw.get (by simp [b4.cP]) ao
   refine ⟨a.eval x,fun w' => ?_,ba⟩
   generalize aS : a.eval x = q at ba
   rcases az with ⟨i,idx,o',rfl⟩ | ⟨e,o',rfl⟩ | ⟨f,b,c,rfl⟩ | ⟨t,y,rfl⟩ <;> cases ba <;> simp [execOp,ay,aS]
  cases s with
  | ptr i idx o' => exact ⟨_,h,run (.inl ⟨_,_,_,rfl⟩)⟩
  | dc e o' => exact ⟨_,h,run (.inr (.inl ⟨_,_,rfl⟩))⟩
  | fn f a b => cases f with
   | func f => exact ⟨_,h,run (.inr (.inr (.inl ⟨_,_,_,rfl⟩)))⟩
   | _ => exact h.elim
  | dr t y => exact ⟨_,h,run (.inr (.inr (.inr ⟨_,_,rfl⟩)))⟩
  | _ => exact h.elim
 | _ => cases mG

def zP (N : Nat) (w0 : World) (H0 : bg) (ops : Array Oper) (Q : Exit → Act → World → Prop) (n : Nat) (a0 : Act) (hn : World) (hQ : bg) (E : Env) (Γ : List Rel) (F : ak) : Prop :=
 ∀ W H,Grow hn hQ W H → ∀ Fm Dk,(∀ dD E',fK E E' → bu N w0 H0 F E' dD W H → wk Tryz.prog ops Q n W H Fm Dk dD) → wk Tryz.prog ops Q n W H (ops.toList.take Γ.length ++ Fm) (Γ ++ Dk) a0
def pM (S0 F : ak) (cB : List TypeId) : Prop := ∀ i o,al F.O i = some o → al S0.O i = some o ∨ ∃ t,t ∈ cB ∧ ((∃ cs,o = .box t cs) ∨ ∃ k es,o = .row t k es)

theorem DQ (h : zP N w0 H0 ops Q n a0 hn hQ E Γ F) (ay : ops[Γ.length]? = some o) {R : Rel} {k9 : ak}
  (vz : ∀ W H dD E' v,Grow hn hQ W H → fK E E' → bu N w0 H0 F E' dD W H → R v W H → ∃ tm,fK E tm ∧ bu N w0 H0 k9 tm (dD.put o.dst v) W H) : zP N w0 H0 ops Q n a0 hn hQ E (Γ ++ [R]) k9 := by
 intro W H aH Fm Dk aB
 have e : ops.toList.take (Γ ++ [R]).length = ops.toList.take Γ.length ++ [o] := by
  rw [List.length_append,List.length_singleton,List.take_add_one]
  simp [ay]
 rw [e,List.append_assoc,List.append_assoc]
 refine h W H aH _ _ (fun dD E' bK aN => ?_)
 intro v bj
 obtain ⟨tm,abQ,abY⟩ := vz W H dD E' v aH bK aN bj
 exact aB _ _ abQ abY

theorem TX (mO : wx ops n Γ S0 S E) (ay : ops[Γ.length]? = some o) (s : av) : wx ops n (Γ ++ [v5 E s]) S0 (S.bX o.dst s) E := by
 refine ⟨by cases o.dst <;> exact mO.1,fun t x ar => ?_⟩
 have hlen : (Γ ++ [v5 E s]).length = Γ.length + 1 := by simp
 have old : al S.T t = some x → o.dst ≠ some t → GP ops n (Γ ++ [v5 E s]) S0 E t x := fun ar dd => by
  rcases mO.2 t x ar with h | ⟨i,ki,af,aj,aw,aV⟩ | ⟨i,ki,af,aj,aw,aV⟩
  ·exact Or.inl h
  ·exact Or.inr (.inl ⟨i,ki,by omega,aj,aw,by rw [List.getElem?_append_left af]; exact aV⟩)
  ·refine Or.inr (.inr ⟨i,ki,?_,aj,aw,aV⟩)
   rw [hlen]
   rcases Nat.lt_or_ge Γ.length i with h | h
   ·omega
   ·obtain rfl : i = Γ.length := by omega
    rw [ay] at aw; cases aw
    exact absurd aV dd
 cases aX : o.dst with
 | none => rw [aX] at ar old; exact old ar (by simp)
 | some d =>
  rw [aX] at ar old
  simp only [ak.bX,ak.put,lj] at ar
  split at ar
  ·rename_i e; cases ar; subst e
   exact .inr (.inl ⟨Γ.length,o,by omega,ay,aX,by simp⟩)
  ·rename_i e; exact old ar (fun h => e (Option.some.inj h))
theorem LQ (mO : wx ops n Γ S0 S E) (ay : ops[Γ.length]? = some o) (R : Rel) : wx ops n (Γ ++ [R]) S0 (S.lF o.dst) E := by
 refine ⟨by cases o.dst <;> exact mO.1,fun t x ar => ?_⟩
 have hlen : (Γ ++ [R]).length = Γ.length + 1 := by simp
 have old : al S.T t = some x → o.dst ≠ some t → GP ops n (Γ ++ [R]) S0 E t x := fun ar dd => by
  rcases mO.2 t x ar with h | ⟨i,ki,af,aj,aw,aV⟩ | ⟨i,ki,af,aj,aw,aV⟩
  ·exact Or.inl h
  ·exact Or.inr (.inl ⟨i,ki,by omega,aj,aw,by rw [List.getElem?_append_left af]; exact aV⟩)
  ·refine Or.inr (.inr ⟨i,ki,?_,aj,aw,aV⟩)
   rw [hlen]
   rcases Nat.lt_or_ge Γ.length i with h | h
   ·omega
   ·obtain rfl : i = Γ.length := by omega
    rw [ay] at aw; cases aw
    exact absurd aV dd
 cases aX : o.dst with
 | none => rw [aX] at ar old; exact old ar (by simp)
 | some d =>
  rw [aX] at ar old
  obtain ⟨ar,dd⟩ := HQ ar
  exact old ar (fun h => dd (Option.some.inj h))

theorem Qn (aN : bu N w0 H0 S0 E a0 hn hQ) (dS : pM S0 F cB) {t : TypeId} (mh : cB.contains t = false) {W : World} {dD : Act} {E' : Env} {b : Nat} {cs : Array Value} {i : Nat} {o : bl} {u : Value} {k : Nat} (bK : fK E E')
  (bs : bu N w0 H0 F E' dD W H) (ay : al F.O i = some o) (aF : o.live = true) (he : E' i = some (u,k,some b)) (aj : hn.heap.size ≤ b) (aV : W.heap[b]? = some (.cells cs t (0,0))) : False := by
 have aO : ∀ t',t' ∈ cB → t ≠ t' := fun t' vA e => by
  subst e
  have : cB.contains t = true := by simpa using vA
  rw [mh] at this; cases this
 rcases dS i o ay with aq | ⟨t',vA,⟨cs',rfl⟩ | ⟨dA,DK,rfl⟩⟩
 ·-- a part aia anN there before aib region
  have lT := aN.ob i o aq
  have abR : ∃ q,E i = some q := by
   cases o with
   | box t cs => obtain ⟨b,vs,af,_⟩ := lT; exact ⟨_,af⟩
   | row e k es => obtain ⟨u,ob,xs,af,_⟩ := lT; exact ⟨_,af⟩
   | map bc N f => obtain ⟨b,o,F,af,_⟩ := lT; exact ⟨_,af⟩
   | iter f left hH cur => obtain ⟨r,ob,af,_⟩ := lT; exact ⟨_,af⟩
   | fS x => obtain ⟨u,k,b,af,_⟩ := lT; exact ⟨_,af⟩
   | hN e cs => obtain ⟨b,cap,cur,af,_⟩ := lT; exact ⟨_,af⟩
   | cq J => exact lT.1
  obtain ⟨q,aS⟩ := abR
  have := bK i q aS
  rw [he] at this; cases this
  have := (aN.vJ ⟨o,aq,aF⟩ aS).2.2
  omega
 ·obtain ⟨dm,anK,a2,_,_,e7,_⟩ := bs.ob i _ ay
  rw [he] at a2; cases a2
  rw [aV] at e7
  simp only [Option.some.injEq,Obj.cells.injEq] at e7
  exact aO t' vA e7.2.1
 ·obtain ⟨iD,vO,anQ,a2,_,_,cg⟩ := bs.ob i _ ay
  rw [he] at a2; cases a2
  rcases cg with ⟨_,e,_⟩ | ⟨g,cap,cur,e,_,_,_,e7,_⟩
  ·cases e
  ·cases e
   rw [aV] at e7
   simp only [Option.some.injEq,Obj.cells.injEq] at e7
   exact aO t' vA e7.2.1
theorem aaN (aN : bu N w0 H0 S0 E a0 hn hQ) (dS : pM S0 F cB) {e : TypeId} {k : Nat} {es : List (List av)} (mh : cB.contains e = false) {d : Option Nat} (aX : ∀ t,d = some t → t < N) {W : World} {dD : Act} {E' : Env} {v : Value} (bK : fK E E')
  (bs : bu N w0 H0 F E' dD W H) (bj : Cf E hn.heap.size e k es v W H) : ∃ tm,fK E tm ∧ bu N w0 H0 ((F.fH (.row e k es)).bX d (.own F.n)) tm (dD.put d v) W H := by
 obtain ⟨ob,xs,aB,aj,aw⟩ := bj
 have a7 := bs.cS F.n (Nat.le_refl _)
 let p : Value × Nat × Option Nat := (v,k,ob)
 have hle := Env.uE p a7
 have r0 : v.oneCell' = true := by rcases aw with ⟨_,_,a,rfl⟩ | ⟨g,cap,cur,_,rfl,_⟩ <;> rfl
 have ba := bs.new (o := .row e k es) (p := p) ⟨v,ob,xs,Env.iB _ _ _,aB,aj,aw.imp id (by rintro ⟨g,cap,cur,bE,bP,cK,a4⟩; exact ⟨g,cap,cur,bE,bP,Nat.le_trans aN.grow.below.size cK,a4⟩)⟩ (by
  rintro fO jC i ⟨o,ay,aF⟩ u dA he
  rcases aw with ⟨_,fs,_⟩ | ⟨g,cap,cur,bE,_,cK,_,fY,_⟩
  ·have iH : ob = some fO := jC
   rw [fs] at iH; cases iH
  ·have iH : ob = some fO := jC
   rw [bE] at iH; cases iH
   exact Qn aN dS mh bK bs ay aF he cK fY)
 refine ⟨E'.set F.n p,fun i q aS => hle i q (bK i q aS),ba.put ?_ aX⟩
 exact .own (Env.iB E' F.n p) r0

theorem aaM (aN : bu N w0 H0 S0 E a0 hn hQ) (dS : pM S0 F cB) {t : TypeId} {cs : List av} (mh : cB.contains t = false) (af : cs.all av.one = true) {d : Option Nat} (aX : ∀ t,d = some t → t < N) {W : World} {dD : Act} {E' : Env} {v : Value} (bK : fK E E')
  (bs : bu N w0 H0 F E' dD W H) (bj : Ha E hn.heap.size t cs v W H) : ∃ tm,fK E tm ∧ bu N w0 H0 ((F.fH (.box t cs)).bX d (.ptr F.n 0 0)) tm (dD.put d v) W H := by
 obtain ⟨b,vs,rfl,aj,aw,aV,bF⟩ := bj
 have a7 := bs.cS F.n (Nat.le_refl _)
 let p : Value × Nat × Option Nat := (.pointer (some ⟨b,0,none⟩),0,some b)
 have hle := Env.uE p a7
 have ba := bs.new (o := .box t cs) (p := p) ⟨b,vs,Env.iB _ _ _,Nat.le_trans aN.grow.below.size aj,aw,aV,bF.mono (fun _ _ h => h) (fun i q aS => hle i q (bK i q aS)),af⟩ (by
  rintro fO jC i ⟨o,ay,aF⟩ u k he
  cases jC
  refine Qn aN dS mh bK bs ay aF he aj aV
)
 refine ⟨E'.set F.n p,fun i q aS => hle i q (bK i q aS),ba.put ?_ aX⟩
 have := ca.ptr (H := H) (E := E'.set F.n p) (i := F.n) (idx := 0) (off := 0) (Env.iB E' F.n p)
 simpa using this

theorem afb (dS : pM S0 F cB) {t : TypeId} {cs : List av} {d : Option Nat} {x : av} : pM S0 ((F.fH (.box t cs)).bX d x) (t :: cB) := by
 intro i o ay
 have fo : al (F.fH (.box t cs)).O i = some o := by cases d <;> exact ay
 simp only [ak.fH,al] at fo
 split at fo
 ·cases fo; exact .inr ⟨t,by simp,.inl ⟨cs,rfl⟩⟩
 ·rcases dS i o fo with h | ⟨t',af,aj⟩
  ·exact .inl h
  ·exact .inr ⟨t',by simp [af],aj⟩
theorem afd (dS : pM S0 F cB) {e : TypeId} {k : Nat} {es : List (List av)} {d : Option Nat} {x : av} : pM S0 ((F.fH (.row e k es)).bX d x) (e :: cB) := by
 intro i o ay
 have fo : al (F.fH (.row e k es)).O i = some o := by cases d <;> exact ay
 simp only [ak.fH,al] at fo
 split at fo
 ·cases fo; exact .inr ⟨e,by simp,.inr ⟨k,es,rfl⟩⟩
 ·rcases dS i o fo with h | ⟨t',af,aj⟩
  ·exact .inl h
  ·exact .inr ⟨t',by simp [af],aj⟩
theorem Qm (dS : pM S0 F cB) {d : Option Nat} {x : av} : pM S0 (F.bX d x) cB := fun i o ay => dS i o (by cases d <;> exact ay)
theorem afc (dS : pM S0 F cB) {d : Option Nat} : pM S0 (F.lF d) cB := fun i o ay => dS i o (by cases d <;> exact ay)

theorem aaZ {t e : TypeId} {i : TypeInfo} {z : Value} {x y : Operand} {ys : List (List av)} {k2 f2 : Nat} {a : Act} (ay : o.op = .call ⟨.builtin .append,#[x,y],#[t,t]⟩) (aO : Tryz.prog.underlying t = some (.slice e)) (aq : Tryz.prog.info? e = some i) (bO : i.zero = some z) (hB : z.cells.size = i.size) (fz : 0 < i.size)
  (ao : Sub H w) (cU : ca H E (.au i.size 0 []) (a.eval x)) (h3 : ca H E (.au k2 f2 ys) (a.eval y)) (aG : k2 = i.size) (c4 : ys.length ≤ 140737488355328) (dm : ys.length * i.bytes ≤ 140737488355328) :
  ∃ v w',(execOp a.eval o).run Tryz.prog w = .ok (.value v) w' ∧ Grow w H w' H ∧ ∀ E' B,B ≤ w.heap.size → Cf E' B e i.size ys v w' H := by
 subst aG
 generalize hA : a.eval x = jK at cU
 generalize iy : a.eval y = hh at h3
 obtain ⟨bE,n,c,rfl⟩ : ∃ a n c,jK = .slice a n c := by cases cU; exact ⟨_,_,_,rfl⟩
 obtain ⟨bP,m,c2,rfl⟩ : ∃ a n c,hh = .slice a n c := by cases h3; exact ⟨_,_,_,rfl⟩
 obtain ⟨us,eJ,fu,fM,_,oi,k4,hg⟩ := ra ao cU
 obtain ⟨vs,bL,cd,dV,_,fW,ja,lu⟩ := ra ao h3
 subst fu; subst cd
 by_cases bb : 0 < ys.length
 ·cases bP with
  | none => have := ja rfl; omega
  | some fr =>
   have kC : ([] : List (List av)).length + ys.length ≤ maxLen := by unfold maxLen; simp; omega
   obtain ⟨gY,w',c8,et,dP⟩ := KJ (P := Tryz.prog) (w := w) (k := i.size) t o.type e i z aO aq bO hB fz (c2 := c2) eJ.length eJ.one (oi.full (.inr ⟨rfl,rfl⟩)) k4 hg bL.length bL.one (lu fr rfl) bb kC (by simpa using dm)
   cases eJ
   simp only [List.length_nil] at c8 hA
   obtain ⟨g,cap,cur,rfl,s2,sm,sn,so,tf,sq⟩ := B2 (n := ys.length) (es := ys) (by simpa using et) bL rfl bb
   exact ⟨_,w',by simp [execOp,ay,resolve,hA,iy,invoke,builtin,c8],(Grow.refl ao).grown dP (fun k e => by cases e),fun E' B fD => ⟨some g,vs,fz,bL,.inr ⟨g,cap,cur,rfl,rfl,Nat.le_trans fD s2,ao.none s2,sm,sn,so,fun e => absurd e (fun e => by simp [e] at bb),tf,sq⟩⟩⟩
 ·have oc : ys = [] := List.eq_nil_of_length_eq_zero (by omega)
  subst oc
  have az := oi.full (.inr ⟨rfl,rfl⟩)
  simp only [List.length_nil] at az hA iy
  subst az
  have c8 : (Builtin.append_ #[t,t] o.type #[.slice bE 0 0,.slice bP 0 c2]).run Tryz.prog w = .ok (.slice bE 0 0) w := by
   have aF : ∀ (x : Addr),(loadCells x 0).run Tryz.prog w = .ok #[] w := fun x => by simpa using run_loadCells_list (P := Tryz.prog) w x [] (by simp)
   cases bE <;> cases bP <;> simp [Builtin.append_,run_underlying aO,run_sizeOf aq,Builtin.lenOf,Builtin.firstCells,aF,storeCells]
  exact ⟨.slice bE 0 0,w,by simp [execOp,ay,resolve,hA,iy,invoke,builtin,c8],Grow.refl ao,fun E' B fD => ⟨none,[],fz,.nil,.inl ⟨rfl,rfl,bE,rfl⟩⟩⟩

theorem NH {glA : List cl} (aW : CQ ops n eS) (aN : bu N w0 H0 S0 E a0 hn hQ) (Pg : DX ops n glA = true) (Ee : DR eS glA = true) :
  ∀ (l : List Oper) (cf : List cl) (Γ : List Rel) (S F : ak) (cB : List TypeId),j1 N ops l cf → Γ.length + l.length = n → (∀ j,j < l.length → l[j]? = ops[Γ.length + j]?) → (∀ j,j < l.length → cf[j]? = glA[Γ.length + j]?) →
   wx ops n Γ S0 S E → zP N w0 H0 ops Q n a0 hn hQ E Γ F → pM S0 F cB → iv cf S F cB K → (∀ W H a,Grow hn hQ W H → End N w0 H0 K a W → wpList Tryz.prog ops Q (ops.toList.drop n) a W) → pG Tryz.prog ops Q n eS a0 hn hQ Γ l
 | [],_,Γ,S,F,cB,.nil,a7,_,_,_,n4,_,h,aB => by
  simp only [List.length_nil,Nat.add_zero] at a7
  refine Y3 fun W H aH => ?_
  have := n4 W H aH [] [] (fun dD E' bK bs => by
   show wpList Tryz.prog ops Q (ops.toList.drop n) dD W
   exact aB W H dD aH ⟨F,E',H,h,bs⟩)
  rw [a7] at this
  simpa using this
 | o :: l,g :: cf,Γ,S,F,cB,.cons aH aO,a7,aF,tW,mO,n4,dS,h,aB => by
  simp only [List.length_cons] at a7
  have fg : ops[Γ.length]? = some o := by have := aF 0 (by simp); simpa using this.symm
  have lk : glA[Γ.length]? = some g := by have := tW 0 (by simp); simpa using this.symm
  have bN : Γ.length < n := by omega
  have Ca : ∀ (R : Rel) (S' k9 : ak) (ng : List TypeId),wx ops n (Γ ++ [R]) S0 S' E → zP N w0 H0 ops Q n a0 hn hQ E (Γ ++ [R]) k9 → pM S0 k9 ng → iv cf S' k9 ng K → pG Tryz.prog ops Q n eS a0 hn hQ (Γ ++ [R]) l := fun R S' k9 ng af aj aw aV =>
   NH aW aN Pg Ee l cf (Γ ++ [R]) S' k9 ng aO (by simp; omega) (fun j aM => by have := aF (j + 1) (by simp; omega); rw [List.length_append,List.length_singleton,Nat.add_assoc,Nat.add_comm 1 j]; simpa using this)
    (fun j aM => by have := tW (j + 1) (by simp; omega); rw [List.length_append,List.length_singleton,Nat.add_assoc,Nat.add_comm 1 j]; simpa using this) af aj aw aV aB
  have p4 := Pg
  unfold DX at p4
  rw [List.all_eq_true] at p4
  have Iz := p4 Γ.length (by simpa using bN)
  rw [fg,lk] at Iz
  simp only [Bool.and_eq_true,List.all_eq_true] at Iz
  obtain ⟨EB,Ef⟩ := Iz
  have yQ : ∀ {a w H},Grow hn hQ w H → qC ops Γ o a w H → pO ops n a0 a → ow S E H a g.op.cP := fun hw hp fo x ar y a1 =>
   TW aW aN mO bN fg hw hp fo (EB x ar) y a1
  have adt : ∀ {w H},Grow hn hQ w H → m4 w0.heap.size S E w H := fun hw i o' aq => by rw [mO.1] at aq; exact (aN.ob i o' aq).grow hw aN.sub
  have j8 := aH.tL
  have Pd : eS.contains Γ.length = true → g.op.b1 = true := fun az => by
   unfold DR at Ee
   rw [List.all_eq_true] at Ee
   have := Ee Γ.length (by simpa using az)
   rw [lk] at this
   exact this
  -- a value
  have val : cj g.op S (fun s => iv cf (S.bX g.d s) (F.bX g.d s) cB K) → (∀ a w H,Grow hn hQ w H → qC ops Γ o a w H → pO ops n a0 a → Region.wanted o (yielded ops a.tmps) = true) → pG Tryz.prog ops Q n eS a0 hn hQ Γ (o :: l) := fun br BG => by
   rw [aH.d] at br
   have fin : ∀ s,zP N w0 H0 ops Q n a0 hn hQ E (Γ ++ [v5 E s]) (F.bX o.dst s) := fun s => DQ n4 fg fun W H dD E' v _ bK bs bj => ⟨E',bK,bs.put (bj.mono (fun _ _ h => h) bK) aH.lt⟩
   by_cases az : eS.contains Γ.length = true
   ·obtain ⟨s,iR,bj⟩ := N0 (E := E) rfl aH.op (Pd az) br
    refine ⟨v5 E s,PX E s,?_,Ca _ _ _ _ (TX mO fg s) (fin s) (Qm dS) iR⟩
    rw [if_pos az]
    intro a w H hw hp fo
    obtain ⟨v,r0,uj⟩ := bj a H (yQ hw hp fo)
    exact ⟨v,.inl ⟨BG a w H hw hp fo,r0⟩,uj⟩
   ·obtain ⟨s,iR,bj⟩ := NC (E := E) rfl aH.op br
    refine ⟨v5 E s,PX E s,?_,Ca _ _ _ _ (TX mO fg s) (fin s) (Qm dS) iR⟩
    rw [if_neg az]
    intro a w H hw hp fo
    rw [if_pos (BG a w H hw hp fo)]
    exact bj w0.heap.size a w H hw.sub (adt hw) (yQ hw hp fo)
  -- alH operation aia is anx by
  have skip : iv cf (S.lF g.d) (F.lF g.d) cB K → (∀ a w H,Grow hn hQ w H → qC ops Γ o a w H → pO ops n a0 a → Region.wanted o (yielded ops a.tmps) = false) → pG Tryz.prog ops Q n eS a0 hn hQ Γ (o :: l) := fun br BG => by
   rw [aH.d] at br
   refine ⟨fun v _ _ => v = undef,aeB undef,?_,Ca _ _ _ _ (LQ mO fg _) (DQ n4 fg fun W H dD E' v _ bK bs bj => ⟨E',bK,by have xm : v = undef := bj; rw [xm]; exact bs.lF⟩) (afc dS) br⟩
   split
   ·intro a w H hw hp fo
    exact ⟨undef,.inr ⟨BG a w H hw hp fo,rfl⟩,rfl⟩
   ·intro a w H hw hp fo
    rw [if_neg (by rw [BG a w H hw hp fo]; exact Bool.false_ne_true)]
  -- a new variable
  have JX : ∀ (t : TypeId) (cs : List av),cs.all av.one = true → cB.contains t = false → iv cf (S.lF g.d) ((F.fH (.box t cs)).bX g.d (.ptr F.n 0 0)) (t :: cB) K → eS.contains Γ.length = false → o.guard = none →
    (∀ a w H,Grow hn hQ w H → qC ops Γ o a w H → pO ops n a0 a → ∃ vs,db H E cs vs ∧ (execOp a.eval o).run Tryz.prog w = .ok (.value (.pointer (some ⟨w.heap.size,0,none⟩))) (w.alloc (.cells vs.toArray t))) → pG Tryz.prog ops Q n eS a0 hn hQ Γ (o :: l) := fun t cs af mh br az IC c8 => by
   rw [aH.d] at br
   refine ⟨Ha E hn.heap.size t cs,aeA _ _ _ _,?_,Ca _ _ _ _ (LQ mO fg _) (DQ n4 fg fun W H dD E' v _ bK bs bj => aaM aN dS mh af aH.lt bK bs bj) (afb dS) br⟩
   rw [if_neg (by rw [az]; exact Bool.false_ne_true)]
   intro a w H hw hp fo
   rw [if_pos (zy IC)]
   obtain ⟨vs,ax,he⟩ := c8 a w H hw hp fo
   unfold Oper.wp
   rw [he]
   exact ⟨_,H,rfl,(Grow.refl hw.sub).alloc _,_,vs,rfl,hw.below.size,hw.sub.none (Nat.le_refl _),heap_alloc_new w _,ax⟩
  have Eo : g.op.b1 = false → eS.contains Γ.length = false := fun dq => by
   cases az : eS.contains Γ.length with
   | false => rfl
   | true => rw [Pd az] at dq; cases dq
  -- a new row
  have afe : ∀ (e : TypeId) (k : Nat) (es : List (List av)),cB.contains e = false → iv cf (S.lF g.d) ((F.fH (.row e k es)).bX g.d (.own F.n)) (e :: cB) K → eS.contains Γ.length = false → o.guard = none →
    (∀ a w H,Grow hn hQ w H → qC ops Γ o a w H → pO ops n a0 a → ∃ v w' H',(execOp a.eval o).run Tryz.prog w = .ok (.value v) w' ∧ Grow w H w' H' ∧ Cf E hn.heap.size e k es v w' H') → pG Tryz.prog ops Q n eS a0 hn hQ Γ (o :: l) := fun e k es mh br az IC c8 => by
   rw [aH.d] at br
   refine ⟨Cf E hn.heap.size e k es,aeC _ _ _ _ _,?_,Ca _ _ _ _ (LQ mO fg _) (DQ n4 fg fun W H dD E' v _ bK bs bj => aaN aN dS mh aH.lt bK bs bj) (afd dS) br⟩
   rw [if_neg (by rw [az]; exact Bool.false_ne_true)]
   intro a w H hw hp fo
   rw [if_pos (zy IC)]
   obtain ⟨v,w',H',he,AX,ax⟩ := c8 a w H hw hp fo
   unfold Oper.wp
   rw [he]
   exact ⟨_,H',rfl,AX,ax⟩
  have Oi : ∀ t b,g.g = some (t,b) → (cL (S.bf (.tmp t)) fun s => match s with
   | .v (.bool ev) => (ev = b → cj g.op S fun s => iv cf (S.bX g.d s) (F.bX g.d s) cB K) ∧ (ev = !b → iv cf (S.lF g.d) (F.lF g.d) cB K)
   | _ => False) → pG Tryz.prog ops Q n eS a0 hn hQ Γ (o :: l) := fun t b IB dq => by
   rw [IB] at j8 Ef
   obtain ⟨j,hD,g1,bQ,gy⟩ := j8
   rw [g1] at Ef
   simp only [Bool.and_eq_true] at Ef
   obtain ⟨s,ao,dq⟩ := bW dq
   cases s with
   | v q =>
    cases q with
    | bool ev =>
     have bj : ∀ a w H,Grow hn hQ w H → qC ops Γ o a w H → pO ops n a0 a → Region.wanted o (yielded ops a.tmps) = (ev == b) := fun a w H hw hp fo => by
      have ba := TW aW aN mO bN fg hw hp fo (x := .tmp t) Ef.2 _ ao
      exact CE g1 ((Ai bQ gy).trans (Dy ba))
     by_cases aJ : ev = b
     ·exact val (dq.1 aJ) (fun a w H hw hp fo => by rw [bj a w H hw hp fo]; simp [aJ])
     ·have jC : ev = !b := by cases ev <;> cases b <;> simp_all
      exact skip (dq.2 jC) (fun a w H hw hp fo => by rw [bj a w H hw hp fo]; simp [aJ])
    | _ => exact dq.elim
   | _ => exact dq.elim
  have JV : g.g = none → cj g.op S (fun s => iv cf (S.bX g.d s) (F.bX g.d s) cB K) → pG Tryz.prog ops Q n eS a0 hn hQ Γ (o :: l) := fun IB dq => by
   rw [IB] at j8
   exact val dq (fun _ _ _ _ _ _ => zy j8)
  have xi := aH.op
  obtain ⟨tL,HR,abI⟩ := g
  simp only at EB j8 yQ val skip JX Eo Oi JV xi
  unfold iv at h
  simp only at h
  cases HR with
  | none =>
   replace j8 : o.guard = none := j8
   cases abI with
   | cm t dz =>
    obtain ⟨p,hp,mh,h⟩ := bW h
    cases hp
    generalize jX : o.op = xD at xi
    cases xi with
    | @cm t' jn ak0 anT bL cd dV =>
     refine JX t (dz.map dX.hX) (zE dz) mh h (Eo rfl) j8 (fun a w H hw hp fo => ⟨_,yd H E dz,?_⟩)
     have e : (dz.map dX.val).toArray = ak0.cells := by rw [← dV]
     rw [e]
     simp [execOp,jX,Instr.alloc,xO bL cd,newVar,newRow]
   | box t x =>
    obtain ⟨p,hp,mh,h⟩ := bW h
    obtain ⟨s,ao,hp⟩ := Option.bind_eq_some_iff.1 hp
    split at hp
    ·rename_i af
     cases hp
     generalize jX : o.op = xD at xi
     cases xi with
     | box =>
      refine JX t s.cells af mh h (Eo rfl) j8 (fun a w H hw hp fo => ⟨_,yo ((yQ hw hp fo).get (by simp [b4.cP]) ao) af,?_⟩)
      simp [execOp,jX,Instr.box,newVar,newRow]
    ·cases hp
   | app x y e k bytes =>
    rcases h with h | h
    ·exact JV rfl h
    ·obtain ⟨s,ao,oE⟩ := bW h
     clear h
     obtain ⟨j,aM,sR⟩ := bW oE
     clear oE
     simp only at ao aM sR
     split at sR
     ·obtain ⟨p5,aG,c4,dm,mh,h⟩ := sR
      subst p5
      generalize jX : o.op = xD at xi
      cases xi with
      | app bL cd dV fW ja =>
       exact afe _ _ _ mh h (Eo rfl) j8 fun a w H hw hp fo => by
        obtain ⟨v,w',et,dP,nL⟩ := aaZ jX bL cd dV fW ja hw.sub ((yQ hw hp fo).get (by simp [b4.cP]) ao) ((yQ hw hp fo).get (by simp [b4.cP]) aM) aG c4 dm
        exact ⟨v,w',H,et,dP,nL _ _ hw.below.size⟩
     ·exact sR.elim
   | _ => exact JV rfl h
  | some tb =>
   obtain ⟨t,b⟩ := tb
   exact Oi t b rfl h
end

def b4.yB : b4 → Bool
 | .ah _ | .ext _ _ | .k3 _ | .a3 _ _ | .bin _ _ _ | .not _ | .lE _ _ | .pick _ _ _ | .dE _ _ => true
 | _ => false

theorem aaT {o : Oper} {S : ak} {E : Env} {op : Op} {eY : b4} {k : av → Prop} (ay : o.op = op) (hm : eM op eY) (mG : eY.yB = true) (h : cj eY S k) :
  ∃ s,k s ∧ ∀ (a : Act) (H : bg),ow S E H a eY.cP → ∃ v,(∀ w',(execOp a.eval o).run Tryz.prog w' = .ok (.value v) w') ∧ ca H E s v := by
 by_cases af : eY.b1 = true
 ·exact N0 ay hm af h
 cases hm with
 | ah => exact absurd rfl af
 | Dt => exact absurd rfl af
 | ext => exact absurd rfl af
 | k3 => exact absurd rfl af
 | @a3 t x j fT f i hu aW aq bO =>
  obtain ⟨s,ao,h⟩ := bW h
  have run : ∀ (a : Act) b o',a.eval x = .pointer (some ⟨b,o',none⟩) → ∀ w,(execOp a.eval o).run Tryz.prog w = .ok (.value (.pointer (some ⟨b,o' + f.offset,none⟩))) w := fun a b o' e w => by
   simp [execOp,ay,e,Instr.fieldAt,run_underlying hu,aW,Instr.sureAddr,fieldPlace,run_sizeOf aq,bO,Addr.add_lit]
  cases s with
  | ptr i idx o' =>
   refine ⟨_,h,fun a H aw => ?_⟩
   have ax := aw.get (by simp [b4.cP]) ao
   generalize aS : a.eval x = q at ax
   cases ax with
   | ptr h => exact ⟨_,run a _ _ aS,by rw [Nat.add_assoc]; exact .ptr h⟩
  | dc e o' =>
   refine ⟨_,h,fun a H aw => ?_⟩
   have ax := aw.get (by simp [b4.cP]) ao
   generalize aS : a.eval x = q at ax
   cases ax with
   | dc c4 dm gi => exact ⟨_,run a _ _ aS,by rw [Nat.add_assoc]; exact .dc c4 dm gi⟩
  | _ => exact h.elim
 | @bin op t x y t2 =>
  obtain ⟨s,ao,h⟩ := bW h
  obtain ⟨j,aM,h⟩ := bW h
  cases s with
  | v p => cases p with
   | int cy bE => cases j with
    | v q => cases q with
     | int k2 c4 =>
      obtain ⟨rfl,h⟩ := h
      obtain ⟨r,ax,h⟩ := bW h
      refine ⟨_,h,fun a H aw => ?_⟩
      have ba := aw.get (by simp [b4.cP]) ao
      have gJ := aw.get (by simp [b4.cP]) aM
      generalize hA : a.eval x = jK at ba
      generalize iy : a.eval y = hh at gJ
      cases ba; cases gJ
      refine ⟨r,fun w => ?_,.v ?_⟩
      ·have := Rv (t := t) x y ax w
       simp only [execOp,ay,hA,iy,Sem.run_bind] at this ⊢
       rw [this]; rfl
      ·cases op <;> simp [na] at ax <;> (first | (obtain ⟨bb,rfl⟩ := ax) | subst ax) <;> rfl
     | _ => exact h.elim
    | _ => exact h.elim
   | _ => exact h.elim
  | _ => exact h.elim
 | @not t x =>
  obtain ⟨s,ao,h⟩ := bW h
  cases s with
  | v p => cases p with
   | bool b =>
    refine ⟨_,h,fun a H aw => ?_⟩
    have ba := aw.get (by simp [b4.cP]) ao
    generalize hA : a.eval x = jK at ba
    cases ba
    exact ⟨.bool !b,fun w => by simp [execOp,ay,hA,Op.unary],.v rfl⟩
   | _ => exact h.elim
  | _ => exact h.elim
 | @lE src dst x d k adO aX =>
  obtain ⟨s,ao,h⟩ := bW h
  cases s with
  | v p => cases p with
   | int fk n =>
    refine ⟨_,h,fun a H aw => ?_⟩
    have ba := aw.get (by simp [b4.cP]) ao
    generalize hA : a.eval x = jK at ba
    cases ba
    exact ⟨.int k (k.wrap n),fun w => by simp [execOp,ay,hA,convert,run_underlying adO,run_underlying aX,Conv.intToInt],.v rfl⟩
   | _ => exact h.elim
  | _ => exact h.elim
 | @pick c x y =>
  obtain ⟨s,ao,h⟩ := bW h
  cases s with
  | v p => cases p with
   | bool ev =>
    obtain ⟨r,ax,h⟩ := bW h
    obtain ⟨eJ,fu⟩ := Q9 ax
    refine ⟨_,h,fun a H aw => ?_⟩
    have ba := aw.get (by simp [b4.cP]) ao
    generalize aS : a.eval c = q at ba
    cases ba
    cases ev
    ·exact ⟨a.eval y,fun w => by simp [execOp,ay,aS,asBool],aw.get (by simp [b4.cP]) (fu rfl)⟩
    ·exact ⟨a.eval x,fun w => by simp [execOp,ay,aS,asBool],aw.get (by simp [b4.cP]) (eJ rfl)⟩
   | _ => exact h.elim
  | _ => exact h.elim
 | @dE t parts dz ps it z pl IH bO hB aJ hp =>
  obtain ⟨cs,aW,h⟩ := bW h
  refine ⟨_,h,fun a H aw => ?_⟩
  obtain ⟨out,g1,bQ,gy⟩ := HC (H := H) (E := E) (a := a) parts.toList ps _ cs z.cells hp (by rw [hB]; exact yd H E dz) (zE dz) aW aw
  refine ⟨.agg out,fun w => ?_,by have := ca.agg bQ gy; simpa using this⟩
  have := run_build (P := Tryz.prog) w t (parts.map fun (i,x) => (i,a.eval x)) out (by rw [aJ]; simpa using g1)
  simp only [execOp,ay,Sem.run_bind,this,Result.andThen_ok]; rfl
 | _ => cases mG

theorem aaE {d : Option Nat} {eY : b4} {S : ak} {K : ak → Prop} (mG : eY.yB = true) (h : fx d eY S K) : cj eY S fun s => K (S.bX d s) := by
 cases eY <;> first | exact h | cases mG

def k6 (ops : Array Oper) (done : List Nat) (i : Nat) : Bool := decide (i < ops.size) && !done.contains i && (match ops[i]? with | some o => (wl o).all done.contains | none => false)
def GV (ops : Array Oper) (done : List Nat) (i : Nat) : Bool := match ops[i]? with
 | some ki => (List.range ops.size).all fun j => decide (j = i) || done.contains j || (match ops[j]? with | some hD => (wl hD).contains i || ki.apart ops hD | none => true)
 | none => false
def HF (cf : List cl) (i : Nat) : Bool := match cf[i]? with | some g => g.op.yB | none => false
def sU : m3 → List Nat
 | .leaf => []
 | .b1 i _ => [i]
 | .step i _ => [i]
 | .alt a b => sU a ++ sU b
mutual
def oU (ops : Array Oper) (cf : List cl) (done : List Nat) : m3 → Bool
 | .leaf => (List.range ops.size).all done.contains
 | .b1 i t => k6 ops done i && HF cf i && GV ops done i && oU ops cf (i :: done) t
 | .step i t => k6 ops done i && (List.range ops.size).all (fun j => !k6 ops done j || decide (j = i)) && oU ops cf (i :: done) t
 | .alt a b => (List.range ops.size).all (fun j => !k6 ops done j || (sU a ++ sU b).contains j) && (sU a ++ sU b).any (k6 ops done) && uz ops cf done a && uz ops cf done b
def uz (ops : Array Oper) (cf : List cl) (done : List Nat) : m3 → Bool
 | .leaf => false
 | .b1 _ _ => false
 | .step i t => oU ops cf (i :: done) t
 | .alt a b => uz ops cf done a && uz ops cf done b
end
def BP (ops : Array Oper) (cf : List cl) : Nat → List Nat → m3
 | 0,_ => .leaf
 | f + 1,done => match (List.range ops.size).find? (fun i => k6 ops done i && HF cf i && GV ops done i) with
  | some i => .b1 i (BP ops cf f (i :: done))
  | none => match (List.range ops.size).filter (k6 ops done) with
   | [] => .leaf
   | i :: is => is.foldl (fun t j => .alt t (.step j (BP ops cf f (j :: done)))) (.step i (BP ops cf f (i :: done)))

section
variable {N : Nat} {w0 w w' : World} {H0 H H' : bg} {S : ak} {E : Env} {a : Act} {o : Oper} {K : ak → Prop} {ops : Array Oper} {Q : Exit → Act → World → Prop} {cf : List cl}

theorem branch {i : Nat} {done : List Nat} {L : ak → Prop} : ∀ {t : m3},(sU t).contains i = true → uz ops cf done t = true → ns t cf S L → ∃ s,oU ops cf (i :: done) s = true ∧ cL cf[i]? fun g => jT g S fun S' => ns s cf S' L
 | .leaf,h,_,_ => by simp [sU] at h
 | .b1 _ _,_,h,_ => by simp [uz] at h
 | .step j s,h,az,he => by
  simp only [sU,List.contains_cons,List.contains_nil,Bool.or_false,beq_iff_eq] at h
  subst h
  simp only [uz] at az
  exact ⟨s,az,he⟩
 | .alt x y,h,az,he => by
  simp only [uz,Bool.and_eq_true] at az
  simp only [sU] at h
  rw [List.contains_eq_mem,decide_eq_true_eq,List.mem_append] at h
  rcases h with h | h
  ·exact branch (by rw [List.contains_eq_mem,decide_eq_true_eq]; exact h) az.1 he.1
  ·exact branch (by rw [List.contains_eq_mem,decide_eq_true_eq]; exact h) az.2 he.2

theorem NJ {g : cl} {i : Nat} {o4 : Act → World → Prop} {L : ak → Prop} (fg : ops[i]? = some o) (aH : zQ N ops o g) (h : jT g S L) (aN : bu N w0 H0 S E a w H) (fU : ∀ S' E' dD w' H',L S' → bu N w0 H0 S' E' dD w' H' → o4 dD w') : wpOp Tryz.prog ops Q i o4 a w := by
 have run : fx o.dst g.op S L → o.wp Tryz.prog a w o4 Q := fun aB => by
  refine Oper.CH ?_ (NO aN aH.lt rfl aH.op aB)
  rintro dD w' ⟨S',E',H',iR,dL⟩
  exact fU S' E' dD w' H' iR dL
 unfold wpOp
 rw [fg]
 simp only
 unfold jT at h
 have j8 := aH.tL
 split at h
 ·rename_i a7
  rw [a7] at j8
  rw [if_pos (zy j8)]
  rw [aH.d] at h
  exact .inl (run h)
 ·rename_i t b a7
  rw [a7] at j8
  obtain ⟨j,hD,g1,bQ,gy⟩ := j8
  obtain ⟨s,ao,h⟩ := bW h
  have ba := aN.bf ao
  cases s with
  | v q =>
   cases q with
   | bool ev =>
    have bj : lG ops a j = .bool ev := (Ai bQ gy).trans (Dy ba)
    rw [CE g1 bj]
    rw [aH.d] at h
    by_cases aJ : ev = b
    ·rw [if_pos (by simp [aJ])]
     exact .inl (run (h.1 aJ))
    ·rw [if_neg (by simp [aJ])]
     have jC : ev = !b := by cases ev <;> cases b <;> simp_all
     exact fU _ _ _ _ _ (h.2 jC) (aN.put (v := undef) (.bR .nil) aH.lt)
   | _ => exact h.elim
  | bR cs =>
   cases cs with
   | nil =>
    have bj : a.eval (.tmp t) = undef := by
     generalize a.eval (.tmp t) = q at ba
     cases ba with
     | bR h => cases h; rfl
    rw [Mb g1 bQ gy bj,if_neg (by simp)]
    rw [aH.d] at h
    exact fU _ _ _ _ _ h (aN.put (v := undef) (.bR .nil) aH.lt)
   | cons _ _ => exact h.elim
  | _ => exact h.elim
theorem aaD {g : cl} {L : ak → Prop} (aH : zQ N ops o g) (mG : g.op.yB = true) (h : jT g S L) (aN : bu N w0 H0 S E a w H) : ∃ v,Yields Tryz.prog ops o v a ∧ ∃ S' E' ,L S' ∧ bu N w0 H0 S' E' (a.put o.dst v) w H := by
 have run : fx o.dst g.op S L → ∃ v,(∀ w',(execOp a.eval o).run Tryz.prog w' = .ok (.value v) w') ∧ ∃ S' E',L S' ∧ bu N w0 H0 S' E' (a.put o.dst v) w H := fun aB => by
  obtain ⟨s,iR,bj⟩ := aaT (E := E) rfl aH.op mG (aaE mG aB)
  obtain ⟨v,r0,uj⟩ := bj a H (aN.cP _)
  exact ⟨v,r0,_,E,iR,aN.put uj aH.lt⟩
 unfold jT at h
 have j8 := aH.tL
 split at h
 ·rename_i a7
  rw [a7] at j8
  rw [aH.d] at h
  obtain ⟨v,bj,ax⟩ := run h
  exact ⟨v,.inl ⟨zy j8,bj⟩,ax⟩
 ·rename_i t b a7
  rw [a7] at j8
  obtain ⟨j,hD,g1,bQ,gy⟩ := j8
  obtain ⟨s,ao,h⟩ := bW h
  have ba := aN.bf ao
  cases s with
  | v q =>
   cases q with
   | bool ev =>
    have bj : lG ops a j = .bool ev := (Ai bQ gy).trans (Dy ba)
    have hw := CE (b := b) g1 bj
    rw [aH.d] at h
    by_cases aJ : ev = b
    ·obtain ⟨v,bj,ax⟩ := run (h.1 aJ)
     exact ⟨v,.inl ⟨by rw [hw]; simp [aJ],bj⟩,ax⟩
    ·have jC : ev = !b := by cases ev <;> cases b <;> simp_all
     exact ⟨undef,.inr ⟨by rw [hw]; simp [aJ],rfl⟩,_,E,h.2 jC,aN.put (v := undef) (.bR .nil) aH.lt⟩
   | _ => exact h.elim
  | bR cs =>
   cases cs with
   | nil =>
    have bj : a.eval (.tmp t) = undef := by
     generalize a.eval (.tmp t) = q at ba
     cases ba with
     | bR h => cases h; rfl
    rw [aH.d] at h
    exact ⟨undef,.inr ⟨Mb g1 bQ gy bj,rfl⟩,_,E,h,aN.put (v := undef) (.bR .nil) aH.lt⟩
   | cons _ _ => exact h.elim
  | _ => exact h.elim

theorem j1.at : ∀ {l : List Oper} {cf : List cl} {i : Nat} {o : Oper} {g : cl},j1 N ops l cf → l[i]? = some o → cf[i]? = some g → zQ N ops o g
 | _,_,i,_,_,.nil,h,_ => by simp at h
 | _,_,0,_,_,.cons aH _,h,dh => by simp at h dh; subst h; subst dh; exact aH
 | _,_,i + 1,_,_,.cons _ aO,h,dh => j1.at aO (by simpa using h) (by simpa using dh)

theorem aaF (PF : Region.noSelect ops = true) (jB : ∀ c a (d : Option Tmp) v w,Q (.panic c) (Act.put a d v) w → Q (.panic c) a w) (tW : j1 N ops ops.toList cf) :
  ∀ (fuel : Nat) (t : m3) (done : List Nat) (listed : Array Bool) (S : ak) (E : Env) (a : Act) (w : World) (H : bg),lY listed = fuel → listed.size = ops.size → (∀ i,i < ops.size → listed.getD i false = done.contains i) → (∀ i,done.contains i = true → i < ops.size) → oU ops cf done t = true →
   ns t cf S K → bu N w0 H0 S E a w H → (∀ a w,End N w0 H0 K a w → Q .normal a w) → wpAny Tryz.prog .any ops Q fuel listed a w := by
 intro fuel
 induction fuel with
 | zero =>
  intro t done listed S E a w H aF g4 aX vp az he aN aB
  have dM : ∀ i,i < ops.size → done.contains i = true := fun i aq => (aX i aq).symm.trans (BK aF i (by omega))
  have kD : ∀ i,k6 ops done i = false := fun i => by
   unfold k6
   by_cases aq : i < ops.size
   ·rw [dM i aq]; simp
   ·simp [aq]
  cases t with
  | leaf =>
   refine ⟨?_,aB _ _ ⟨S,E,H,he,aN⟩⟩
   refine List.eq_nil_iff_forall_not_mem.2 fun i aq => ?_
   obtain ⟨af,ki,fg,_⟩ := mem_ready.1 aq
   have bN : i < ops.size := (Array.getElem?_eq_some_iff.1 fg).1
   have aj := BK aF i (by omega)
   have : i < listed.size := by omega
   simp [this] at af aj
   rw [af] at aj; cases aj
  | b1 i t => simp [oU,kD] at az
  | step i t => simp [oU,kD] at az
  | alt x y => simp [oU,kD] at az
 | succ fuel dO =>
  intro t done listed S E a w H aF g4 aX vp az he aN aB
  have vw : ∀ i,i ∈ Region.ready .any ops listed ↔ k6 ops done i = true := fun i => by
   rw [mem_ready]
   unfold k6
   cases fg : ops[i]? with
   | none => simp
   | some o =>
    have bN : i < ops.size := (Array.getElem?_eq_some_iff.1 fg).1
    have mK : i < listed.size := by omega
    have af : listed.getD i true = listed.getD i false := by simp [mK]
    rw [af,aX i bN]
    simp only [Option.some.injEq,exists_eq_left',Bool.and_eq_true,decide_eq_true_eq,bN,true_and,Bool.not_eq_true',List.all_eq_true]
    refine and_congr_right fun _ => ⟨fun h j aM => ?_,fun h e he aJ => ?_⟩
    ·obtain ⟨e,he,aJ,rfl⟩ := sw (CG aM)
     have := h e he aJ
     by_cases oK : e.on < ops.size
     ·rw [← aX _ oK]; exact this
     ·have : ¬ e.on < listed.size := by omega
      simp_all
    ·have hm : e.on ∈ wl o := by
      unfold wl
      exact List.mem_filterMap.2 ⟨e,by simpa using he,by rw [if_pos aJ]⟩
     have aj := h _ hm
     by_cases oK : e.on < ops.size
     ·rw [aX _ oK]; exact aj
     ·exact absurd (vp _ aj) oK
  have vz : ∀ i,k6 ops done i = true → i < ops.size ∧ done.contains i = false ∧ lY (listed.setIfInBounds i true) = fuel ∧ (listed.setIfInBounds i true).size = ops.size ∧ (∀ j,j < ops.size → (listed.setIfInBounds i true).getD j false = (i :: done).contains j) ∧ ∀ j,(i :: done).contains j = true → j < ops.size := fun i aq => by
   have jD := aq
   unfold k6 at jD
   simp only [Bool.and_eq_true,decide_eq_true_eq,Bool.not_eq_true'] at jD
   obtain ⟨⟨af,aj⟩,_⟩ := jD
   have aW : listed.getD i false = false := (aX i af).trans aj
   have := EX (listed := listed) (by omega) aW
   refine ⟨af,aj,by omega,by simpa using g4,fun j aM => ?_,fun j aM => ?_⟩
   rotate_left
   ·simp only [List.contains_cons,Bool.or_eq_true,beq_iff_eq] at aM
    rcases aM with rfl | aM
    ·exact af
    ·exact vp j aM
   by_cases e : i = j
   ·subst e
    simp [show i < listed.size from by omega]
   ·rw [getD_set_ne false e,aX j aM,List.contains_cons]
    simp [show ¬ j = i from fun e1 => e e1.symm]
  have eA : ∀ i,i < ops.size → ∃ o,ops[i]? = some o := fun i aq => ⟨ops[i],by simp [aq]⟩
  have single : ∀ i s,k6 ops done i = true → oU ops cf (i :: done) s = true → (cL cf[i]? fun g => jT g S fun S' => ns s cf S' K) → wpOp Tryz.prog ops Q i (wpAny Tryz.prog .any ops Q fuel (listed.setIfInBounds i true)) a w := fun i s aq lN jW => by
   obtain ⟨af,aj,aw,aV,bF,bH⟩ := vz i aq
   obtain ⟨ki,fg⟩ := eA i af
   obtain ⟨g,aH,jW⟩ := bW jW
   exact NJ fg (tW.at (by simpa using fg) aH) jW aN fun S' E' dD w' H' ej dL => dO s (i :: done) _ S' E' dD w' H' aw aV bF bH lN ej dL aB
  cases t with
  | leaf =>
   exfalso
   simp only [oU,List.all_eq_true,List.mem_range] at az
   have : lY listed = 0 := by
    unfold lY
    rw [List.countP_eq_zero]
    intro b aJ
    obtain ⟨i,aq,rfl⟩ := List.mem_iff_getElem.1 aJ
    have iI : i < listed.size := by simpa using aq
    have af := aX i (by omega)
    rw [az i (by omega)] at af
    simp [iI] at af ⊢
    exact af
   omega
  | b1 i t =>
   simp only [oU,Bool.and_eq_true] at az
   obtain ⟨⟨⟨cw,c2⟩,eE⟩,hb⟩ := az
   obtain ⟨af,aj,aw,aV,bF,cA⟩ := vz i cw
   obtain ⟨ki,fg⟩ := eA i af
   obtain ⟨g,aH,jW⟩ := bW he
   have mG : g.op.yB = true := by unfold HF at c2; rw [aH] at c2; exact c2
   obtain ⟨v,a1,S',E',ej,dL⟩ := aaD (tW.at (by simpa using fg) aH) mG jW aN
   refine wpAny_first fg (Region.noSelect_spec PF) (fun c a w h => jB c a _ _ w h) fuel listed a w ?_ ((vw i).2 cw) a1 (dO t (i :: done) _ S' E' _ w H aw aV bF cA hb ej dL aB)
   intro j hD pj dd yU qg
   unfold GV at eE
   rw [fg] at eE
   simp only [List.all_eq_true,List.mem_range,Bool.or_eq_true,decide_eq_true_eq] at eE
   have bN : j < ops.size := (Array.getElem?_eq_some_iff.1 pj).1
   have mK : j < listed.size := by omega
   have pR := eE j bN
   rw [pj] at pR
   simp only [Bool.or_eq_true] at pR
   rcases pR with (pR | pR) | (pR | pR)
   ·exact absurd pR dd
   ·have bH := aX j bN
    rw [pR] at bH
    simp [mK] at yU bH
    rw [yU] at bH; cases bH
   ·obtain ⟨e,tT,aJ,pg⟩ := sw (CG (by simpa using pR))
    exact absurd pg (qg e tT aJ)
   ·exact pR
  | step i t =>
   simp only [oU,Bool.and_eq_true,List.all_eq_true,List.mem_range,Bool.or_eq_true,Bool.not_eq_true',decide_eq_true_eq] at az
   obtain ⟨⟨cw,c2⟩,eE⟩ := az
   refine ⟨fun bb => ?_,fun j aM => ?_⟩
   ·have := (vw i).2 cw; rw [bb] at this; cases this
   ·have ax := (vw j).1 aM
    have m9 : j = i := (c2 j (vz j ax).1).resolve_left (by rw [ax]; simp)
    subst m9
    exact single j t ax eE he
  | alt x y =>
   simp only [oU,Bool.and_eq_true,List.all_eq_true,List.mem_range,Bool.or_eq_true,Bool.not_eq_true',List.any_eq_true] at az
   obtain ⟨⟨⟨cw,c2⟩,eE⟩,hb⟩ := az
   refine ⟨fun bb => ?_,fun j aM => ?_⟩
   ·obtain ⟨i,_,aq⟩ := c2
    have := (vw i).2 aq; rw [bb] at this; cases this
   ·have ax := (vw j).1 aM
    have dq := (cw j (vz j ax).1).resolve_left (by rw [ax]; simp)
    obtain ⟨s,lN,jW⟩ := branch (t := .alt x y) dq (by simp only [uz,Bool.and_eq_true]; exact ⟨eE,hb⟩) he
    exact single j s ax lN jW
def zA (ops : Array Oper) : Bool := (List.range ops.size).all fun i => match ops[i]? with | some o => (wl o).all fun j => decide (j < i) | none => true
theorem P8 {ops : Array Oper} {done : List Nat} (h : zA ops = true) : ∀ (n i : Nat),i < n → i < ops.size → done.contains i = false → ∃ j,k6 ops done j = true
 | 0,i,bb,_,_ => by omega
 | n + 1,i,a7,aq,aX => by
  by_cases ax : k6 ops done i = true
  ·exact ⟨i,ax⟩
  ·obtain ⟨o,ay⟩ : ∃ o,ops[i]? = some o := ⟨ops[i],by simp [aq]⟩
   have Bf := List.all_eq_true.1 h i (List.mem_range.2 aq)
   rw [ay] at Bf
   simp only [List.all_eq_true,decide_eq_true_eq] at Bf
   unfold k6 at ax
   rw [ay,aX] at ax
   simp only [aq,decide_true,Bool.true_and,Bool.not_false,List.all_eq_true,Classical.not_forall] at ax
   obtain ⟨j,aM,kB⟩ := ax
   have bN := Bf j aM
   exact P8 h n j (by omega) (by omega) (by simpa using kB)
theorem ahi {ops : Array Oper} {done : List Nat} {i : Nat} (h : k6 ops done i = true) : q8 (ops.toList.map wl) done i = true := by
 unfold k6 at h
 unfold q8
 simp only [Bool.and_eq_true,decide_eq_true_eq] at h
 obtain ⟨⟨af,aj⟩,aw⟩ := h
 rw [List.getElem?_map,Array.getElem?_toList]
 cases ay : ops[i]? with
 | none => rw [ay] at aw; cases aw
 | some o => rw [ay] at aw; rw [aj]; exact aw
theorem aaB (PF : Region.noSelect ops = true) (Bf : zA ops = true) (tW : j1 N ops ops.toList cf) {I : List Nat → ak → Prop}
  (aY : ∀ done S' i,I done S' → q8 (ops.toList.map wl) done i = true → cL cf[i]? fun g => jT g S' fun gh => I (i :: done) gh)
  (aB : ∀ done S E a w H,I done S → (∀ i,i < ops.size → done.contains i = true) → bu N w0 H0 S E a w H → Q .normal a w) :
  ∀ (fuel : Nat) (done : List Nat) (listed : Array Bool) (S : ak) (E : Env) (a : Act) (w : World) (H : bg),lY listed = fuel → listed.size = ops.size → (∀ i,i < ops.size → listed.getD i false = done.contains i) → (∀ i,done.contains i = true → i < ops.size) →
   I done S → bu N w0 H0 S E a w H → wpAny Tryz.prog .any ops Q fuel listed a w := by
 intro fuel
 induction fuel with
 | zero =>
  intro done listed S E a w H aF g4 aX vp he aN
  have dM : ∀ i,i < ops.size → done.contains i = true := fun i aq => (aX i aq).symm.trans (BK aF i (by omega))
  refine ⟨?_,aB done S E a w H he dM aN⟩
  refine List.eq_nil_iff_forall_not_mem.2 fun i aq => ?_
  obtain ⟨af,ki,fg,_⟩ := mem_ready.1 aq
  have bN : i < ops.size := (Array.getElem?_eq_some_iff.1 fg).1
  have aj := BK aF i (by omega)
  have : i < listed.size := by omega
  simp [this] at af aj
  rw [af] at aj; cases aj
 | succ fuel dO =>
  intro done listed S E a w H aF g4 aX vp he aN
  have vw : ∀ i,i ∈ Region.ready .any ops listed ↔ k6 ops done i = true := fun i => by
   rw [mem_ready]
   unfold k6
   cases fg : ops[i]? with
   | none => simp
   | some o =>
    have bN : i < ops.size := (Array.getElem?_eq_some_iff.1 fg).1
    have mK : i < listed.size := by omega
    have af : listed.getD i true = listed.getD i false := by simp [mK]
    rw [af,aX i bN]
    simp only [Option.some.injEq,exists_eq_left',Bool.and_eq_true,decide_eq_true_eq,bN,true_and,Bool.not_eq_true',List.all_eq_true]
    refine and_congr_right fun _ => ⟨fun h j aM => ?_,fun h e he aJ => ?_⟩
    ·obtain ⟨e,he,aJ,rfl⟩ := sw (CG aM)
     have := h e he aJ
     by_cases oK : e.on < ops.size
     ·rw [← aX _ oK]; exact this
     ·have : ¬ e.on < listed.size := by omega
      simp_all
    ·have hm : e.on ∈ wl o := by
      unfold wl
      exact List.mem_filterMap.2 ⟨e,by simpa using he,by rw [if_pos aJ]⟩
     have aj := h _ hm
     by_cases oK : e.on < ops.size
     ·rw [aX _ oK]; exact aj
     ·exact absurd (vp _ aj) oK
  have vz : ∀ i,k6 ops done i = true → i < ops.size ∧ done.contains i = false ∧ lY (listed.setIfInBounds i true) = fuel ∧ (listed.setIfInBounds i true).size = ops.size ∧ (∀ j,j < ops.size → (listed.setIfInBounds i true).getD j false = (i :: done).contains j) ∧ ∀ j,(i :: done).contains j = true → j < ops.size := fun i aq => by
   have jD := aq
   unfold k6 at jD
   simp only [Bool.and_eq_true,decide_eq_true_eq,Bool.not_eq_true'] at jD
   obtain ⟨⟨af,aj⟩,_⟩ := jD
   have aW : listed.getD i false = false := (aX i af).trans aj
   have := EX (listed := listed) (by omega) aW
   refine ⟨af,aj,by omega,by simpa using g4,fun j aM => ?_,fun j aM => ?_⟩
   rotate_left
   ·simp only [List.contains_cons,Bool.or_eq_true,beq_iff_eq] at aM
    rcases aM with rfl | aM
    ·exact af
    ·exact vp j aM
   by_cases e : i = j
   ·subst e
    simp [show i < listed.size from by omega]
   ·rw [getD_set_ne false e,aX j aM,List.contains_cons]
    simp [show ¬ j = i from fun e1 => e e1.symm]
  have eA : ∀ i,i < ops.size → ∃ o,ops[i]? = some o := fun i aq => ⟨ops[i],by simp [aq]⟩
  refine ⟨fun bb => ?_,fun j aM => ?_⟩
  ·have hex : ∃ i,i < ops.size ∧ done.contains i = false := by
    refine Classical.byContradiction fun kD => ?_
    have dM : ∀ i,i < ops.size → listed.getD i false = true := fun i aq => by
     rw [aX i aq]
     cases az : done.contains i
     ·exact absurd ⟨i,aq,az⟩ kD
     ·rfl
    have : lY listed = 0 := by
     unfold lY
     rw [List.countP_eq_zero]
     intro b aJ
     obtain ⟨i,aq,rfl⟩ := List.mem_iff_getElem.1 aJ
     have iI : i < listed.size := by simpa using aq
     have af := dM i (by omega)
     simp [iI] at af ⊢
     exact af
    omega
   obtain ⟨i,aq,az⟩ := hex
   obtain ⟨j,aM⟩ := P8 Bf (i + 1) i (by omega) aq az
   have := (vw j).2 aM; rw [bb] at this; cases this
  ·have ax := (vw j).1 aM
   obtain ⟨af,aj,aw,aV,bF,bH⟩ := vz j ax
   obtain ⟨ki,fg⟩ := eA j af
   obtain ⟨g,aH,jW⟩ := bW (aY done S j he (ahi ax))
   exact NJ fg (tW.at (by simpa using fg) aH) jW aN fun S' E' dD w' H' ej dL => dO (j :: done) _ S' E' dD w' H' aw aV bF bH ej dL
end
end Go.Proofs.YtkmbcjnaaokilaaGreatDoor
