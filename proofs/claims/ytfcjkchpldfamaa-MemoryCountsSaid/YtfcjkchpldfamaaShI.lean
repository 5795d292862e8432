/-
  The shadow machine: steps of a proof. What follows stands behind a variable.
-/
import Derived.Test.YtfcjkchpldfamaaShH
namespace Go.Proofs.Ytfcjkchpldfamaa
set_option linter.unusedSimpArgs false
set_option linter.unusedVariables false
open Go.RowKit Go.Maps

theorem oB_none {α : Type} (k : α → Prop) : oB none k = False := rfl
variable {S F : St} {K : Ex → St → Prop} {L : St → Prop}

theorem ev_seq_k {a b : SC} (h : ∀ K1 : Ex → St → Prop, (∀ ks S', ev b (S'.keep ks) K → K1 .next S') → (∀ S', K .ret S' → K1 .ret S') → (∀ i S', K (.exit i) S' → K1 (.exit i) S') → ev a S K1) : ev (.seq a b) S K :=
  h _ (fun ks _ h => ⟨ks, h⟩) (fun _ h => h) (fun _ _ h => h)
theorem ev_block_k {id : Nat} {a : SC} (h : ∀ K1 : Ex → St → Prop, (∀ S', K .next S' → K1 .next S') → (∀ S', K .next S' → K1 (.exit id) S') → (∀ S', K .ret S' → K1 .ret S') → (∀ i S', i ≠ id → K (.exit i) S' → K1 (.exit i) S') → ev a S K1) : ev (.block id a) S K :=
  h _ (fun _ h => h) (fun S' h => by simp only [if_true]; exact h) (fun _ h => h) (fun i S' hi h => by simp only [if_neg hi]; exact h)
theorem ev_cond_k {c : Operand} {a b : SC} {t : Bool} (hc : S.opd c = some (.v (.bool t))) (h1 : t = true → ev a S K) (h2 : t = false → ev b S K) : ev (.cond c a b) S K := by
  show oB (S.opd c) _
  rw [hc]
  exact ⟨h1, h2⟩
theorem ev_loop_k {a : SC} (I : Nat → St → Prop) (m : Nat) (kp : Option (List Nat × Option (List Nat × Nat))) (cs : List Cst) (h0 : I m ((S.casts cs).keep kp)) (h : ∀ k S1, I k S1 → ∀ K1 : Ex → St → Prop, (∀ k' kp S', k' < k → I k' (S'.keep kp) → K1 .next S') → (∀ S', K .ret S' → K1 .ret S') → (∀ i S', K (.exit i) S' → K1 (.exit i) S') → ev a S1 K1) : ev (.loop a) S K :=
  ⟨I, m, kp, cs, h0, fun k S1 hk => h k S1 hk _ (fun k' kp S' h1 h2 => ⟨k', kp, h1, h2⟩) (fun _ h => h) (fun _ _ h => h)⟩
theorem evL_append : ∀ {a b : List GOp} {S : St} {L : St → Prop}, evL (a ++ b) S L ↔ evL a S fun S' => evL b S' L
  | [], _, _, _ => Iff.rfl
  | o :: a, b, S, L => by
    have e : (fun S' => evL (a ++ b) S' L) = fun S' => evL a S' fun S'' => evL b S'' L := funext fun S' => propext (evL_append (a := a) (b := b))
    simp only [List.cons_append, evL]
    rw [e]
theorem evL_take (n : Nat) {l : List GOp} (h : ∀ K1 : St → Prop, (∀ S', evL (l.drop n) S' L → K1 S') → evL (l.take n) S K1) : evL l S L := by
  rw [← List.take_append_drop n l, evL_append]
  exact h _ (fun _ h => h)
theorem evCallC_mk (cs : List Cst) {f : FuncId} {xs : List Operand} {d : Option Nat} (h : evCall f xs ((S.casts cs).frzOpds xs) d L) : evCallC f xs S d L := ⟨cs, h⟩
theorem ev_ops_k {l : List GOp} (h : ∀ K1 : St → Prop, (∀ S', K .next S' → K1 S') → evL l S K1) : ev (.ops l) S K := ⟨[], h _ (fun _ h => h)⟩
theorem ev_ops_c (cs : List Cst) {l : List GOp} (h : ∀ K1 : St → Prop, (∀ S', K .next S' → K1 S') → evL l (S.casts cs) K1) : ev (.ops l) S K := ⟨cs, h _ (fun _ h => h)⟩
theorem ev_ord_k (cs : List Cst) (S1 : St) {t : OTr} {l : List GOp} (h1 : ∀ L : St → Prop, (∀ S' kp, (S'.keep kp).sorted = S1 → L S') → evTr t l (S.casts cs) L) (h2 : K .next S1) : ev (.ord t l) S K :=
  ⟨cs, S1, h1 _ (fun S' kp h => ⟨kp, h⟩), h2⟩
theorem evTr_flo {i : Nat} {t : OTr} {l : List GOp} {o : GOp} (ho : l[i]? = some o) (h : ∀ L1 : St → Prop, (∀ S', evTr t l S' L → L1 S') → evG o S L1) : evTr (.flo i t) l S L := by
  show oB l[i]? _
  rw [ho]; exact h _ (fun _ h => h)
theorem evTr_step {i : Nat} {t : OTr} {l : List GOp} {o : GOp} (ho : l[i]? = some o) (h : ∀ L1 : St → Prop, (∀ S', evTr t l S' L → L1 S') → evG o S L1) : evTr (.step i t) l S L := by
  show oB l[i]? _
  rw [ho]; exact h _ (fun _ h => h)
theorem ev_drw_k (gs : List Sh) {n : Nat} {l : List GOp} (h : ∀ K1 : St → Prop, (∀ S', evL (l.drop n) S' (K .next) → K1 S') → evF (l.take n) (S.frzAll gs) (S.frzAll gs) [] K1) : ev (.drw n l) S K := ⟨gs, [], h _ (fun _ h => h)⟩
theorem ev_drw_c (cs : List Cst) (gs : List Sh) {n : Nat} {l : List GOp} (h : ∀ K1 : St → Prop, (∀ S', evL (l.drop n) S' (K .next) → K1 S') → evF (l.take n) ((S.casts cs).frzAll gs) ((S.casts cs).frzAll gs) [] K1) : ev (.drw n l) S K := ⟨gs, cs, h _ (fun _ h => h)⟩
/-- The front with both states handed on. -/
def evG2 : List GOp → St → St → List TypeId → (St → St → List TypeId → Prop) → Prop
  | [], S, F, ts, K => K S F ts
  | o :: l, S, F, ts, K => evF1 o S F ts fun S' F' ts' => evG2 l S' F' ts' K
where evF1 (o : GOp) (S F : St) (ts : List TypeId) (K : St → St → List TypeId → Prop) : Prop :=
    match o.g with
    | none => (match newV S o.op with
      | some p => oB p fun p => ts.contains p.1 = false ∧ K (S.del? o.d) ((F.newO (.box p.1 p.2)).put? o.d (.ptr F.n 0 0)) (p.1 :: ts)
      | none => (match newR o.op with
        | some q => (evA o.op S fun s => K (S.put? o.d s) (F.put? o.d s) ts) ∨ rowF S q fun es => ts.contains q.2.2.1 = false ∧ K (S.del? o.d) ((F.newO (.row q.2.2.1 q.2.2.2.1 es)).put? o.d (.own F.n)) (q.2.2.1 :: ts)
        | none => evA o.op S fun s => K (S.put? o.d s) (F.put? o.d s) ts))
    | some (t, b) => oB (S.opd (.tmp t)) fun s => match s with
      | .v (.bool bb) => (bb = b → evA o.op S fun s => K (S.put? o.d s) (F.put? o.d s) ts) ∧ (bb = !b → K (S.del? o.d) (F.del? o.d) ts)
      | _ => False
theorem evF_eq (o : GOp) (l : List GOp) (S F : St) (ts : List TypeId) (K1 : St → Prop) : evF (o :: l) S F ts K1 = evG2.evF1 o S F ts fun S' F' ts' => evF l S' F' ts' K1 := by
  conv => lhs; unfold evF
  rfl
theorem evF_append : ∀ (a b : List GOp) (S F : St) (ts : List TypeId) (K1 : St → Prop), evF (a ++ b) S F ts K1 = evG2 a S F ts fun S' F' ts' => evF b S' F' ts' K1
  | [], _, _, _, _, _ => rfl
  | o :: a, b, S, F, ts, K1 => by
    have e : (fun S' F' ts' => evF (a ++ b) S' F' ts' K1) = fun S' F' ts' => evG2 a S' F' ts' fun S' F' ts' => evF b S' F' ts' K1 := by
      funext S' F' ts'; exact evF_append a b S' F' ts' K1
    rw [List.cons_append, evF_eq, e]; rfl
theorem evF_take (n : Nat) {l : List GOp} {ts : List TypeId} (h : ∀ K1 : St → St → List TypeId → Prop, (∀ S' F' ts', evF (l.drop n) S' F' ts' L → K1 S' F' ts') → evG2 (l.take n) S F ts K1) : evF l S F ts L := by
  rw [← List.take_append_drop n l, evF_append]
  exact (h _ (fun _ _ _ h => h))
end Go.Proofs.Ytfcjkchpldfamaa
