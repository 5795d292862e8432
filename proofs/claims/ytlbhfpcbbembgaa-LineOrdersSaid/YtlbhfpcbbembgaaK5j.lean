/-
  LineOrders: the plain law.
-/
import Derived.Test.YtlbhfpcbbembgaaK5h
namespace Go.Proofs.Ytlbhfpcbbembgaa
set_option linter.unusedSimpArgs false
set_option linter.unusedVariables false
open Go.RowKit Go.Maps

/-- The machine behind the first n bytes. -/
def ordM (xs : List Int) : Nat → LinesM
  | 0 => newM w8
  | n + 1 => match xs[n]? with
    | some x =>
      let L := storeM (ordM xs n) (x % 8) ⟨(n : Int) + 1, 0, 0⟩
      if 200 ≤ x then flushM L 1 3 else if 150 ≤ x then syncM L 1 else L
    | none => ordM xs n
def ordS (xs : List Int) : Nat → List StoreV
  | 0 => []
  | n + 1 => match xs[n]? with
    | some x => ordS xs n ++ [⟨x % 8, ⟨(n : Int) + 1, 0, 0⟩⟩]
    | none => ordS xs n
theorem flush_logs (L : LinesM) (t a : Int) : (flushM L t a).logs = L.logs ∧ (flushM L t a).first = L.first := by
  unfold flushM; split <;> exact ⟨rfl, rfl⟩
theorem sync_one (L : LinesM) (t : Int) (y : LogV) (h : L.logs = [y]) : ∃ z, (syncM L t).logs = [z] ∧ z.stores = y.stores := by
  refine ⟨syncLog (askOf L t) 0 y, by simp [syncM, h], ?_⟩
  unfold syncLog; split <;> rfl
theorem ord_good (xs : List Int) (hx : ∀ x ∈ xs, 0 ≤ x) : ∀ n, LGood (ordM xs n) n ∧ (ordM xs n).first = w8 ∧ ∃ y, (ordM xs n).logs = [y] ∧ y.stores = ordS xs n
  | 0 => ⟨good_new w8 (by decide), rfl, ⟨⟨[], 0⟩, rfl, rfl⟩⟩
  | n + 1 => by
    obtain ⟨h1, h2, y, h3, h4⟩ := ord_good xs hx n
    unfold ordM ordS
    cases e : xs[n]? with
    | none => exact ⟨⟨h1.lines, h1.asks, fun y hy => by have := h1.most y hy; omega⟩, h2, y, h3, h4⟩
    | some x =>
      have hx0 := hx x (List.mem_of_getElem? e)
      have g1 := good_store h1 (x % 8) ⟨(n : Int) + 1, 0, 0⟩ (by omega) (by rw [h2]; show x % 8 < 8; omega)
      have f1 : (storeM (ordM xs n) (x % 8) ⟨(n : Int) + 1, 0, 0⟩).first = w8 := h2
      obtain ⟨z, e1, e2⟩ : ∃ z, (storeM (ordM xs n) (x % 8) ⟨(n : Int) + 1, 0, 0⟩).logs = [z] ∧ z.stores = ordS xs n ++ [⟨x % 8, ⟨(n : Int) + 1, 0, 0⟩⟩] := by
        have e0 : (x % 8).toNat / 8 = 0 := by omega
        refine ⟨⟨y.stores ++ [⟨x % 8, ⟨(n : Int) + 1, 0, 0⟩⟩], y.kept⟩, ?_, by rw [h4]⟩
        show (ordM xs n).logs.modify ((x % 8).toNat / 8) _ = _
        rw [h3, e0]; rfl
      simp only
      split
      · obtain ⟨q1, q2⟩ := flush_logs (storeM (ordM xs n) (x % 8) ⟨(n : Int) + 1, 0, 0⟩) 1 3
        exact ⟨good_flush g1 1 3 (by decide), by rw [q2]; exact f1, z, by rw [q1]; exact e1, e2⟩
      · split
        · obtain ⟨z2, q1, q2⟩ := sync_one _ 1 z e1
          exact ⟨good_sync g1 1, f1, z2, q1, by rw [q2]; exact e2⟩
        · exact ⟨g1, f1, z, e1, e2⟩

theorem ordS_len (xs : List Int) : ∀ n, n ≤ xs.length → (ordS xs n).length = n
  | 0, _ => rfl
  | n + 1, h => by
    unfold ordS
    rw [List.getElem?_eq_getElem (by omega)]
    simp [ordS_len xs n (by omega)]
theorem ordS_take (xs : List Int) (T : Nat) : ∀ n, T ≤ n → n ≤ xs.length → (ordS xs n).take T = ordS xs T
  | 0, h, _ => by obtain rfl : T = 0 := by omega
                  rfl
  | n + 1, h, hn => by
    rcases Nat.lt_or_ge n T with h1 | h1
    · obtain rfl : T = n + 1 := by omega
      exact List.take_of_length_le (by rw [ordS_len xs _ hn]; exact Nat.le_refl _)
    · rw [← ordS_take xs T n h1 (by omega)]
      rw [ordS, List.getElem?_eq_getElem (by omega)]
      simp only
      rw [List.take_append_of_le_length (by rw [ordS_len xs n (by omega)]; exact h1)]
/-- The last of the first t bytes that stores at k, counted from 1. -/
def lastO (xs : List Int) (k : Int) : Nat → Int
  | 0 => 0
  | t + 1 => match xs[t]? with
    | some x => if x % 8 = k then (t : Int) + 1 else lastO xs k t
    | none => lastO xs k t
theorem lastO_le (xs : List Int) (k : Int) : ∀ t, 0 ≤ lastO xs k t ∧ lastO xs k t ≤ (t : Int)
  | 0 => ⟨Int.le_refl _, Int.le_refl _⟩
  | t + 1 => by
    have := lastO_le xs k t
    unfold lastO
    split
    · split <;> omega
    · omega
theorem ord_words (xs : List Int) (hx : ∀ x ∈ xs, 0 ≤ x) : ∀ T, ∃ ws : List WordV, (ordS xs T).foldl putS w8 = ws ∧ ws.length = 8 ∧ ∀ k : Nat, k < 8 → ∃ w, ws[k]? = some w ∧ w.val = lastO xs k T
  | 0 => ⟨_, rfl, by rfl, fun k hk => ⟨⟨0, 0, 0⟩, by show (List.replicate 8 _)[k]? = _; rw [List.getElem?_replicate, if_pos hk], rfl⟩⟩
  | T + 1 => by
    obtain ⟨ws, h1, h2, h3⟩ := ord_words xs hx T
    unfold ordS lastO
    cases e : xs[T]? with
    | none => exact ⟨ws, h1, h2, h3⟩
    | some x =>
      have hx0 := hx x (List.mem_of_getElem? e)
      simp only [List.foldl_append, List.foldl_cons, List.foldl_nil, h1]
      refine ⟨_, rfl, by simp [putS, h2], fun k hk => ?_⟩
      simp only [putS]
      by_cases e2 : (x % 8).toNat = k
      · refine ⟨⟨(T : Int) + 1, 0, 0⟩, ?_, ?_⟩
        · rw [List.getElem?_set, if_pos e2, if_pos (by omega)]
        · rw [if_pos (by omega)]
      · rw [List.getElem?_set, if_neg e2]
        obtain ⟨w, q1, q2⟩ := h3 k hk
        exact ⟨w, q1, by rw [if_neg (by omega)]; exact q2⟩
/-- The greatest of the first k. -/
def maxO (xs : List Int) (T : Nat) : Nat → Int
  | 0 => 0
  | k + 1 => max (maxO xs T k) (lastO xs k T)
theorem maxO_le (xs : List Int) (T : Nat) : ∀ k, 0 ≤ maxO xs T k ∧ maxO xs T k ≤ (T : Int)
  | 0 => ⟨Int.le_refl _, by simp [maxO]⟩
  | k + 1 => by
    have := maxO_le xs T k
    have := lastO_le xs k T
    unfold maxO; omega
theorem maxO_ge (xs : List Int) (T : Nat) (j : Nat) : ∀ k, j < k → lastO xs j T ≤ maxO xs T k
  | 0, h => by omega
  | k + 1, h => by
    unfold maxO
    rcases Nat.lt_or_ge j k with h1 | h1
    · have := maxO_ge xs T j k h1; omega
    · obtain rfl : j = k := by omega
      omega
theorem maxO_all (xs : List Int) (hx : ∀ x ∈ xs, 0 ≤ x) (T : Nat) (hT : T ≤ xs.length) : maxO xs T 8 = (T : Int) := by
  have h1 := maxO_le xs T 8
  cases T with
  | zero => omega
  | succ t =>
    obtain ⟨x, hxt⟩ : ∃ x, xs[t]? = some x := ⟨_, List.getElem?_eq_getElem (by omega)⟩
    have hx0 := hx x (List.mem_of_getElem? hxt)
    have h2 := maxO_ge xs (t + 1) (x % 8).toNat 8 (by omega)
    have h3 : lastO xs ((x % 8).toNat : Nat) (t + 1) = (t : Int) + 1 := by
      unfold lastO; rw [hxt]; simp only; rw [if_pos (by omega)]
    omega
/-- What a crash leaves. -/
theorem ord_left (xs : List Int) (hx : ∀ x ∈ xs, 0 ≤ x) (more : Int → Int → Int) (hm : ∀ n m : Int, 0 ≤ n → 0 ≤ m → 0 ≤ more n m ∧ more n m ≤ m) :
    ∃ T, T ≤ xs.length ∧ leftM (ordM xs xs.length) more = (ordS xs T).foldl putS w8 := by
  obtain ⟨h1, h2, y, h3, h4⟩ := ord_good xs hx xs.length
  have hl := ordS_len xs xs.length (Nat.le_refl _)
  have hk := h1.lines.kept y (by rw [h3]; exact List.mem_singleton.2 rfl)
  have hm0 := hm 0 (y.stores.length - y.kept) (by omega) (by omega)
  rw [h4, hl] at hk hm0
  refine ⟨(y.kept + more 0 (xs.length - y.kept)).toNat, by omega, ?_⟩
  unfold leftM
  rw [h3]
  show lefN (ordM xs xs.length) more 1 = _
  unfold lefN
  rw [h3]
  simp only [List.getElem?_cons_zero]
  rw [h4, hl]
  show (List.take (y.kept + more 0 (xs.length - y.kept)).toNat (ordS xs xs.length)).foldl putS (lefN (ordM xs xs.length) more 0) = _
  rw [ordS_take xs _ xs.length (by omega) (Nat.le_refl _)]
  unfold lefN
  rw [h2]
end Go.Proofs.Ytlbhfpcbbembgaa
