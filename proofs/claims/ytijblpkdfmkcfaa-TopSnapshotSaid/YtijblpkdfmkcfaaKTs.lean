/-
  TopSnapshot: what the switch needs.
-/
import Derived.Test.YtijblpkdfmkcfaaKTr
namespace Go.Proofs.Ytijblpkdfmkcfaa
set_option linter.unusedSimpArgs false
set_option linter.unusedVariables false
open Go.RowKit Go.Maps

theorem updW_eq (f : Int → Option (List Int)) (r : Int) (w : List Int) : (fun j => if j = r then some (shI5 w) else mWor f j) = mWor (updO f r (some w)) := by
  funext j; show _ = (updO f r (some w) j).map shI5; unfold updO; split <;> rfl
theorem delW_eq (f : Int → Option (List Int)) (r : Int) : (fun j => if j = r then none else mWor f j) = mWor (updO f r none) := by
  funext j; show _ = (updO f r none j).map shI5; unfold updO; split <;> rfl
theorem updI_eq (f : Int → Option Int) (r : Int) (w : Int) : (fun j => if j = r then some (sI w) else mSi f j) = mSi (updO f r (some w)) := by
  funext j; show _ = (updO f r (some w) j).map sI; unfold updO; split <;> rfl
theorem delI_eq (f : Int → Option Int) (r : Int) : (fun j => if j = r then none else mSi f j) = mSi (updO f r none) := by
  funext j; show _ = (updO f r none j).map sI; unfold updO; split <;> rfl
theorem updO_same {α : Type} {f : Int → Option α} {r : Int} (h : f r = none) : updO f r none = f := by
  funext j; unfold updO; split
  · rename_i e; rw [e, h]
  · rfl
theorem mWor_none {f : Int → Option (List Int)} {j : Int} : mWor f j ≠ none ↔ f j ≠ none := by cases h : f j <;> simp [h]
/-- How many worlds there are. -/
theorem TsI.full {n : Nat} {v : TsV} (h : TsI n v) {l : List Int} (hl : ∀ j, mWor v.wo j ≠ none ↔ j ∈ l) (hall : ∀ j, j < 8 → ∃ x, v.s.rd[j]? = some (true, x)) : 8 ≤ l.length := by
  have hsub : (idxL 8).map (· + 1) ⊆ l := fun y hy => by
    obtain ⟨z, hz, rfl⟩ := List.mem_map.1 hy
    have hz := idxL_mem.1 hz
    obtain ⟨j, rfl⟩ := Int.eq_ofNat_of_zero_le hz.1
    obtain ⟨x, hx⟩ := hall j (by omega)
    exact (hl _).1 (mWor_none.2 (h.rok j x hx))
  have hnd : ((idxL 8).map (· + 1)).Nodup := by
    refine List.Pairwise.map _ (fun a b hab => ?_) (idxL_nodup 8)
    intro e; exact hab (by omega)
  have := hnd.length_le_of_subset hsub
  rw [List.length_map, idxL_len] at this
  exact this
theorem TsI.free {n : Nat} {v : TsV} (h : TsI n v) {l : List Int} (hn : l.Nodup) (hl : ∀ j, mWor v.wo j ≠ none ↔ j ∈ l) {m : Nat} {x : Int} (hm : v.s.rd[m]? = some (false, x)) : l.length < 8 := by
  have hm8 := (List.getElem?_eq_some_iff.1 hm).1
  rw [h.ok.rd] at hm8
  have hsub : (((m + 1 : Nat) : Int) :: l) ⊆ (idxL 8).map (· + 1) := fun y hy => by
    rcases List.mem_cons.1 hy with rfl | hy
    · exact List.mem_map.2 ⟨(m : Int), idxL_mem.2 (by omega), by omega⟩
    · have h0 := mWor_none.1 ((hl y).2 hy)
      obtain ⟨w, hw⟩ := Option.ne_none_iff_exists'.1 h0
      obtain ⟨i, z, rfl, hi, _⟩ := h.wok y w hw
      exact List.mem_map.2 ⟨(i : Int), idxL_mem.2 (by omega), by omega⟩
  have hnd : (((m + 1 : Nat) : Int) :: l).Nodup := by
    refine List.nodup_cons.2 ⟨fun hy => ?_, hn⟩
    have h0 := mWor_none.1 ((hl _).2 hy)
    exact h0 (h.open hm).1
  have := hnd.length_le_of_subset hsub
  rw [List.length_map, idxL_len, List.length_cons] at this
  omega
theorem TsI.keyW {n : Nat} {v : TsV} (h : TsI n v) {r : Int} (hr : v.wo r ≠ none) : 0 ≤ r ∧ r < 9 := by
  obtain ⟨w, hw⟩ := Option.ne_none_iff_exists'.1 hr
  obtain ⟨i, z, rfl, hi, _⟩ := h.wok r w hw
  omega
theorem TsI.keyS {n : Nat} {v : TsV} (h : TsI n v) {r : Int} (hr : v.si r ≠ none) : 0 ≤ r ∧ r < 9 := h.keyW (fun e => hr ((h.sok r).2 e))
/-- The first free reader, if there is one. -/
theorem rd_cases : ∀ (l : List (Bool × Int)), (∀ j : Nat, j < l.length → ∃ x, l[j]? = some (true, x)) ∨ ∃ (m : Nat) (x : Int), l[m]? = some (false, x) ∧ ∀ j : Nat, j < m → ∃ x, l[j]? = some (true, x)
  | [] => .inl fun j hj => absurd hj (by simp)
  | (b, y) :: l => by
    cases b with
    | false => exact .inr ⟨0, y, rfl, fun j hj => absurd hj (by omega)⟩
    | true =>
      rcases rd_cases l with h | ⟨m, x, h1, h2⟩
      · refine .inl fun j hj => ?_
        cases j with
        | zero => exact ⟨y, rfl⟩
        | succ j => exact h j (by simpa using hj)
      · refine .inr ⟨m + 1, x, h1, fun j hj => ?_⟩
        cases j with
        | zero => exact ⟨y, rfl⟩
        | succ j => exact h2 j (by omega)
end Go.Proofs.Ytijblpkdfmkcfaa
