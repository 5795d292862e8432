/-
  Layer 6, plain laws: sizes, what is read and what is written.
-/
import Derived.Test.YtkoibcblmgmdmaaK6d
namespace Go.Proofs.Ytkoibcblmgmdmaa
set_option linter.unusedSimpArgs false
set_option linter.unusedVariables false
open Go.RowKit Go.Maps

theorem size_do {M : MachM} {n : Nat} (hM : MachOk M n) (t : Int) (a : ActM) (c : Int) : (doM M t a c).1.mem.views.length = M.mem.views.length ∧ (doM M t a c).1.mem.places.length = M.mem.places.length := by
  unfold doM
  split
  · rename_i h
    obtain ⟨_, _, h1, h2, _⟩ := machOk_act hM c h
    exact ⟨h1, h2⟩
  · exact ⟨rfl, rfl⟩
theorem size_crash {M : MachM} {n : Nat} (hM : MachOk M n) (c : Int) : (crashM M c).mem.views.length = M.mem.views.length ∧ (crashM M c).mem.places.length = M.mem.places.length := by
  unfold crashM
  split
  · exact ⟨rfl, rfl⟩
  · rename_i h
    obtain ⟨_, _, _, _, e⟩ := mnew_ok (crash_new hM c h)
    have h5 := left_len M.lines (mixF c)
    rw [hM.size] at h5
    simp only [e, List.length_replicate, List.length_map, h5, Int.toNat_natCast]
    exact ⟨trivial, trivial⟩
theorem size_run {M : MachM} {n : Nat} (hM : MachOk M n) (ds : List DeedV) : ∀ i, (runD M ds i).mem.views.length = M.mem.views.length ∧ (runD M ds i).mem.places.length = M.mem.places.length
  | 0 => ⟨rfl, rfl⟩
  | i + 1 => by
    have ih := size_run hM ds i
    unfold runD
    split
    · rename_i d _
      unfold deedM
      split
      · have := size_crash (machOk_run hM ds i) d.choice
        exact ⟨this.1.trans ih.1, this.2.trans ih.2⟩
      · have := size_do (machOk_run hM ds i) d.thread d.act d.choice
        exact ⟨this.1.trans ih.1, this.2.trans ih.2⟩
    · exact ih
end Go.Proofs.Ytkoibcblmgmdmaa
