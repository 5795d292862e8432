/-
  Layer 5, the small functions: thread, has, Mix, slices.Clone and slices.Clip at its slices.
-/
import Derived.Test.YtlbhfpcbbembgaaSl
import Derived.OwnWalk
import Derived.Lib.LazyBuf
namespace Go.Proofs.Ytlbhfpcbbembgaa
set_option linter.unusedSimpArgs false
set_option linter.unusedVariables false
open Go.RowKit Go.Maps

set_option maxRecDepth 100000 in
set_option maxHeartbeats 400000 in
theorem lThread_ret (t : Int) (w : World) : RetV Try.prog 46 #[.int .i64 t] w (.bool (decide (1 ≤ t ∧ t ≤ 8))) := by
  unfold RetV
  by_cases h1 : 1 ≤ t <;> by_cases h2 : t ≤ 8
  all_goals
    go_enter Try.func46, Try.ntmps46
    go_wp2
    go_ret
    exact retv_bool (by simp [h1, h2]) (Below.refl _ _)

def mixF (c i m : Int) : Int := if i < 0 ∨ m < 0 ∨ c = -1 then 0 else if c < -1 then m else (c % 1009 * 31 + i % 1009 * 17) % 1009 % (m + 1)

theorem mixF_le (c i m : Int) : 0 ≤ mixF c i m ∧ mixF c i m ≤ max m 0 := by
  unfold mixF
  split
  · omega
  · split
    · omega
    · have h1 := Int.emod_nonneg ((c % 1009 * 31 + i % 1009 * 17) % 1009) (b := m + 1) (by omega)
      have h2 := Int.emod_lt_of_pos ((c % 1009 * 31 + i % 1009 * 17) % 1009) (b := m + 1) (by omega)
      omega

set_option maxRecDepth 100000 in
set_option maxHeartbeats 1000000 in
theorem lMix_ret (c i m : Int) (w : World) (hm : m ≤ 1099511627776) : RetV Try.prog 25 #[.int .i64 c, .int .i64 i, .int .i64 m] w (.int .i64 (mixF c i m)) := by
  unfold RetV
  by_cases h1 : i < 0
  · go_enter Try.func25, Try.ntmps25
    go_wp2
    go_ret
    exact retv_int (by simp [mixF, h1]) (Below.refl _ _)
  by_cases h2 : m < 0
  · go_enter Try.func25, Try.ntmps25
    go_wp2
    go_ret
    exact retv_int (by simp [mixF, h2]) (Below.refl _ _)
  by_cases h3 : c = -1
  · subst h3
    go_enter Try.func25, Try.ntmps25
    go_wp2
    go_ret
    exact retv_int (by simp [mixF]) (Below.refl _ _)
  have h3' : (c == -1) = false := by simpa using h3
  by_cases h4 : c < -1
  · go_enter Try.func25, Try.ntmps25
    go_wp2
    go_ret
    exact retv_int (by unfold mixF; rw [if_neg (by omega), if_pos h4]) (Below.refl _ _)
  · obtain ⟨A, hA⟩ : ∃ A, A = c % 1009 := ⟨_, rfl⟩
    obtain ⟨B, hB⟩ : ∃ B, B = i % 1009 := ⟨_, rfl⟩
    obtain ⟨C, hC⟩ : ∃ C, C = (A * 31 + B * 17) % 1009 := ⟨_, rfl⟩
    obtain ⟨R, hR⟩ : ∃ R, R = C % (m + 1) := ⟨_, rfl⟩
    have a1 := Int.emod_nonneg c (b := 1009) (by omega)
    have a2 := Int.emod_lt_of_pos c (b := 1009) (by omega)
    have b1 := Int.emod_nonneg i (b := 1009) (by omega)
    have b2 := Int.emod_lt_of_pos i (b := 1009) (by omega)
    rw [← hA] at a1 a2
    rw [← hB] at b1 b2
    have c1 := Int.emod_nonneg (A * 31 + B * 17) (b := 1009) (by omega)
    have c2 := Int.emod_lt_of_pos (A * 31 + B * 17) (b := 1009) (by omega)
    rw [← hC] at c1 c2
    have r1 := Int.emod_nonneg C (b := m + 1) (by omega)
    have r2 := Int.emod_lt_of_pos C (b := m + 1) (by omega)
    rw [← hR] at r1 r2
    have tA : c.tmod 1009 = A := by rw [hA]; exact Int.tmod_eq_emod_of_nonneg (by omega)
    have tB : i.tmod 1009 = B := by rw [hB]; exact Int.tmod_eq_emod_of_nonneg (by omega)
    have tC : (A * 31 + B * 17).tmod 1009 = C := by rw [hC]; exact Int.tmod_eq_emod_of_nonneg (by omega)
    have tR : C.tmod (m + 1) = R := by rw [hR]; exact Int.tmod_eq_emod_of_nonneg (by omega)
    have hm1 : ((m + 1) == 0) = false := by rw [beq_eq_false_iff_ne]; omega
    have hm2 : ¬ (m + 1 = 0) := by omega
    have HF : mixF c i m = R := by unfold mixF; rw [if_neg (by omega), if_neg h4, ← hA, ← hB, ← hC, ← hR]
    have H0 := Lib.hid HF
    clear HF hA hB hC hR
    go_enter Try.func25, Try.ntmps25
    go_wp2
    go_ret
    exact retv_int (by rw [H0.out]) (Below.refl _ _)
set_option maxRecDepth 100000 in
set_option maxHeartbeats 1000000 in
theorem r5Mix_ret (c i m : Int) (w : World) (hm : m ≤ 1099511627776) : RetV Try.prog 26 #[.int .i64 c, .int .i64 i, .int .i64 m] w (.int .i64 (mixF c i m)) := by
  unfold RetV
  by_cases h1 : i < 0
  · go_enter Try.func26, Try.ntmps26
    go_wp2
    go_ret
    exact retv_int (by simp [mixF, h1]) (Below.refl _ _)
  by_cases h2 : m < 0
  · go_enter Try.func26, Try.ntmps26
    go_wp2
    go_ret
    exact retv_int (by simp [mixF, h2]) (Below.refl _ _)
  by_cases h3 : c = -1
  · subst h3
    go_enter Try.func26, Try.ntmps26
    go_wp2
    go_ret
    exact retv_int (by simp [mixF]) (Below.refl _ _)
  have h3' : (c == -1) = false := by simpa using h3
  by_cases h4 : c < -1
  · go_enter Try.func26, Try.ntmps26
    go_wp2
    go_ret
    exact retv_int (by unfold mixF; rw [if_neg (by omega), if_pos h4]) (Below.refl _ _)
  · obtain ⟨A, hA⟩ : ∃ A, A = c % 1009 := ⟨_, rfl⟩
    obtain ⟨B, hB⟩ : ∃ B, B = i % 1009 := ⟨_, rfl⟩
    obtain ⟨C, hC⟩ : ∃ C, C = (A * 31 + B * 17) % 1009 := ⟨_, rfl⟩
    obtain ⟨R, hR⟩ : ∃ R, R = C % (m + 1) := ⟨_, rfl⟩
    have a1 := Int.emod_nonneg c (b := 1009) (by omega)
    have a2 := Int.emod_lt_of_pos c (b := 1009) (by omega)
    have b1 := Int.emod_nonneg i (b := 1009) (by omega)
    have b2 := Int.emod_lt_of_pos i (b := 1009) (by omega)
    rw [← hA] at a1 a2
    rw [← hB] at b1 b2
    have c1 := Int.emod_nonneg (A * 31 + B * 17) (b := 1009) (by omega)
    have c2 := Int.emod_lt_of_pos (A * 31 + B * 17) (b := 1009) (by omega)
    rw [← hC] at c1 c2
    have r1 := Int.emod_nonneg C (b := m + 1) (by omega)
    have r2 := Int.emod_lt_of_pos C (b := m + 1) (by omega)
    rw [← hR] at r1 r2
    have tA : c.tmod 1009 = A := by rw [hA]; exact Int.tmod_eq_emod_of_nonneg (by omega)
    have tB : i.tmod 1009 = B := by rw [hB]; exact Int.tmod_eq_emod_of_nonneg (by omega)
    have tC : (A * 31 + B * 17).tmod 1009 = C := by rw [hC]; exact Int.tmod_eq_emod_of_nonneg (by omega)
    have tR : C.tmod (m + 1) = R := by rw [hR]; exact Int.tmod_eq_emod_of_nonneg (by omega)
    have hm1 : ((m + 1) == 0) = false := by rw [beq_eq_false_iff_ne]; omega
    have hm2 : ¬ (m + 1 = 0) := by omega
    have HF : mixF c i m = R := by unfold mixF; rw [if_neg (by omega), if_neg h4, ← hA, ← hB, ← hC, ← hR]
    have H0 := Lib.hid HF
    clear HF hA hB hC hR
    go_enter Try.func26, Try.ntmps26
    go_wp2
    go_ret
    exact retv_int (by rw [H0.out]) (Below.refl _ _)
theorem infoWord : (Try.prog.info? 30).map (fun i => (i.zero, i.size, i.bytes)) = some (some (.agg #[.int .i64 0, .int .u32 0, .int .u32 0]), 3, 16) := by kernel_rfl
theorem infoLog : (Try.prog.info? 95).map (fun i => (i.zero, i.size, i.bytes)) = some (some (.agg #[.slice none 0 0, .int .i64 0]), 2, 32) := by kernel_rfl

/-- What slices.Clone returns: a new row, that only its owner knows. -/
def CloneR {α : Type} (k : Nat) (R : Elt α) (e : TypeId) (w : World) (H : Hp) (n : Nat) (l : List α) (v : Value) (w' : World) : Prop :=
  ∃ xs, Grow w H w' H ∧ w'.ownsRow w.heap.size e k v n xs ∧ FlatR k R H xs l ∧ (∀ u ∈ xs, u.oneCell' = true)

set_option maxRecDepth 100000 in
set_option maxHeartbeats 1000000 in
theorem cloneWord_ret {α : Type} {R : Elt α} (H : Hp) (s : SlV) (l : List α) (w : World) (hs : Sub H w) (h : SlR 3 R H s.a s.n s.c l) (hn : s.n ≤ 1000000) :
    Calls Try.prog 42 #[.slice s.a s.n s.c] w fun e w' => ∃ v, e = .returned v ∧ CloneR 3 R 30 w H s.n l v w' := by
  obtain ⟨i0, hi, hz0, hz1, hz2⟩ := info_parts infoWord
  obtain ⟨a, n, c⟩ := s
  simp only at h hn
  cases a with
  | none =>
    obtain ⟨rfl, rfl, rfl⟩ := h.nilcap
    have hq := fun w a l c => Lib.run_eql_slice_nil (P := Try.prog) w 55 _ a l c 0 0 Try.underlying55
    go_enter Try.func42, Try.ntmps42
    go_wp2
    go_ret
    exact ⟨_, rfl, [], Grow.refl hs, World.ownsRow_nil _ _ _ _, FlatR.nil, by simp⟩
  | some ad =>
    obtain ⟨xs, hxl, hf, h1, hc⟩ := h.cells
    have hcw := hc (w.alloc (.cells #[] 30)) (hs.alloc _) ad rfl
    have hcap := h.cap
    have hq := fun w a l c => Lib.run_eql_slice_nil (P := Try.prog) w 55 _ a l c 0 0 Try.underlying55
    go_enter Try.func42, Try.ntmps42
    go_wp2_with (first
      | (at_builtin; refine wpList_append_own _ rfl _ _ 55 rfl w.heap.size 30 i0 _ 3 16 Try.underlying55 hi hz0 hz1 hz2 rfl (by decide) (.slice (some ⟨w.heap.size, 0, none⟩) 0 0) 0 [] rfl (World.ownsRow_made _ _ 0 (Nat.le_refl _) (by decide) (by simp)) ad n c xs rfl hxl hcw h1 (by unfold maxLen; omega) (by omega) (by simp) ?_; intro v' w1 hown hg1 _)
      | go_in)
    go_ret
    refine ⟨_, rfl, xs, ?_, by simpa using hown, hf, h1⟩
    exact ((Grow.refl hs).alloc _).grown hg1 (fun k hk => by simp [Value.ownBlock] at hk; subst hk; exact ⟨Nat.le_refl _, hs.none (Nat.le_refl _)⟩)
set_option maxRecDepth 100000 in
set_option maxHeartbeats 1000000 in
theorem cloneLog_ret {α : Type} {R : Elt α} (H : Hp) (s : SlV) (l : List α) (w : World) (hs : Sub H w) (h : SlR 2 R H s.a s.n s.c l) (hn : s.n ≤ 1000000) :
    Calls Try.prog 44 #[.slice s.a s.n s.c] w fun e w' => ∃ v, e = .returned v ∧ CloneR 2 R 95 w H s.n l v w' := by
  obtain ⟨i0, hi, hz0, hz1, hz2⟩ := info_parts infoLog
  obtain ⟨a, n, c⟩ := s
  simp only at h hn
  cases a with
  | none =>
    obtain ⟨rfl, rfl, rfl⟩ := h.nilcap
    have hq := fun w a l c => Lib.run_eql_slice_nil (P := Try.prog) w 56 _ a l c 0 0 Try.underlying56
    go_enter Try.func44, Try.ntmps44
    go_wp2
    go_ret
    exact ⟨_, rfl, [], Grow.refl hs, World.ownsRow_nil _ _ _ _, FlatR.nil, by simp⟩
  | some ad =>
    obtain ⟨xs, hxl, hf, h1, hc⟩ := h.cells
    have hcw := hc (w.alloc (.cells #[] 95)) (hs.alloc _) ad rfl
    have hcap := h.cap
    have hq := fun w a l c => Lib.run_eql_slice_nil (P := Try.prog) w 56 _ a l c 0 0 Try.underlying56
    go_enter Try.func44, Try.ntmps44
    go_wp2_with (first
      | (at_builtin; refine wpList_append_own _ rfl _ _ 56 rfl w.heap.size 95 i0 _ 2 32 Try.underlying56 hi hz0 hz1 hz2 rfl (by decide) (.slice (some ⟨w.heap.size, 0, none⟩) 0 0) 0 [] rfl (World.ownsRow_made _ _ 0 (Nat.le_refl _) (by decide) (by simp)) ad n c xs rfl hxl hcw h1 (by unfold maxLen; omega) (by omega) (by simp) ?_; intro v' w1 hown hg1 _)
      | go_in)
    go_ret
    refine ⟨_, rfl, xs, ?_, by simpa using hown, hf, h1⟩
    exact ((Grow.refl hs).alloc _).grown hg1 (fun k hk => by simp [Value.ownBlock] at hk; subst hk; exact ⟨Nat.le_refl _, hs.none (Nat.le_refl _)⟩)
set_option maxRecDepth 100000 in
set_option maxHeartbeats 400000 in
theorem clipStore_ret (s : SlV) (w : World) (hn : s.n ≤ s.c) (hb : s.n ≤ 9223372036854775807) : RetV Try.prog 45 #[.slice s.a s.n s.c] w (.slice s.a s.n s.n) := by
  obtain ⟨a, n, c⟩ := s
  simp only at hn hb
  unfold RetV
  go_enter Try.func45, Try.ntmps45
  go_wp2
  go_ret
  exact retv_mk (Below.refl _ _)
end Go.Proofs.Ytlbhfpcbbembgaa
