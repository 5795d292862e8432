/-
  Histories: Choose, and the reference's Choose, are one function on numbers; Last; the law's helpers make, made, is.
-/
import Derived.Test.YtlbhfpcbbembgaaHist
namespace Go.Proofs.Ytlbhfpcbbembgaa
open Go.RowKit Go.Maps

/-- The index that a choice selects among n messages, from 'fr' on. -/
def chooseF (n : Nat) (fr ch : Int) : Int := if n = 0 then -1 else (n : Int) - 1 - (max ch 0) % ((n : Int) - 1 - max 0 (min fr ((n : Int) - 1)) + 1)

theorem choose_pos {n : Nat} {f ch : Int} (hn : 0 < n) : 0 ≤ chooseF n f ch ∧ chooseF n f ch ≤ (n : Int) - 1 := by
  unfold chooseF
  rw [if_neg (by omega)]
  have h1 := Int.emod_nonneg (max ch 0) (b := (n : Int) - 1 - max 0 (min f ((n : Int) - 1)) + 1) (by omega)
  have h2 := Int.emod_lt_of_pos (max ch 0) (b := (n : Int) - 1 - max 0 (min f ((n : Int) - 1)) + 1) (by omega)
  omega
theorem choose_of {n : Nat} {f ch A D : Int} (hn : 0 < n) (hA : A = max ch 0) (hD : D = (n : Int) - 1 - max 0 (min f ((n : Int) - 1)) + 1) : (n : Int) - 1 - A % D = chooseF n f ch := by
  unfold chooseF; rw [if_neg (by omega), hA, hD]
theorem choose_top {n : Nat} {f ch : Int} (hn : 0 < n) (h : ch ≤ 0 ∨ (n : Int) - 1 ≤ f) : (n : Int) - 1 = chooseF n f ch := by
  unfold chooseF; rw [if_neg (by omega)]
  rcases h with h | h
  · have : max ch 0 = 0 := by omega
    rw [this, Int.zero_emod]; omega
  · have : (n : Int) - 1 - max 0 (min f ((n : Int) - 1)) + 1 = 1 := by omega
    rw [this, Int.emod_one]; omega
theorem choose_wrap {n : Nat} {f ch X : Int} (hn : 0 < n) (hb : n ≤ 1000000) (h : X = chooseF n f ch) : wrap64 X = chooseF n f ch := by
  have := choose_pos (f := f) (ch := ch) hn
  rw [h]; exact IntWalk.wrap64_in _ ⟨by omega, by omega⟩

set_option maxRecDepth 100000 in
set_option maxHeartbeats 400000 in
theorem hChoose_ret (s : SlV) (f ch : Int) (w : World) (hn : s.n ≤ 1000000) (h1 : ch ≤ 9223372036854775807) :
    RetV Try.prog 14 #[.agg #[.slice s.a s.n s.c], .int .i64 f, .int .i64 ch] w (.int .i64 (chooseF s.n f ch)) := by
  obtain ⟨a, n, c⟩ := s
  simp only at hn
  unfold RetV
  go_enter Try.func14, Try.ntmps14
  go_wp2
  all_goals
    go_ret
    refine retv_int ?_ ((Below.refl _ _).alloc (Nat.le_refl _) _)
    first
      | (unfold chooseF; rw [if_pos (by omega)]; done)
      | exact choose_wrap (by omega) hn (choose_top (by omega) (by omega))
      | exact choose_wrap (by omega) hn (choose_of (by omega) (by omega) (by omega))

set_option maxRecDepth 100000 in
set_option maxHeartbeats 400000 in
theorem rChoose_ret0 (n : Nat) (f ch : Int) (w : World) (hn : n ≤ 1000000) (h1 : ch ≤ 9223372036854775807) :
    RetV Try.prog 15 #[.int .i64 n, .int .i64 f, .int .i64 ch] w (.int .i64 (chooseF n f ch)) := by
  unfold RetV
  by_cases hn0 : n = 0
  · subst hn0
    go_enter Try.func15, Try.ntmps15
    go_wp2
    go_ret
    exact retv_int (by simp [chooseF]) (Below.refl _ _)
  · have h0 : ((n : Int) == 0) = false := by rw [beq_eq_false_iff_ne]; omega
    have hpos : 0 < n := by omega
    have hc := choose_pos (f := f) (ch := ch) hpos
    obtain ⟨C, hC⟩ : ∃ C, C = chooseF n f ch := ⟨_, rfl⟩
    rw [← hC] at hc ⊢
    have HC := Lib.hid hC
    clear hC hn0
    by_cases hcase : (f < 0) ∧ ch < 0
    · obtain ⟨hfc, hcc⟩ := hcase
      have hR0 : 0 ≤ (0 : Int) := by first | omega | exact Int.emod_nonneg _ (by omega)
      have hRC : (n : Int) - 1 - (0) = C := by rw [HC.out]; first | exact choose_of (by omega) (by omega) (by omega) | (rw [Int.sub_zero]; exact choose_top (by omega) (by omega))
      have hRn : (0) ≤ (n : Int) - 1 := by omega
      have HR := Lib.hid hRC
      clear hRC
      go_enter Try.func15, Try.ntmps15
      go_wp2
      go_loop [8, 9] (fun at' i => ∃ k : Int, 0 ≤ k ∧ k ≤ 0 ∧ i = .int .i64 k ∧ at' = .int .i64 ((n : Int) - 1 - k)) (fun _ i => (0 - intOf i).toNat)
      case atStart => exact ⟨0, Int.le_refl 0, hR0, rfl, by simp⟩
      case round =>
        obtain ⟨k, hk0, hkR, rfl, rfl⟩ := hrel
        by_cases hlt : k < 0
        · go_wp2
          go_round
          case rel => exact ⟨k + 1, by omega, by omega, rfl, by go_num⟩
          case measure => first | (simp [intOf]; done) | (simp [intOf]; omega)
        · have hk : k = 0 := by omega
          go_wp2
          go_ret
          exact retv_int (by have := HR.out; omega) (Below.refl _ _)
    by_cases hcase : (f < 0) ∧ 0 ≤ ch
    · obtain ⟨hfc, hcc⟩ := hcase
      have hR0 : 0 ≤ (ch % (n : Int) : Int) := by first | omega | exact Int.emod_nonneg _ (by omega)
      have hRC : (n : Int) - 1 - (ch % (n : Int)) = C := by rw [HC.out]; first | exact choose_of (by omega) (by omega) (by omega) | (rw [Int.sub_zero]; exact choose_top (by omega) (by omega))
      have hRn : (ch % (n : Int)) ≤ (n : Int) - 1 := by omega
      have HR := Lib.hid hRC
      clear hRC
      go_enter Try.func15, Try.ntmps15
      go_wp2
      go_loop [8, 9] (fun at' i => ∃ k : Int, 0 ≤ k ∧ k ≤ ch % (n : Int) ∧ i = .int .i64 k ∧ at' = .int .i64 ((n : Int) - 1 - k)) (fun _ i => (ch % (n : Int) - intOf i).toNat)
      case atStart => exact ⟨0, Int.le_refl 0, hR0, rfl, by simp⟩
      case round =>
        obtain ⟨k, hk0, hkR, rfl, rfl⟩ := hrel
        by_cases hlt : k < ch % (n : Int)
        · go_wp2
          go_round
          case rel => exact ⟨k + 1, by omega, by omega, rfl, by go_num⟩
          case measure => first | (simp [intOf]; done) | (simp [intOf]; omega)
        · have hk : k = ch % (n : Int) := by omega
          go_wp2
          go_ret
          exact retv_int (by have := HR.out; omega) (Below.refl _ _)
    by_cases hcase : (0 ≤ f ∧ f < n) ∧ ch < 0
    · obtain ⟨hfc, hcc⟩ := hcase
      have hR0 : 0 ≤ (0 : Int) := by first | omega | exact Int.emod_nonneg _ (by omega)
      have hRC : (n : Int) - 1 - (0) = C := by rw [HC.out]; first | exact choose_of (by omega) (by omega) (by omega) | (rw [Int.sub_zero]; exact choose_top (by omega) (by omega))
      have hRn : (0) ≤ (n : Int) - 1 := by omega
      have HR := Lib.hid hRC
      clear hRC
      go_enter Try.func15, Try.ntmps15
      go_wp2
      go_loop [8, 9] (fun at' i => ∃ k : Int, 0 ≤ k ∧ k ≤ 0 ∧ i = .int .i64 k ∧ at' = .int .i64 ((n : Int) - 1 - k)) (fun _ i => (0 - intOf i).toNat)
      case atStart => exact ⟨0, Int.le_refl 0, hR0, rfl, by simp⟩
      case round =>
        obtain ⟨k, hk0, hkR, rfl, rfl⟩ := hrel
        by_cases hlt : k < 0
        · go_wp2
          go_round
          case rel => exact ⟨k + 1, by omega, by omega, rfl, by go_num⟩
          case measure => first | (simp [intOf]; done) | (simp [intOf]; omega)
        · have hk : k = 0 := by omega
          go_wp2
          go_ret
          exact retv_int (by have := HR.out; omega) (Below.refl _ _)
    by_cases hcase : (0 ≤ f ∧ f < n) ∧ 0 ≤ ch
    · obtain ⟨hfc, hcc⟩ := hcase
      have hR0 : 0 ≤ (ch % ((n : Int) - f) : Int) := by first | omega | exact Int.emod_nonneg _ (by omega)
      have hRC : (n : Int) - 1 - (ch % ((n : Int) - f)) = C := by rw [HC.out]; first | exact choose_of (by omega) (by omega) (by omega) | (rw [Int.sub_zero]; exact choose_top (by omega) (by omega))
      have hRn : (ch % ((n : Int) - f)) ≤ (n : Int) - 1 := by omega
      have HR := Lib.hid hRC
      clear hRC
      go_enter Try.func15, Try.ntmps15
      go_wp2
      go_loop [8, 9] (fun at' i => ∃ k : Int, 0 ≤ k ∧ k ≤ ch % ((n : Int) - f) ∧ i = .int .i64 k ∧ at' = .int .i64 ((n : Int) - 1 - k)) (fun _ i => (ch % ((n : Int) - f) - intOf i).toNat)
      case atStart => exact ⟨0, Int.le_refl 0, hR0, rfl, by simp⟩
      case round =>
        obtain ⟨k, hk0, hkR, rfl, rfl⟩ := hrel
        by_cases hlt : k < ch % ((n : Int) - f)
        · go_wp2
          go_round
          case rel => exact ⟨k + 1, by omega, by omega, rfl, by go_num⟩
          case measure => first | (simp [intOf]; done) | (simp [intOf]; omega)
        · have hk : k = ch % ((n : Int) - f) := by omega
          go_wp2
          go_ret
          exact retv_int (by have := HR.out; omega) (Below.refl _ _)
    by_cases hcase : ((n : Int) ≤ f) ∧ ch < 0
    · obtain ⟨hfc, hcc⟩ := hcase
      have hR0 : 0 ≤ (0 : Int) := by first | omega | exact Int.emod_nonneg _ (by omega)
      have hRC : (n : Int) - 1 - (0) = C := by rw [HC.out]; first | exact choose_of (by omega) (by omega) (by omega) | (rw [Int.sub_zero]; exact choose_top (by omega) (by omega))
      have hRn : (0) ≤ (n : Int) - 1 := by omega
      have HR := Lib.hid hRC
      clear hRC
      go_enter Try.func15, Try.ntmps15
      go_wp2
      go_loop [8, 9] (fun at' i => ∃ k : Int, 0 ≤ k ∧ k ≤ 0 ∧ i = .int .i64 k ∧ at' = .int .i64 ((n : Int) - 1 - k)) (fun _ i => (0 - intOf i).toNat)
      case atStart => exact ⟨0, Int.le_refl 0, hR0, rfl, by simp⟩
      case round =>
        obtain ⟨k, hk0, hkR, rfl, rfl⟩ := hrel
        by_cases hlt : k < 0
        · go_wp2
          go_round
          case rel => exact ⟨k + 1, by omega, by omega, rfl, by go_num⟩
          case measure => first | (simp [intOf]; done) | (simp [intOf]; omega)
        · have hk : k = 0 := by omega
          go_wp2
          go_ret
          exact retv_int (by have := HR.out; omega) (Below.refl _ _)
    by_cases hcase : ((n : Int) ≤ f) ∧ 0 ≤ ch
    · obtain ⟨hfc, hcc⟩ := hcase
      have hR0 : 0 ≤ (ch % ((n : Int) - ((n : Int) - 1)) : Int) := by first | omega | exact Int.emod_nonneg _ (by omega)
      have hRC : (n : Int) - 1 - (ch % ((n : Int) - ((n : Int) - 1))) = C := by rw [HC.out]; first | exact choose_of (by omega) (by omega) (by omega) | (rw [Int.sub_zero]; exact choose_top (by omega) (by omega))
      have hRn : (ch % ((n : Int) - ((n : Int) - 1))) ≤ (n : Int) - 1 := by omega
      have HR := Lib.hid hRC
      clear hRC
      go_enter Try.func15, Try.ntmps15
      go_wp2
      go_loop [8, 9] (fun at' i => ∃ k : Int, 0 ≤ k ∧ k ≤ ch % ((n : Int) - ((n : Int) - 1)) ∧ i = .int .i64 k ∧ at' = .int .i64 ((n : Int) - 1 - k)) (fun _ i => (ch % ((n : Int) - ((n : Int) - 1)) - intOf i).toNat)
      case atStart => exact ⟨0, Int.le_refl 0, hR0, rfl, by simp⟩
      case round =>
        obtain ⟨k, hk0, hkR, rfl, rfl⟩ := hrel
        by_cases hlt : k < ch % ((n : Int) - ((n : Int) - 1))
        · go_wp2
          go_round
          case rel => exact ⟨k + 1, by omega, by omega, rfl, by go_num⟩
          case measure => first | (simp [intOf]; done) | (simp [intOf]; omega)
        · have hk : k = ch % ((n : Int) - ((n : Int) - 1)) := by omega
          go_wp2
          go_ret
          exact retv_int (by have := HR.out; omega) (Below.refl _ _)
    exfalso; omega
theorem rChoose_ret (n : Nat) (N f ch : Int) (w : World) (hN : N = n) (hn : n ≤ 1000000) (h1 : ch ≤ 9223372036854775807) :
    RetV Try.prog 15 #[.int .i64 N, .int .i64 f, .int .i64 ch] w (.int .i64 (chooseF n f ch)) := by
  subst hN; exact rChoose_ret0 n f ch w hn h1

end Go.Proofs.Ytlbhfpcbbembgaa
