/-
  HistoryOutside returns true for every input: At returns nothing for an index out of range, and the zero history is empty.
  Conditions: none.
-/
import Derived.Test.YtlbhfpcbbembgaaOne
import Derived.Test.YtlbhfpcbbembgaaHist3
namespace Go.Proofs.Ytlbhfpcbbembgaa
open Go.ChangeShapes Go.WideShapes Go.ChangeAt Go.RowKit

theorem atM_nil (i : Int) : atM [] i = (zeroMsg, false) := by rw [atM, if_neg (by simp)]
theorem lastM_nil : lastM [] = zeroMsg := by simp [lastM, atM_nil]
theorem choose_zero (f c : Int) : chooseF 0 f c = -1 := by simp [chooseF]
theorem hLen_of (s : SlV) (N : Int) (w : World) (h : (s.n : Int) = N) : RetV Try.prog 16 #[.agg #[.slice s.a s.n s.c]] w (.int .i64 N) := h ▸ hLen_ret s w

set_option maxRecDepth 100000 in
set_option maxHeartbeats 3000000 in
theorem historyOutside_ret (H : Hp) (x y z : Int) (s : SlV) (l : List OneV) (i : Int) (w : World) (hs : Sub H w) (hl : SlR 6 OneR H s.a s.n s.c l) (hn : s.c ≤ 9223372036854775807)
    (i0 : -9223372036854775808 ≤ i) (i1 : i ≤ 9223372036854775807) :
    RetV Try.prog 6 #[.agg #[.int .i64 x, .int .u32 y, .int .u32 z], .slice s.a s.n s.c, .int .i64 i] w (.bool true) := by
  have hcap := hl.cap
  unfold RetV
  by_cases h100 : s.n ≤ 100
  · go_enter Try.func6, Try.ntmps6
    go_wp2_with fail
    refine Ret.use (made_ret H x y z s l _ (hs.alloc _) hl h100) fun s1 w2 H2 hg2 hh2 => ?_
    have hb2 : Below w.heap.size w w2 := ((Below.refl _ _).alloc (Nat.le_refl _) _).trans (hg2.below.mono (by simp))
    have hlen : ((⟨x, y, z, 0, fun _ => 0⟩ : MsgV) :: l.map OneV.msg).length = s.n + 1 := by simp [hl.len]
    have hs1n : s1.n = s.n + 1 := by have := hh2.len; omega
    have hs1c : s1.n ≤ 1000000 := by omega
    have hll := hh2.len
    have HS := Lib.hid hs1n
    clear hs1n
    generalize ((⟨x, y, z, 0, fun _ => 0⟩ : MsgV) :: l.map OneV.msg) = L at hh2 hlen
    go_wp2_with fail
    refine Ret.use (hAt_ret H2 s1 L i _ hg2.sub hh2 (by omega)) fun x3 w3 H3 hg3 hx3 => ?_
    have hb3 := hb2.trans (hg3.below.mono hb2.size)
    obtain ⟨m, ok, hm, hcase⟩ : ∃ m ok, atM L i = (m, ok) ∧ ((ok = true ∧ 0 ≤ i ∧ i ≤ s.n) ∨ (ok = false ∧ m = zeroMsg ∧ (i < 0 ∨ (s.n : Int) < i))) := by
      unfold atM
      by_cases hc : 0 ≤ i ∧ i < L.length
      · rw [if_pos hc]; exact ⟨_, _, rfl, .inl ⟨rfl, hc.1, by have := hc.2; omega⟩⟩
      · rw [if_neg hc]; exact ⟨_, _, rfl, .inr ⟨rfl, rfl, by omega⟩⟩
    rw [hm] at hx3 ⊢
    clear hm hh2 hg2 hb2 hlen hll HS
    simp only [MsgV.v] at hx3 ⊢
    go_wp2_with fail
    have hg3' : Grow w3 H3 ((w3.alloc (.cells #[.int .i64 m.val, .int .u32 m.ver, .int .u32 m.ref, .int .i64 m.th, .map x3] 43)).alloc (.cells #[.slice none 0 0] 26)) H3 := ((Grow.refl hg3.sub).alloc _).alloc _
    refine Ret.use (hAt_ret H3 ⟨none, 0, 0⟩ [] i _ hg3'.sub (HistR.zero _) (by simp)) fun x5 w5 H5 hg5 hx5 => ?_
    have hbm : Box w5 w3.heap.size _ _ := (hg5.below.block _ (by simp; omega)).trans (heap_past _ _ (heap_at _ _ rfl))
    have hbz : Box w5 (w3.heap.size + 1) _ _ := (hg5.below.block _ (by simp)).trans (heap_at _ _ (by simp))
    have hb5 : Below w.heap.size w w5 := (hb3.trans (hg3'.below.mono hb3.size)).trans (hg5.below.mono (by have := hb3.size; simp; omega))
    clear hg3' hb3 hg3 hx3
    rw [atM_nil] at hx5 ⊢
    simp only [MsgV.v, zeroMsg] at hx5 ⊢
    go_wp2_with fail
    refine wp_abs1 hg5.sub fun W0 hbn hg0 hz0 => ?_
    replace hbm := hbm.grow hg0
    replace hbz := hbz.grow hg0
    replace hb5 := hb5.trans (hg0.below.mono hb5.size)
    have hz5 := hb5.size
    have hm0 := run_msg0
    refine wp_region_ag 39 [] H5 (by kernel_rfl) (by kernel_rfl) (by kernel_rfl) (fun _ _ _ _ _ h => h) hg0.sub ?_
    simp only [List.take_succ_cons, List.take_zero]
    apply agl_val (hfl := rfl) (hg := fun _ _ _ _ => wanted_none rfl)
    · intro a w' H' hw hp ho
      have e11 := oget (t := 11) ho rfl
      clear hw hp ho
      go_simp
      rfl
    apply agl_val (hfl := rfl) (hg := fun _ _ _ _ => wanted_none rfl)
    · intro a w' H' hw hp ho
      have e30 := tget (t := 30) (hp 0 _ rfl rfl)
      clear hw hp ho
      go_simp
      rfl
    try simp only [List.nil_append, List.cons_append]
    apply agl_val (hfl := rfl) (hg := fun _ _ _ hp => wants rfl (hp 1 _ rfl rfl))
    · intro a w' H' hw hp ho
      have e10 := oget (t := 10) ho rfl
      clear hw hp ho
      go_simp
      rfl
    apply agl_val (hfl := rfl) (hg := fun _ _ _ hp => wants rfl (hp 1 _ rfl rfl))
    · intro a w' H' hw hp ho
      have e32 := tget (t := 32) (hp 2 _ rfl rfl)
      have r_hbm := (hbm.grow hw).cell
      have r_hbz := (hbz.grow hw).cell
      have r_hbn := (hbn.grow hw).cell
      clear hw hp ho
      go_simp
      rfl
    try simp only [List.nil_append, List.cons_append]
    apply agl_val (hfl := rfl) (hg := fun _ _ _ hp => wants rfl (hp 1 _ rfl rfl))
    · intro a w' H' hw hp ho
      have e33 := tget (t := 33) (hp 3 _ rfl rfl)
      clear hw hp ho
      go_simp
      try simp (disch := omega) only [IntWalk.i64_in, IntWalk.u8_in, IntWalk.u32_in, IntWalk.rem_in]
      rfl
    apply agl_val (hfl := rfl) (hg := fun _ _ _ _ => wanted_none rfl)
    · intro a w' H' hw hp ho
      have e31 := tget (t := 31) (hp 1 _ rfl rfl)
      have e34 := tget (t := 34) (hp 4 _ rfl rfl)
      clear hw hp ho
      go_simp
      rfl
    try simp only [List.nil_append, List.cons_append]
    apply agl_val (hfl := rfl) (hg := fun _ _ _ _ => wanted_none rfl)
    · intro a w' H' hw hp ho
      have e35 := tget (t := 35) (hp 5 _ rfl rfl)
      clear hw hp ho
      go_simp
      rfl
    apply agl_val (hfl := rfl) (hg := fun _ _ _ hp => wants rfl (hp 6 _ rfl rfl))
    · intro a w' H' hw hp ho
      have e10 := oget (t := 10) ho rfl
      clear hw hp ho
      go_simp
      rfl
    try simp only [List.nil_append, List.cons_append]
    apply agl_val (hfl := rfl) (hg := fun _ _ _ hp => wants rfl (hp 6 _ rfl rfl))
    · intro a w' H' hw hp ho
      have e37 := tget (t := 37) (hp 7 _ rfl rfl)
      have r_hbm := (hbm.grow hw).cell
      have r_hbz := (hbz.grow hw).cell
      have r_hbn := (hbn.grow hw).cell
      clear hw hp ho
      go_simp
      rfl
    apply agl_val (hfl := rfl) (hg := fun _ _ _ hp => wants rfl (hp 6 _ rfl rfl))
    · intro a w' H' hw hp ho
      clear hw hp ho
      go_simp
      rfl
    try simp only [List.nil_append, List.cons_append]
    apply agl_val (hfl := rfl) (hg := fun _ _ _ hp => wants rfl (hp 6 _ rfl rfl))
    · intro a w' H' hw hp ho
      have e38 := tget (t := 38) (hp 8 _ rfl rfl)
      have e39 := tget (t := 39) (hp 9 _ rfl rfl)
      clear hw hp ho
      go_simp
      try simp (disch := omega) only [IntWalk.i64_in, IntWalk.u8_in, IntWalk.u32_in, IntWalk.rem_in]
      rfl
    apply agl_val (hfl := rfl) (hg := fun _ _ _ _ => wanted_none rfl)
    · intro a w' H' hw hp ho
      have e36 := tget (t := 36) (hp 6 _ rfl rfl)
      have e40 := tget (t := 40) (hp 10 _ rfl rfl)
      clear hw hp ho
      go_simp
      rfl
    try simp only [List.nil_append, List.cons_append]
    apply agl_val (hfl := rfl) (hg := fun _ _ _ _ => wanted_none rfl)
    · intro a w' H' hw hp ho
      have e41 := tget (t := 41) (hp 11 _ rfl rfl)
      clear hw hp ho
      go_simp
      rfl
    apply agl_val (hfl := rfl) (hg := fun _ _ _ hp => wants rfl (hp 12 _ rfl rfl))
    · intro a w' H' hw hp ho
      have e9 := oget (t := 9) ho rfl
      have r_hbm := (hbm.grow hw).cell
      have r_hbz := (hbz.grow hw).cell
      have r_hbn := (hbn.grow hw).cell
      clear hw hp ho
      go_simp
      rfl
    try simp only [List.nil_append, List.cons_append]
    apply agl_callv (hfl := rfl) (hg := fun _ _ _ hp => wants rfl (hp 12 _ rfl rfl))
    · intro a w' H' hw hp ho
      have e43 := tget (t := 43) (hp 13 _ rfl rfl)
      apply Exists.intro
      apply And.intro
      · go_simp; first | rfl | exact ⟨rfl, rfl⟩
      · exact hLen_ret ⟨none, 0, 0⟩ w'
    apply agl_val (hfl := rfl) (hg := fun _ _ _ hp => wants rfl (hp 12 _ rfl rfl))
    · intro a w' H' hw hp ho
      have e44 := tget (t := 44) (hp 14 _ rfl rfl)
      clear hw hp ho
      go_simp
      try simp (disch := omega) only [IntWalk.i64_in, IntWalk.u8_in, IntWalk.u32_in, IntWalk.rem_in]
      rfl
    try simp only [List.nil_append, List.cons_append]
    apply agl_val (hfl := rfl) (hg := fun _ _ _ _ => wanted_none rfl)
    · intro a w' H' hw hp ho
      have e42 := tget (t := 42) (hp 12 _ rfl rfl)
      have e45 := tget (t := 45) (hp 15 _ rfl rfl)
      clear hw hp ho
      go_simp
      rfl
    apply agl_val (hfl := rfl) (hg := fun _ _ _ _ => wanted_none rfl)
    · intro a w' H' hw hp ho
      have e46 := tget (t := 46) (hp 16 _ rfl rfl)
      clear hw hp ho
      go_simp
      rfl
    try simp only [List.nil_append, List.cons_append]
    apply agl_val (hfl := rfl) (hg := fun _ _ _ hp => wants rfl (hp 17 _ rfl rfl))
    · intro a w' H' hw hp ho
      have e9 := oget (t := 9) ho rfl
      have r_hbm := (hbm.grow hw).cell
      have r_hbz := (hbz.grow hw).cell
      have r_hbn := (hbn.grow hw).cell
      clear hw hp ho
      go_simp
      rfl
    apply agl_call (hfl := rfl) (hg := fun _ _ _ hp => wants rfl (hp 17 _ rfl rfl))
    · intro a w' H' hw hp ho
      have e48 := tget (t := 48) (hp 18 _ rfl rfl)
      apply Exists.intro
      apply And.intro
      · go_simp; first | rfl | exact ⟨rfl, rfl⟩
      · exact hLast_ret H' ⟨none, 0, 0⟩ [] w' hw.sub (HistR.zero _) (by simp)
    · exact fun _ _ _ l h => h.le l
    try simp only [List.nil_append, List.cons_append]
    apply agl_val (hfl := rfl) (hg := fun _ _ _ hp => wants rfl (hp 17 _ rfl rfl))
    · intro a w' H' hw hp ho
      obtain ⟨x19, e49, hx19⟩ := hp 19 _ rfl rfl
      replace e49 := tget (t := 49) e49
      simp only [lastM_nil, MsgV.v, zeroMsg] at e49
      clear hw hp ho
      go_simp
      rfl
    apply agl_val (hfl := rfl) (hg := fun _ _ _ hp => wants rfl (hp 17 _ rfl rfl))
    · intro a w' H' hw hp ho
      clear hw hp ho
      go_simp
      rfl
    try simp only [List.nil_append, List.cons_append]
    apply agl_val (hfl := rfl) (hg := fun _ _ _ hp => wants rfl (hp 17 _ rfl rfl))
    · intro a w' H' hw hp ho
      have e50 := tget (t := 50) (hp 20 _ rfl rfl)
      have e51 := tget (t := 51) (hp 21 _ rfl rfl)
      clear hw hp ho
      go_simp
      try simp (disch := omega) only [IntWalk.i64_in, IntWalk.u8_in, IntWalk.u32_in, IntWalk.rem_in]
      rfl
    apply agl_val (hfl := rfl) (hg := fun _ _ _ _ => wanted_none rfl)
    · intro a w' H' hw hp ho
      have e47 := tget (t := 47) (hp 17 _ rfl rfl)
      have e52 := tget (t := 52) (hp 22 _ rfl rfl)
      clear hw hp ho
      go_simp
      rfl
    try simp only [List.nil_append, List.cons_append]
    apply agl_val (hfl := rfl) (hg := fun _ _ _ _ => wanted_none rfl)
    · intro a w' H' hw hp ho
      have e53 := tget (t := 53) (hp 23 _ rfl rfl)
      clear hw hp ho
      go_simp
      rfl
    apply agl_val (hfl := rfl) (hg := fun _ _ _ hp => wants rfl (hp 24 _ rfl rfl))
    · intro a w' H' hw hp ho
      have e9 := oget (t := 9) ho rfl
      have r_hbm := (hbm.grow hw).cell
      have r_hbz := (hbz.grow hw).cell
      have r_hbn := (hbn.grow hw).cell
      clear hw hp ho
      go_simp
      rfl
    try simp only [List.nil_append, List.cons_append]
    apply agl_val (hfl := rfl) (hg := fun _ _ _ hp => wants rfl (hp 24 _ rfl rfl))
    · intro a w' H' hw hp ho
      have e2 := oget (t := 2) ho rfl
      clear hw hp ho
      go_simp
      rfl
    apply agl_val (hfl := rfl) (hg := fun _ _ _ hp => wants rfl (hp 24 _ rfl rfl))
    · intro a w' H' hw hp ho
      have e2 := oget (t := 2) ho rfl
      clear hw hp ho
      go_simp
      rfl
    try simp only [List.nil_append, List.cons_append]
    apply agl_callv (hfl := rfl) (hg := fun _ _ _ hp => wants rfl (hp 24 _ rfl rfl))
    · intro a w' H' hw hp ho
      have e55 := tget (t := 55) (hp 25 _ rfl rfl)
      have e56 := tget (t := 56) (hp 26 _ rfl rfl)
      have e57 := tget (t := 57) (hp 27 _ rfl rfl)
      apply Exists.intro
      apply And.intro
      · go_simp; first | rfl | exact ⟨rfl, rfl⟩
      · exact (choose_zero i i ▸ hChoose_ret ⟨none, 0, 0⟩ i i w' (by simp) i1 : RetV Try.prog 14 #[.agg #[.slice none 0 0], .int .i64 i, .int .i64 i] w' (.int .i64 (-1)))
    apply agl_val (hfl := rfl) (hg := fun _ _ _ hp => wants rfl (hp 24 _ rfl rfl))
    · intro a w' H' hw hp ho
      have e58 := tget (t := 58) (hp 28 _ rfl rfl)
      clear hw hp ho
      go_simp
      try simp (disch := omega) only [IntWalk.i64_in, IntWalk.u8_in, IntWalk.u32_in, IntWalk.rem_in]
      rfl
    try simp only [List.nil_append, List.cons_append]
    apply agl_val (hfl := rfl) (hg := fun _ _ _ _ => wanted_none rfl)
    · intro a w' H' hw hp ho
      have e54 := tget (t := 54) (hp 24 _ rfl rfl)
      have e59 := tget (t := 59) (hp 29 _ rfl rfl)
      clear hw hp ho
      go_simp
      rfl
    apply agl_val (hfl := rfl) (hg := fun _ _ _ _ => wanted_none rfl)
    · intro a w' H' hw hp ho
      have e60 := tget (t := 60) (hp 30 _ rfl rfl)
      clear hw hp ho
      go_simp
      rfl
    try simp only [List.nil_append, List.cons_append]
    apply agl_val (hfl := rfl) (hg := fun _ _ _ hp => wants rfl (hp 31 _ rfl rfl))
    · intro a w' H' hw hp ho
      have e9 := oget (t := 9) ho rfl
      have r_hbm := (hbm.grow hw).cell
      have r_hbz := (hbz.grow hw).cell
      have r_hbn := (hbn.grow hw).cell
      clear hw hp ho
      go_simp
      rfl
    apply agl_val (hfl := rfl) (hg := fun _ _ _ hp => wants rfl (hp 31 _ rfl rfl))
    · intro a w' H' hw hp ho
      clear hw hp ho
      go_simp
      rfl
    try simp only [List.nil_append, List.cons_append]
    apply agl_call (hfl := rfl) (hg := fun _ _ _ hp => wants rfl (hp 31 _ rfl rfl))
    · intro a w' H' hw hp ho
      have e63 := tget (t := 63) (hp 33 _ rfl rfl)
      apply Exists.intro
      apply And.intro
      · go_simp; first | rfl | exact ⟨rfl, rfl⟩
      · exact l3make_ret H' ⟨0, 0, 0, 3, 0, 0⟩ w' hw.sub (by decide) (by decide) (by decide) (by decide)
    · exact fun _ _ _ l h => h.le l
    apply agl_call (hfl := rfl) (hg := fun _ _ _ hp => wants rfl (hp 31 _ rfl rfl))
    · intro a w' H' hw hp ho
      have e62 := tget (t := 62) (hp 32 _ rfl rfl)
      obtain ⟨x34, e64, hx34⟩ := hp 34 _ rfl rfl
      replace e64 := tget (t := 64) e64
      apply Exists.intro
      apply And.intro
      · go_simp; first | rfl | exact ⟨rfl, rfl⟩
      · exact hAdd_ret H' ⟨none, 0, 0⟩ [] (OneV.msg ⟨0, 0, 0, 3, 0, 0⟩) x34 w' hw.sub (HistR.zero _) hx34 (by simp)
    · exact fun _ _ _ g h => HistR.le h g
    try simp only [List.nil_append, List.cons_append]
    apply agl_callv (hfl := rfl) (hg := fun _ _ _ hp => wants rfl (hp 31 _ rfl rfl))
    · intro a w' H' hw hp ho
      obtain ⟨x35, e65, hx35⟩ := hp 35 _ rfl rfl
      replace e65 := tget (t := 65) e65
      apply Exists.intro
      apply And.intro
      · go_simp; first | rfl | exact ⟨rfl, rfl⟩
      · exact hLen_of x35 1 w' (by have := hx35.len; simp at this; omega)
    apply agl_val (hfl := rfl) (hg := fun _ _ _ hp => wants rfl (hp 31 _ rfl rfl))
    · intro a w' H' hw hp ho
      have e66 := tget (t := 66) (hp 36 _ rfl rfl)
      clear hw hp ho
      go_simp
      try simp (disch := omega) only [IntWalk.i64_in, IntWalk.u8_in, IntWalk.u32_in, IntWalk.rem_in]
      rfl
    try simp only [List.nil_append, List.cons_append]
    apply agl_val (hfl := rfl) (hg := fun _ _ _ _ => wanted_none rfl)
    · intro a w' H' hw hp ho
      have e61 := tget (t := 61) (hp 31 _ rfl rfl)
      have e67 := tget (t := 67) (hp 37 _ rfl rfl)
      clear hw hp ho
      go_simp
      rfl
    refine agl_nil fun W Hf hgr => ?_
    simp only [List.nil_append, List.cons_append, List.take_succ_cons, List.take_zero]
    refine FinL_eq ?_
    refine FinL_eq ?_
    refine FinL_eq ?_
    refine FinL_eq ?_
    refine FinL_eq ?_
    refine FinL_eq ?_
    refine FinL_eq ?_
    refine FinL_eq ?_
    refine FinL_eq ?_
    refine FinL_eq ?_
    refine FinL_eq ?_
    refine FinL_eq ?_
    refine FinL_eq ?_
    refine FinL_eq ?_
    refine FinL_eq ?_
    refine FinL_eq ?_
    refine FinL_eq ?_
    refine FinL_eq ?_
    refine FinL_eq ?_
    refine FinL_ex fun x19 hx19 => ?_
    refine FinL_eq ?_
    refine FinL_eq ?_
    refine FinL_eq ?_
    refine FinL_eq ?_
    refine FinL_eq ?_
    refine FinL_eq ?_
    refine FinL_eq ?_
    refine FinL_eq ?_
    refine FinL_eq ?_
    refine FinL_eq ?_
    refine FinL_eq ?_
    refine FinL_eq ?_
    refine FinL_eq ?_
    refine FinL_eq ?_
    refine FinL_ex fun x34 hx34 => ?_
    refine FinL_ex fun x35 hx35 => ?_
    refine FinL_eq ?_
    refine FinL_eq ?_
    refine FinL_eq ?_
    refine FinL_nil ?_
    replace hbm := hbm.grow hgr
    replace hbz := hbz.grow hgr
    replace hbn := hbn.grow hgr
    simp only [List.drop_succ_cons, List.drop_zero, Act.put, List.setIfInBounds_toArray, List.set_cons_succ, List.set_cons_zero]
    replace hb5 := hb5.trans (hgr.below.mono hz5)
    have hz6 := hb5.size
    rcases hcase with ⟨rfl, c1, c2⟩ | ⟨rfl, rfl, hc⟩
    · go_wp2_with fail
      refine RetV.use (l3awake_ret _) fun w7 hb7 => ?_
      go_wp2
      go_ret
      exact retv_mk (hb5.trans (hb7.mono hz6))
    · simp only [zeroMsg] at hbm ⊢
      rcases hc with hc | hc
      all_goals
        go_wp2_with fail
        refine RetV.use (l3awake_ret _) fun w7 hb7 => ?_
        replace hbm := hbm.below hb7 hbm.lt
        have hc9 := hbm.cell
        go_wp2
        go_ret
        exact retv_mk (hb5.trans (hb7.mono hz6))
  · go_enter Try.func6, Try.ntmps6
    go_wp2_with (go_at_call 12; refine RetV.use (l3awake_ret _) fun w1 hb1 => ?_)
    go_ret
    exact retv_mk (((Below.refl _ _).alloc (Nat.le_refl _) _).trans (hb1.mono (by simp)))

set_option maxRecDepth 100000 in
theorem historyOutside_lifted (os : Os) (started : os.Started) (H : Type) (enc : TypeId × Value → H) :
    ReturnsInHanded {} Try.checked os 6 .any (Rows.historyOutsideSpec.pre6 enc Try.prog Try.f6 Rows.historyOutsideRow.domain false) (Rows.historyOutsideSpec.post enc Try.prog Try.f6 false true false false) := by
  refine lifted_of (C := Try.checked) own started (by kernel_rfl) Try.func6
    (ChangeSpec.witness6 (enc := enc) (C := Try.checked) false ⟨#[], #[.agg #[.int .i64 0, .int .u32 0, .int .u32 0], .slice Option.none 0 0, .int .i64 0], []⟩ 8 (by kernel_rfl) (by kernel_rfl) (by kernel_rfl) (by kernel_rfl))
    laidOut (by kernel_rfl) (tb := 4) (by kernel_rfl) Try.underlying4 rfl (fun ds h => match ds, h with | [_, _, _], _ => ⟨rfl, rfl, rfl⟩) ?_
  intro W base args ds p hval0 hA0
  have hval : ∀ (j : Nat) t v, Try.f6.params[j]? = some t → args[j]? = some v → Value.okWide Try.prog W .any base t v := hval0
  have hA : DataW.TrodAll enc Try.prog W 0 (fun _ => true) true Try.f6.params.toList args.toList ds p := hA0
  rw [Try.params6] at hA hval
  obtain ⟨v0, v1, v2, d0, d1, d2, p0, p1, p2, rfl, rfl, rfl, a0, a1, a2⟩ := trodAll_three hA
  obtain ⟨cs, rfl, hF⟩ := structOpen (m := 4) (ks := [.int .i64, .int .u32, .int .u32]) Try.underlying30 (by kernel_rfl) (hval 0 _ v0 rfl rfl) a0
  obtain ⟨a, _, rfl, _, _, hF⟩ := hF.int
  obtain ⟨b, _, rfl, _, _, hF⟩ := hF.int
  obtain ⟨c, _, rfl, _, _, hF⟩ := hF.int
  cases hF.nil
  obtain ⟨s, l, rfl, hsl, hc⟩ := sliceOpen (R := OneR) (m := 4) (ks := oneK) Try.underlying22 (by kernel_rfl) (by kernel_rfl) oneR_of (hval 1 _ v1 rfl rfl) a1
  obtain ⟨x1, rfl, rfl, rfl, w1⟩ := open_int Try.underlying3 (hval 2 _ v2 rfl rfl) a2
  exact historyOutside_ret (allHp W) a b c s l x1 W (allSub W) hsl (by simp only [maxLen] at hc; omega) (of_decide_eq_true (Bool.and_eq_true _ _ |>.mp w1).1) (of_decide_eq_true (Bool.and_eq_true _ _ |>.mp w1).2)

theorem historyOutside_holds : Rows.HistoryOutsideSaid :=
  OpenClaim.holds_of_wide 6 Try.f6 rfl rfl rfl rfl rfl rfl rfl ⟨rfl, rfl, rfl, rfl, rfl⟩ rfl rfl rfl rfl rfl (by kernel_rfl) Try.func6 (by kernel_rfl)
    (of_decide_eq_true (by kernel_rfl)) (by unfold Func.isWrapper; first | (rw [if_pos (by decide +kernel)]; kernel_rfl) | (rw [if_neg (by decide +kernel)]; exact ⟨rfl, rfl⟩))
    (fun os started H enc _ => historyOutside_lifted os started H enc)
end Go.Proofs.Ytlbhfpcbbembgaa
