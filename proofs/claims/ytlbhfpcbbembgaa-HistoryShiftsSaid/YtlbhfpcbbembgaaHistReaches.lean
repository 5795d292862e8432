/-
  HistoryReaches returns true for every input: each visible message is selected by exactly one choice, from the newest to the oldest, choices wrap around, and no invisible message is ever selected.
  Conditions: none.
-/
import Derived.Test.YtlbhfpcbbembgaaOne
namespace Go.Proofs.Ytlbhfpcbbembgaa
open Go.ChangeShapes Go.WideShapes Go.ChangeAt Go.RowKit

theorem choose_back {n : Nat} {k c m : Int} (h0 : 0 ≤ k) (hk : k < n) (h1 : 0 ≤ c) (h2 : c < (n : Int) - k) (hm : m = c ∨ m = c + ((n : Int) - k)) : chooseF n k m = (n : Int) - 1 - c := by
  unfold chooseF
  rw [if_neg (by omega)]
  have e : (n : Int) - 1 - max 0 (min k ((n : Int) - 1)) + 1 = (n : Int) - k := by omega
  have e2 : max m 0 = m := by omega
  rw [e, e2]
  rcases hm with rfl | rfl
  · rw [Int.emod_eq_of_lt h1 h2]
  · rw [Int.add_emod_right, Int.emod_eq_of_lt h1 h2]
theorem choose_ge {n : Nat} {k c : Int} (h0 : 0 ≤ k) (hk : k < n) : k ≤ chooseF n k c := by
  unfold chooseF
  rw [if_neg (by omega)]
  have e : (n : Int) - 1 - max 0 (min k ((n : Int) - 1)) + 1 = (n : Int) - k := by omega
  rw [e]
  have := Int.emod_lt_of_pos (max c 0) (b := (n : Int) - k) (by omega)
  omega
theorem choose_neg {n : Nat} {k c : Int} (hn : 0 < n) (h : c ≤ 0) : chooseF n k c = (n : Int) - 1 := (choose_top hn (.inl h)).symm

def ReachRel (w : World) (hb : Nat) (s : SlV) (m : Int) (i : Value) (wr : World) : Prop :=
  ∃ c : Int, 0 ≤ c ∧ c ≤ m ∧ i = .int .i64 c ∧ Below w.heap.size w wr ∧ Box wr hb #[.slice s.a s.n s.c] 26

set_option maxRecDepth 100000 in
set_option maxHeartbeats 3000000 in
theorem historyReaches_ret (H : Hp) (s : SlV) (l : List OneV) (f more : Int) (w : World) (hs : Sub H w) (hl : SlR 6 OneR H s.a s.n s.c l) (f0 : 0 ≤ f) (f1 : f ≤ 255) (m0 : 0 ≤ more) (m1 : more ≤ 255) (hn : s.c ≤ 9223372036854775807) :
    RetV Try.prog 4 #[.slice s.a s.n s.c, .int .u8 f, .int .u8 more] w (.bool true) := by
  have hcap := hl.cap
  unfold RetV
  by_cases h100 : s.n ≤ 100
  · go_enter Try.func4, Try.ntmps4
    go_wp2_with fail
    refine Ret.use (made_ret H 0 0 0 s l _ hs hl h100) fun s1 w2 H2 hg2 hh2 => ?_
    have hs1n : s1.n = s.n + 1 := by have := hh2.len; have := hl.len; simp at *; omega
    have hs1b : s1.n ≤ 1000 := by omega
    have hs1c : s1.n ≤ 1000000 := by omega
    have hpos : 0 < s1.n := by omega
    have hbx : Box (w2.alloc (.cells #[.slice s1.a s1.n s1.c] 26)) w2.heap.size #[.slice s1.a s1.n s1.c] 26 := heap_at _ _ rfl
    have hbb : Below w.heap.size w (w2.alloc (.cells #[.slice s1.a s1.n s1.c] 26)) := hg2.below.alloc (by have := hg2.below.size; simpa using this) _
    have hz := hbb.size
    obtain ⟨K, hK⟩ : ∃ K, K = f % (s1.n : Int) := ⟨_, rfl⟩
    have hK0 : 0 ≤ K := by rw [hK]; exact Int.emod_nonneg _ (by omega)
    have hK1 : K < s1.n := by rw [hK]; exact Int.emod_lt_of_pos _ (by omega)
    have hKt : f.tmod (s1.n : Int) = K := by rw [hK]; exact Int.tmod_eq_emod_of_nonneg f0
    clear hK hs1n
    go_wp2_with (go_at_call 16; refine RetV.use (hLen_ret s1 _) fun w3 hb3 => ?_; replace hbx := hbx.below hb3 hbx.lt; have hc3 := hbx.cell; replace hbb := hbb.trans (hb3.mono hz); replace hz := hbb.size)
    have hb0 : 0 ≤ (s1.n : Int) - K := by omega
    go_loopw [32] (fun i wr => ReachRel w w2.heap.size s1 ((s1.n : Int) - K) i wr) (fun i _ => ((s1.n : Int) - K - intOf i).toNat)
    case atStart => exact ⟨0, Int.le_refl 0, hb0, rfl, hbb, hbx⟩
    case round =>
      clear hbx hbb hz
      obtain ⟨c, hc0, hcm, rfl, hbb, hbx⟩ := hrel
      have hz := hbb.size
      have hcx := hbx.cell
      by_cases hlt : c < (s1.n : Int) - K
      · have q1 : chooseF s1.n K c = (s1.n : Int) - 1 - c := choose_back hK0 hK1 hc0 hlt (.inl rfl)
        have q2 : chooseF s1.n K (c + ((s1.n : Int) - K)) = (s1.n : Int) - 1 - c := choose_back hK0 hK1 hc0 hlt (.inr rfl)
        go_wp2_with (first
          | (go_at_call 16; refine RetV.use (hLen_ret s1 _) fun w3 hb3 => ?_; replace hbx := hbx.below hb3 hbx.lt; have hc3 := hbx.cell; replace hbb := hbb.trans (hb3.mono hz); replace hz := hbb.size)
          | (go_at_call 14; refine RetV.use (hChoose_ret s1 _ _ _ hs1c (by omega)) fun w3 hb3 => ?_; replace hbx := hbx.below hb3 hbx.lt; have hc4 := hbx.cell; replace hbb := hbb.trans (hb3.mono hz); replace hz := hbb.size))
        go_roundw
        case rel => exact ⟨c + 1, by omega, by omega, by go_num, hbb, hbx⟩
        case measure => simp [intOf]; omega
      · have hck : c = (s1.n : Int) - K := by omega
        clear hck
        go_wp2_with fail
        have q3 : K ≤ chooseF s1.n K more := choose_ge hK0 hK1
        have q4 : chooseF s1.n K (-more) = (s1.n : Int) - 1 := choose_neg hpos (by omega)
        refine wp_region_ag 22 [] noHp (by kernel_rfl) (by kernel_rfl) (by kernel_rfl) (fun _ _ _ _ _ h => h) (noSub _) ?_
        simp only [List.take_succ_cons, List.take_zero]
        apply agl_callv (hfl := rfl) (hg := fun _ _ _ _ => wanted_none rfl)
        · intro a w' H' hw hp ho
          apply Exists.intro
          apply And.intro
          · go_simp; first | rfl | exact ⟨rfl, rfl⟩
          · exact l3awake_ret w'
        apply agl_val (hfl := rfl) (hg := fun _ _ _ _ => wanted_none rfl)
        · intro a w' H' hw hp ho
          have e62 := tget (t := 62) (hp 0 _ rfl rfl)
          clear hw hp ho
          go_simp
          rfl
        try simp only [List.nil_append, List.cons_append]
        apply agl_val (hfl := rfl) (hg := fun _ _ _ hp => wants rfl (hp 1 _ rfl rfl))
        · intro a w' H' hw hp ho
          have e7 := oget (t := 7) ho rfl
          have r_hbx := (hbx.grow hw).cell
          clear hw hp ho
          go_simp
          rfl
        apply agl_val (hfl := rfl) (hg := fun _ _ _ hp => wants rfl (hp 1 _ rfl rfl))
        · intro a w' H' hw hp ho
          have e8 := oget (t := 8) ho rfl
          clear hw hp ho
          go_simp
          rfl
        try simp only [List.nil_append, List.cons_append]
        apply agl_val (hfl := rfl) (hg := fun _ _ _ hp => wants rfl (hp 1 _ rfl rfl))
        · intro a w' H' hw hp ho
          have e2 := oget (t := 2) ho rfl
          clear hw hp ho
          go_simp
          rfl
        apply agl_val (hfl := rfl) (hg := fun _ _ _ hp => wants rfl (hp 1 _ rfl rfl))
        · intro a w' H' hw hp ho
          have e66 := tget (t := 66) (hp 4 _ rfl rfl)
          clear hw hp ho
          go_simp
          try simp (disch := omega) only [IntWalk.i64_in, IntWalk.u8_in, IntWalk.u32_in, IntWalk.rem_in]
          rfl
        try simp only [List.nil_append, List.cons_append]
        apply agl_callv (hfl := rfl) (hg := fun _ _ _ hp => wants rfl (hp 1 _ rfl rfl))
        · intro a w' H' hw hp ho
          have e64 := tget (t := 64) (hp 2 _ rfl rfl)
          have e65 := tget (t := 65) (hp 3 _ rfl rfl)
          have e67 := tget (t := 67) (hp 5 _ rfl rfl)
          apply Exists.intro
          apply And.intro
          · go_simp; first | rfl | exact ⟨rfl, rfl⟩
          · exact hChoose_ret s1 _ _ w' hs1c (by omega)
        apply agl_val (hfl := rfl) (hg := fun _ _ _ hp => wants rfl (hp 1 _ rfl rfl))
        · intro a w' H' hw hp ho
          have e8 := oget (t := 8) ho rfl
          clear hw hp ho
          go_simp
          rfl
        try simp only [List.nil_append, List.cons_append]
        apply agl_val (hfl := rfl) (hg := fun _ _ _ hp => wants rfl (hp 1 _ rfl rfl))
        · intro a w' H' hw hp ho
          have e68 := tget (t := 68) (hp 6 _ rfl rfl)
          have e69 := tget (t := 69) (hp 7 _ rfl rfl)
          clear hw hp ho
          go_simp
          try simp (disch := omega) only [IntWalk.i64_in, IntWalk.u8_in, IntWalk.u32_in, IntWalk.rem_in]
          rfl
        apply agl_val (hfl := rfl) (hg := fun _ _ _ _ => wanted_none rfl)
        · intro a w' H' hw hp ho
          have e63 := tget (t := 63) (hp 1 _ rfl rfl)
          have e70 := tget (t := 70) (hp 8 _ rfl rfl)
          clear hw hp ho
          go_simp
          rfl
        try simp only [List.nil_append, List.cons_append]
        apply agl_val (hfl := rfl) (hg := fun _ _ _ _ => wanted_none rfl)
        · intro a w' H' hw hp ho
          have e71 := tget (t := 71) (hp 9 _ rfl rfl)
          clear hw hp ho
          go_simp
          rfl
        apply agl_val (hfl := rfl) (hg := fun _ _ _ hp => wants rfl (hp 10 _ rfl rfl))
        · intro a w' H' hw hp ho
          have e7 := oget (t := 7) ho rfl
          have r_hbx := (hbx.grow hw).cell
          clear hw hp ho
          go_simp
          rfl
        try simp only [List.nil_append, List.cons_append]
        apply agl_val (hfl := rfl) (hg := fun _ _ _ hp => wants rfl (hp 10 _ rfl rfl))
        · intro a w' H' hw hp ho
          have e8 := oget (t := 8) ho rfl
          clear hw hp ho
          go_simp
          rfl
        apply agl_val (hfl := rfl) (hg := fun _ _ _ hp => wants rfl (hp 10 _ rfl rfl))
        · intro a w' H' hw hp ho
          have e2 := oget (t := 2) ho rfl
          clear hw hp ho
          go_simp
          rfl
        try simp only [List.nil_append, List.cons_append]
        apply agl_val (hfl := rfl) (hg := fun _ _ _ hp => wants rfl (hp 10 _ rfl rfl))
        · intro a w' H' hw hp ho
          have e75 := tget (t := 75) (hp 13 _ rfl rfl)
          clear hw hp ho
          go_simp
          try simp (disch := omega) only [IntWalk.i64_in, IntWalk.u8_in, IntWalk.u32_in, IntWalk.rem_in]
          rfl
        apply agl_val (hfl := rfl) (hg := fun _ _ _ hp => wants rfl (hp 10 _ rfl rfl))
        · intro a w' H' hw hp ho
          have e76 := tget (t := 76) (hp 14 _ rfl rfl)
          clear hw hp ho
          go_simp
          try simp (disch := omega) only [IntWalk.i64_in, IntWalk.u8_in, IntWalk.u32_in, IntWalk.rem_in]
          rfl
        try simp only [List.nil_append, List.cons_append]
        apply agl_callv (hfl := rfl) (hg := fun _ _ _ hp => wants rfl (hp 10 _ rfl rfl))
        · intro a w' H' hw hp ho
          have e73 := tget (t := 73) (hp 11 _ rfl rfl)
          have e74 := tget (t := 74) (hp 12 _ rfl rfl)
          have e77 := tget (t := 77) (hp 15 _ rfl rfl)
          apply Exists.intro
          apply And.intro
          · go_simp; first | rfl | exact ⟨rfl, rfl⟩
          · exact hChoose_ret s1 _ _ w' hs1c (by omega)
        apply agl_val (hfl := rfl) (hg := fun _ _ _ hp => wants rfl (hp 10 _ rfl rfl))
        · intro a w' H' hw hp ho
          have e7 := oget (t := 7) ho rfl
          have r_hbx := (hbx.grow hw).cell
          clear hw hp ho
          go_simp
          rfl
        try simp only [List.nil_append, List.cons_append]
        apply agl_callv (hfl := rfl) (hg := fun _ _ _ hp => wants rfl (hp 10 _ rfl rfl))
        · intro a w' H' hw hp ho
          have e79 := tget (t := 79) (hp 17 _ rfl rfl)
          apply Exists.intro
          apply And.intro
          · go_simp; first | rfl | exact ⟨rfl, rfl⟩
          · exact hLen_ret s1 w'
        apply agl_val (hfl := rfl) (hg := fun _ _ _ hp => wants rfl (hp 10 _ rfl rfl))
        · intro a w' H' hw hp ho
          have e80 := tget (t := 80) (hp 18 _ rfl rfl)
          clear hw hp ho
          go_simp
          try simp (disch := omega) only [IntWalk.i64_in, IntWalk.u8_in, IntWalk.u32_in, IntWalk.rem_in]
          rfl
        try simp only [List.nil_append, List.cons_append]
        apply agl_val (hfl := rfl) (hg := fun _ _ _ hp => wants rfl (hp 10 _ rfl rfl))
        · intro a w' H' hw hp ho
          have e78 := tget (t := 78) (hp 16 _ rfl rfl)
          have e81 := tget (t := 81) (hp 19 _ rfl rfl)
          clear hw hp ho
          go_simp
          try simp (disch := omega) only [IntWalk.i64_in, IntWalk.u8_in, IntWalk.u32_in, IntWalk.rem_in]
          rfl
        apply agl_val (hfl := rfl) (hg := fun _ _ _ _ => wanted_none rfl)
        · intro a w' H' hw hp ho
          have e72 := tget (t := 72) (hp 10 _ rfl rfl)
          have e82 := tget (t := 82) (hp 20 _ rfl rfl)
          clear hw hp ho
          go_simp
          rfl
        refine agl_nil fun W Hf hgr => ?_
        simp only [List.nil_append, List.cons_append, List.take_succ_cons, List.take_zero]
        refine FinL_eq ?_
        refine FinL_eq ?_
        refine FinL_eq ?_
        refine FinL_eq ?_
        refine FinL_eq ?_
        refine FinL_eq ?_
        refine FinL_eq ?_
        refine FinL_eq ?_
        refine FinL_eq ?_
        refine FinL_eq ?_
        refine FinL_eq ?_
        refine FinL_eq ?_
        refine FinL_eq ?_
        refine FinL_eq ?_
        refine FinL_eq ?_
        refine FinL_eq ?_
        refine FinL_eq ?_
        refine FinL_eq ?_
        refine FinL_eq ?_
        refine FinL_eq ?_
        refine FinL_eq ?_
        refine FinL_eq ?_
        refine FinL_nil ?_
        replace hbx := hbx.grow hgr
        simp only [List.drop_succ_cons, List.drop_zero, Act.put, List.setIfInBounds_toArray, List.set_cons_succ, List.set_cons_zero]
        go_wp2
        go_ret
        exact retv_mk (hbb.trans (hgr.below.mono hz))
  · go_enter Try.func4, Try.ntmps4
    go_wp2_with (go_at_call 12; refine RetV.use (l3awake_ret _) fun w1 hb1 => ?_)
    go_ret
    exact retv_mk hb1

set_option maxRecDepth 100000 in
theorem historyReaches_lifted (os : Os) (started : os.Started) (H : Type) (enc : TypeId × Value → H) :
    ReturnsInHanded {} Try.checked os 4 .any (Rows.historyReachesSpec.pre6 enc Try.prog Try.f4 Rows.historyReachesRow.domain false) (Rows.historyReachesSpec.post enc Try.prog Try.f4 false true false false) := by
  refine lifted_of (C := Try.checked) own started (by kernel_rfl) Try.func4
    (ChangeSpec.witness6 (enc := enc) (C := Try.checked) false ⟨#[], #[.slice Option.none 0 0, .int .u8 0, .int .u8 0], []⟩ 8 (by kernel_rfl) (by kernel_rfl) (by kernel_rfl) (by kernel_rfl))
    laidOut (by kernel_rfl) (tb := 4) (by kernel_rfl) Try.underlying4 rfl (fun ds h => match ds, h with | [_, _, _], _ => ⟨rfl, rfl, rfl⟩) ?_
  intro W base args ds p hval0 hA0
  have hval : ∀ (j : Nat) t v, Try.f4.params[j]? = some t → args[j]? = some v → Value.okWide Try.prog W .any base t v := hval0
  have hA : DataW.TrodAll enc Try.prog W 0 (fun _ => true) true Try.f4.params.toList args.toList ds p := hA0
  rw [Try.params4] at hA hval
  obtain ⟨v0, v1, v2, d0, d1, d2, p0, p1, p2, rfl, rfl, rfl, a0, a1, a2⟩ := trodAll_three hA
  obtain ⟨s, l, rfl, hsl, hc⟩ := sliceOpen (R := OneR) (m := 4) (ks := oneK) Try.underlying22 (by kernel_rfl) (by kernel_rfl) oneR_of (hval 0 _ v0 rfl rfl) a0
  obtain ⟨x1, rfl, rfl, rfl, w1⟩ := open_int Try.underlying5 (hval 1 _ v1 rfl rfl) a1
  obtain ⟨x2, rfl, rfl, rfl, w2⟩ := open_int Try.underlying5 (hval 2 _ v2 rfl rfl) a2
  exact historyReaches_ret (allHp W) s l x1 x2 W (allSub W) hsl (of_decide_eq_true (Bool.and_eq_true _ _ |>.mp w1).1) (of_decide_eq_true (Bool.and_eq_true _ _ |>.mp w1).2) (of_decide_eq_true (Bool.and_eq_true _ _ |>.mp w2).1) (of_decide_eq_true (Bool.and_eq_true _ _ |>.mp w2).2) (by simp only [maxLen] at hc; omega)

theorem historyReaches_holds : Rows.HistoryReachesSaid :=
  OpenClaim.holds_of_wide 4 Try.f4 rfl rfl rfl rfl rfl rfl rfl ⟨rfl, rfl, rfl, rfl, rfl⟩ rfl rfl rfl rfl rfl (by kernel_rfl) Try.func4 (by kernel_rfl)
    (of_decide_eq_true (by kernel_rfl)) (by unfold Func.isWrapper; first | (rw [if_pos (by decide +kernel)]; kernel_rfl) | (rw [if_neg (by decide +kernel)]; exact ⟨rfl, rfl⟩))
    (fun os started H enc _ => historyReaches_lifted os started H enc)

end Go.Proofs.Ytlbhfpcbbembgaa
