/-
  HistoryShifts returns true for every input: after one more message has been added, choice c+1 selects the message that choice c selected before, and choice 0 selects the new message.
  Conditions: none.
-/
import Derived.Test.YtlbhfpcbbembgaaHistReaches
namespace Go.Proofs.Ytlbhfpcbbembgaa
open Go.ChangeShapes Go.WideShapes Go.ChangeAt Go.RowKit

def ShiftRel (w : World) (hb nb : Nat) (s s' : SlV) (m : Int) (i : Value) (wr : World) : Prop :=
  ∃ c : Int, 0 ≤ c ∧ c ≤ m ∧ i = .int .i64 c ∧ Below w.heap.size w wr ∧ Box wr hb #[.slice s.a s.n s.c] 26 ∧ Box wr nb #[.slice s'.a s'.n s'.c] 26

set_option maxRecDepth 100000 in
set_option maxHeartbeats 1000000 in
theorem historyShifts_ret (H : Hp) (s : SlV) (l : List OneV) (f : Int) (x : OneV) (w : World) (hs : Sub H w) (hl : SlR 6 OneR H s.a s.n s.c l) (f0 : 0 ≤ f) (f1 : f ≤ 255)
    (v1 : 0 ≤ x.at') (v2 : x.at' ≤ 255) (v3 : 0 ≤ x.kn) (v4 : x.kn ≤ 255) (hn : s.c ≤ 9223372036854775807) :
    RetV Try.prog 5 #[.slice s.a s.n s.c, .int .u8 f, .agg #[.int .i64 x.val, .int .u32 x.ver, .int .u32 x.ref, .int .i64 x.th, .int .u8 x.at', .int .u8 x.kn]] w (.bool true) := by
  have hcap := hl.cap
  unfold RetV
  by_cases h100 : s.n ≤ 100
  · go_enter Try.func5, Try.ntmps5
    go_wp2_with fail
    refine Ret.use (made_ret H 0 0 0 s l _ (hs.alloc _) hl h100) fun s1 w2 H2 hg2 hh2 => ?_
    have hs1n : s1.n = s.n + 1 := by have := hh2.len; have := hl.len; simp at *; omega
    have hs1b : s1.n ≤ 1000 := by omega
    have hs1c : s1.n ≤ 1000000 := by omega
    have hpos : 0 < s1.n := by omega
    have hlen1 := hh2.len
    obtain ⟨K, hK⟩ : ∃ K, K = f % (s1.n : Int) := ⟨_, rfl⟩
    have hK0 : 0 ≤ K := by rw [hK]; exact Int.emod_nonneg _ (by omega)
    have hK1 : K < s1.n := by rw [hK]; exact Int.emod_lt_of_pos _ (by omega)
    have hKt : f.tmod (s1.n : Int) = K := by rw [hK]; exact Int.tmod_eq_emod_of_nonneg f0
    clear hK hs1n
    have hbX : Box w2 w.heap.size _ _ := (hg2.below.block _ (by simp)).trans (heap_at _ _ rfl)
    have hbb : Below w.heap.size w w2 := ((Below.refl _ _).alloc (Nat.le_refl _) _).trans (hg2.below.mono (by simp))
    go_wp2_with fail
    refine wp_abs1 hg2.sub fun W0 hbh hg0 hz => ?_
    replace hbX := hbX.grow hg0
    replace hbb := hbb.trans (hg0.below.mono hbb.size)
    have hbXl := hbX.lt
    have hbhl := hbh.lt
    have hle0 := hg0.le hg2.sub
    refine wp_region_ag 5 [] H2 (by kernel_rfl) (by kernel_rfl) (by kernel_rfl) (fun _ _ _ _ _ h => h) hg0.sub ?_
    simp only [List.take_succ_cons, List.take_zero]
    apply agl_val (hfl := rfl) (hg := fun _ _ _ _ => wanted_none rfl)
    · intro a w' H' hw hp ho
      have e7 := oget (t := 7) ho rfl
      have r_hbX := (hbX.grow hw).cell
      have r_hbh := (hbh.grow hw).cell
      clear hw hp ho
      go_simp
      rfl
    apply agl_val (hfl := rfl) (hg := fun _ _ _ _ => wanted_none rfl)
    · intro a w' H' hw hp ho
      have e5 := oget (t := 5) ho rfl
      have r_hbX := (hbX.grow hw).cell
      have r_hbh := (hbh.grow hw).cell
      clear hw hp ho
      go_simp
      rfl
    try simp only [List.nil_append, List.cons_append]
    apply agl_call (hfl := rfl) (hg := fun _ _ _ _ => wanted_none rfl)
    · intro a w' H' hw hp ho
      have e19 := tget (t := 19) (hp 1 _ rfl rfl)
      apply Exists.intro
      apply And.intro
      · go_simp; first | rfl | exact ⟨rfl, rfl⟩
      · exact l3make_ret H' x w' hw.sub v1 v2 v3 v4
    · exact fun _ _ _ l h => h.le l
    apply agl_call (hfl := rfl) (hg := fun _ _ _ _ => wanted_none rfl)
    · intro a w' H' hw hp ho
      have e18 := tget (t := 18) (hp 0 _ rfl rfl)
      obtain ⟨x2, e20, hx2⟩ := hp 2 _ rfl rfl
      replace e20 := tget (t := 20) e20
      apply Exists.intro
      apply And.intro
      · go_simp; first | rfl | exact ⟨rfl, rfl⟩
      · exact hAdd_ret H' s1 _ x.msg x2 w' hw.sub (hh2.le (hw.le hg0.sub)) hx2 hs1c
    · exact fun _ _ _ g h => HistR.le h g
    try simp only [List.nil_append, List.cons_append]
    apply agl_alloc (hfl := rfl) (hg := fun _ _ _ _ => wanted_none rfl)
    · intro a w' H' hw hp ho
      clear hw hp ho
      go_simp
      rfl
    refine agl_nil fun W Hf hgr => ?_
    simp only [List.nil_append, List.cons_append, List.take_succ_cons, List.take_zero]
    refine FinL_eq ?_
    refine FinL_eq ?_
    refine FinL_ex fun x2 hx2 => ?_
    refine FinL_ex fun x3 hx3 => ?_
    refine FinL_var fun b4 hB4 hN4 hv4 => ?_
    refine FinL_nil ?_
    replace hbX := hbX.grow hgr
    replace hbh := hbh.grow hgr
    simp only [List.drop_succ_cons, List.drop_zero, Act.put, List.setIfInBounds_toArray, List.set_cons_succ, List.set_cons_zero]
    have hb4l : b4 < W.heap.size := (Array.getElem?_eq_some_iff.1 hv4).1
    have hne : ∀ k, k < W0.heap.size → k ≠ b4 := by omega
    have hn3 : x3.n = s1.n + 1 := by have := hx3.len; simp at this hlen1; omega
    have hc3 : x3.n ≤ 1000000 := by omega
    have hn3' : (x3.n : Int) = s1.n + 1 := by omega
    refine wpList_store_box (val := .agg #[_]) rfl _ _ _ rfl _ _ _ rfl rfl hv4 (by kernel_rfl) rfl (by simp [Value.cells, Value.oneCell']) fun w4 hp4 => ?_
    have hbN := hp4.box
    replace hbh := hbh.put hp4 (hne _ hbhl)
    replace hbb : Below w.heap.size w w4 := hbb.trans ((hgr.below.mono (by have := hbb.size; omega)).trans ⟨hp4.os, hp4.tape, hp4.output, by rw [hp4.size]; exact Nat.le_refl _, fun k hk => hp4.same k (by have := hbb.size; omega)⟩)
    have hzz := hbb.size
    have hNx := hbN.cell
    have hHx := hbh.cell
    clear hn3 hv4 hbX hbXl hx3 hx2 hlen1 hh2 hle0 hgr hp4 hg0 hz hg2
    obtain ⟨N3, hN3⟩ : ∃ N3 : Nat, N3 = x3.n := ⟨_, rfl⟩
    have HN := Lib.hid hn3'
    clear hn3' hN3 N3
    go_wp2_with (go_at_call 16; refine RetV.use (hLen_ret s1 _) fun w3 hb3 => ?_; replace hbh := hbh.below hb3 hbh.lt; replace hbN := hbN.below hb3 hbN.lt; have hc5 := hbh.cell; have hc6 := hbN.cell; replace hbb := hbb.trans (hb3.mono hzz); replace hzz := hbb.size)
    have hb0 : 0 ≤ (s1.n : Int) - K := by omega
    go_loopw [34] (fun i wr => ShiftRel w w2.heap.size b4 s1 x3 ((s1.n : Int) - K) i wr) (fun i _ => ((s1.n : Int) - K - intOf i).toNat)
    case atStart => exact ⟨0, Int.le_refl 0, hb0, rfl, hbb, hbh, hbN⟩
    case round =>
      clear hbh hbN hbb hzz
      obtain ⟨c, hc0, hcm, rfl, hbb, hbh, hbN⟩ := hrel
      have hzz := hbb.size
      have hc8 := hbh.cell
      have hc9 := hbN.cell
      by_cases hlt : c < (s1.n : Int) - K
      · have q1 : chooseF s1.n K c = (s1.n : Int) - 1 - c := choose_back hK0 hK1 hc0 hlt (.inl rfl)
        have q2 : chooseF x3.n K (c + 1) = (s1.n : Int) - 1 - c := by
          have := HN.out
          rw [choose_back (n := x3.n) hK0 (by omega) (by omega) (by omega) (.inl rfl), this]; omega
        go_wp2_with fail
        refine wp_region_ag 10 [] noHp (by kernel_rfl) (by kernel_rfl) (by kernel_rfl) (fun _ _ _ _ _ h => h) (noSub _) ?_
        simp only [List.take_succ_cons, List.take_zero]
        apply agl_val (hfl := rfl) (hg := fun _ _ _ _ => wanted_none rfl)
        · intro a w' H' hw hp ho
          have e8 := oget (t := 8) ho rfl
          have r_hbh := (hbh.grow hw).cell
          have r_hbN := (hbN.grow hw).cell
          clear hw hp ho
          go_simp
          rfl
        apply agl_val (hfl := rfl) (hg := fun _ _ _ _ => wanted_none rfl)
        · intro a w' H' hw hp ho
          have e9 := oget (t := 9) ho rfl
          clear hw hp ho
          go_simp
          rfl
        try simp only [List.nil_append, List.cons_append]
        apply agl_val (hfl := rfl) (hg := fun _ _ _ _ => wanted_none rfl)
        · intro a w' H' hw hp ho
          have e10 := oget (t := 10) ho rfl
          clear hw hp ho
          go_simp
          rfl
        apply agl_val (hfl := rfl) (hg := fun _ _ _ _ => wanted_none rfl)
        · intro a w' H' hw hp ho
          have e39 := tget (t := 39) (hp 2 _ rfl rfl)
          clear hw hp ho
          go_simp
          try simp (disch := omega) only [IntWalk.i64_in, IntWalk.u8_in, IntWalk.u32_in, IntWalk.rem_in]
          rfl
        try simp only [List.nil_append, List.cons_append]
        apply agl_callv (hfl := rfl) (hg := fun _ _ _ _ => wanted_none rfl)
        · intro a w' H' hw hp ho
          have e37 := tget (t := 37) (hp 0 _ rfl rfl)
          have e38 := tget (t := 38) (hp 1 _ rfl rfl)
          have e40 := tget (t := 40) (hp 3 _ rfl rfl)
          apply Exists.intro
          apply And.intro
          · go_simp; first | rfl | exact ⟨rfl, rfl⟩
          · exact hChoose_ret x3 _ _ w' hc3 (by omega)
        apply agl_val (hfl := rfl) (hg := fun _ _ _ _ => wanted_none rfl)
        · intro a w' H' hw hp ho
          have e7 := oget (t := 7) ho rfl
          have r_hbh := (hbh.grow hw).cell
          have r_hbN := (hbN.grow hw).cell
          clear hw hp ho
          go_simp
          rfl
        try simp only [List.nil_append, List.cons_append]
        apply agl_val (hfl := rfl) (hg := fun _ _ _ _ => wanted_none rfl)
        · intro a w' H' hw hp ho
          have e9 := oget (t := 9) ho rfl
          clear hw hp ho
          go_simp
          rfl
        apply agl_val (hfl := rfl) (hg := fun _ _ _ _ => wanted_none rfl)
        · intro a w' H' hw hp ho
          have e10 := oget (t := 10) ho rfl
          clear hw hp ho
          go_simp
          rfl
        try simp only [List.nil_append, List.cons_append]
        apply agl_callv (hfl := rfl) (hg := fun _ _ _ _ => wanted_none rfl)
        · intro a w' H' hw hp ho
          have e42 := tget (t := 42) (hp 5 _ rfl rfl)
          have e43 := tget (t := 43) (hp 6 _ rfl rfl)
          have e44 := tget (t := 44) (hp 7 _ rfl rfl)
          apply Exists.intro
          apply And.intro
          · go_simp; first | rfl | exact ⟨rfl, rfl⟩
          · exact hChoose_ret s1 _ _ w' hs1c (by omega)
        apply agl_val (hfl := rfl) (hg := fun _ _ _ _ => wanted_none rfl)
        · intro a w' H' hw hp ho
          have e41 := tget (t := 41) (hp 4 _ rfl rfl)
          have e45 := tget (t := 45) (hp 8 _ rfl rfl)
          clear hw hp ho
          go_simp
          try simp (disch := omega) only [IntWalk.i64_in, IntWalk.u8_in, IntWalk.u32_in, IntWalk.rem_in]
          rfl
        refine agl_nil fun W Hf hgr => ?_
        simp only [List.nil_append, List.cons_append, List.take_succ_cons, List.take_zero]
        refine FinL_eq ?_
        refine FinL_eq ?_
        refine FinL_eq ?_
        refine FinL_eq ?_
        refine FinL_eq ?_
        refine FinL_eq ?_
        refine FinL_eq ?_
        refine FinL_eq ?_
        refine FinL_eq ?_
        refine FinL_eq ?_
        refine FinL_nil ?_
        replace hbh := hbh.grow hgr
        replace hbN := hbN.grow hgr
        simp only [List.drop_succ_cons, List.drop_zero, Act.put, List.setIfInBounds_toArray, List.set_cons_succ, List.set_cons_zero]
        replace hbb := hbb.trans (hgr.below.mono hzz)
        go_wp2
        go_roundw
        case rel => exact ⟨c + 1, by omega, by omega, by go_num, hbb, hbh, hbN⟩
        case measure => simp [intOf]; omega
      · have q4 : chooseF x3.n K 0 = (s1.n : Int) := by
          have := HN.out
          rw [choose_neg (by omega) (Int.le_refl 0), this]; omega
        go_wp2_with fail
        refine wp_region_ag 9 [] noHp (by kernel_rfl) (by kernel_rfl) (by kernel_rfl) (fun _ _ _ _ _ h => h) (noSub _) ?_
        simp only [List.take_succ_cons, List.take_zero]
        apply agl_callv (hfl := rfl) (hg := fun _ _ _ _ => wanted_none rfl)
        · intro a w' H' hw hp ho
          apply Exists.intro
          apply And.intro
          · go_simp; first | rfl | exact ⟨rfl, rfl⟩
          · exact l3awake_ret w'
        apply agl_val (hfl := rfl) (hg := fun _ _ _ _ => wanted_none rfl)
        · intro a w' H' hw hp ho
          have e48 := tget (t := 48) (hp 0 _ rfl rfl)
          clear hw hp ho
          go_simp
          rfl
        try simp only [List.nil_append, List.cons_append]
        apply agl_val (hfl := rfl) (hg := fun _ _ _ hp => wants rfl (hp 1 _ rfl rfl))
        · intro a w' H' hw hp ho
          have e8 := oget (t := 8) ho rfl
          have r_hbh := (hbh.grow hw).cell
          have r_hbN := (hbN.grow hw).cell
          clear hw hp ho
          go_simp
          rfl
        apply agl_val (hfl := rfl) (hg := fun _ _ _ hp => wants rfl (hp 1 _ rfl rfl))
        · intro a w' H' hw hp ho
          have e9 := oget (t := 9) ho rfl
          clear hw hp ho
          go_simp
          rfl
        try simp only [List.nil_append, List.cons_append]
        apply agl_callv (hfl := rfl) (hg := fun _ _ _ hp => wants rfl (hp 1 _ rfl rfl))
        · intro a w' H' hw hp ho
          have e50 := tget (t := 50) (hp 2 _ rfl rfl)
          have e51 := tget (t := 51) (hp 3 _ rfl rfl)
          apply Exists.intro
          apply And.intro
          · go_simp; first | rfl | exact ⟨rfl, rfl⟩
          · exact hChoose_ret x3 _ _ w' hc3 (by omega)
        apply agl_val (hfl := rfl) (hg := fun _ _ _ hp => wants rfl (hp 1 _ rfl rfl))
        · intro a w' H' hw hp ho
          have e7 := oget (t := 7) ho rfl
          have r_hbh := (hbh.grow hw).cell
          have r_hbN := (hbN.grow hw).cell
          clear hw hp ho
          go_simp
          rfl
        try simp only [List.nil_append, List.cons_append]
        apply agl_callv (hfl := rfl) (hg := fun _ _ _ hp => wants rfl (hp 1 _ rfl rfl))
        · intro a w' H' hw hp ho
          have e53 := tget (t := 53) (hp 5 _ rfl rfl)
          apply Exists.intro
          apply And.intro
          · go_simp; first | rfl | exact ⟨rfl, rfl⟩
          · exact hLen_ret s1 w'
        apply agl_val (hfl := rfl) (hg := fun _ _ _ hp => wants rfl (hp 1 _ rfl rfl))
        · intro a w' H' hw hp ho
          have e52 := tget (t := 52) (hp 4 _ rfl rfl)
          have e54 := tget (t := 54) (hp 6 _ rfl rfl)
          clear hw hp ho
          go_simp
          try simp (disch := omega) only [IntWalk.i64_in, IntWalk.u8_in, IntWalk.u32_in, IntWalk.rem_in]
          rfl
        try simp only [List.nil_append, List.cons_append]
        apply agl_val (hfl := rfl) (hg := fun _ _ _ _ => wanted_none rfl)
        · intro a w' H' hw hp ho
          have e49 := tget (t := 49) (hp 1 _ rfl rfl)
          have e55 := tget (t := 55) (hp 7 _ rfl rfl)
          clear hw hp ho
          go_simp
          rfl
        refine agl_nil fun W Hf hgr => ?_
        simp only [List.nil_append, List.cons_append, List.take_succ_cons, List.take_zero]
        refine FinL_eq ?_
        refine FinL_eq ?_
        refine FinL_eq ?_
        refine FinL_eq ?_
        refine FinL_eq ?_
        refine FinL_eq ?_
        refine FinL_eq ?_
        refine FinL_eq ?_
        refine FinL_eq ?_
        refine FinL_nil ?_
        replace hbh := hbh.grow hgr
        replace hbN := hbN.grow hgr
        simp only [List.drop_succ_cons, List.drop_zero, Act.put, List.setIfInBounds_toArray, List.set_cons_succ, List.set_cons_zero]
        go_wp2
        go_ret
        exact retv_mk (hbb.trans (hgr.below.mono hzz))
  · go_enter Try.func5, Try.ntmps5
    go_wp2_with (go_at_call 12; refine RetV.use (l3awake_ret _) fun w1 hb1 => ?_)
    go_ret
    exact retv_mk (((Below.refl _ _).alloc (Nat.le_refl _) _).trans (hb1.mono (by simp)))

set_option maxRecDepth 100000 in
theorem historyShifts_lifted (os : Os) (started : os.Started) (H : Type) (enc : TypeId × Value → H) :
    ReturnsInHanded {} Try.checked os 5 .any (Rows.historyShiftsSpec.pre6 enc Try.prog Try.f5 Rows.historyShiftsRow.domain false) (Rows.historyShiftsSpec.post enc Try.prog Try.f5 false true false false) := by
  refine lifted_of (C := Try.checked) own started (by kernel_rfl) Try.func5
    (ChangeSpec.witness6 (enc := enc) (C := Try.checked) false ⟨#[], #[.slice Option.none 0 0, .int .u8 0, .agg #[.int .i64 0, .int .u32 0, .int .u32 0, .int .i64 0, .int .u8 0, .int .u8 0]], []⟩ 8 (by kernel_rfl) (by kernel_rfl) (by kernel_rfl) (by kernel_rfl))
    laidOut (by kernel_rfl) (tb := 4) (by kernel_rfl) Try.underlying4 rfl (fun ds h => match ds, h with | [_, _, _], _ => ⟨rfl, rfl, rfl⟩) ?_
  intro W base args ds p hval0 hA0
  have hval : ∀ (j : Nat) t v, Try.f5.params[j]? = some t → args[j]? = some v → Value.okWide Try.prog W .any base t v := hval0
  have hA : DataW.TrodAll enc Try.prog W 0 (fun _ => true) true Try.f5.params.toList args.toList ds p := hA0
  rw [Try.params5] at hA hval
  obtain ⟨v0, v1, v2, d0, d1, d2, p0, p1, p2, rfl, rfl, rfl, a0, a1, a2⟩ := trodAll_three hA
  obtain ⟨s, l, rfl, hsl, hc⟩ := sliceOpen (R := OneR) (m := 4) (ks := oneK) Try.underlying22 (by kernel_rfl) (by kernel_rfl) oneR_of (hval 0 _ v0 rfl rfl) a0
  obtain ⟨x1, rfl, rfl, rfl, w1⟩ := open_int Try.underlying5 (hval 1 _ v1 rfl rfl) a1
  obtain ⟨cs, rfl, hF⟩ := structOpen (m := 4) (ks := oneK) Try.underlying37 (by kernel_rfl) (hval 2 _ v2 rfl rfl) a2
  obtain ⟨x, rfl, l1, u1, l2, u2⟩ := oneR_of (W := W) cs hF
  exact historyShifts_ret (allHp W) s l x1 x W (allSub W) hsl (of_decide_eq_true (Bool.and_eq_true _ _ |>.mp w1).1) (of_decide_eq_true (Bool.and_eq_true _ _ |>.mp w1).2) l1 u1 l2 u2 (by simp only [maxLen] at hc; omega)

theorem historyShifts_holds : Rows.HistoryShiftsSaid :=
  OpenClaim.holds_of_wide 5 Try.f5 rfl rfl rfl rfl rfl rfl rfl ⟨rfl, rfl, rfl, rfl, rfl⟩ rfl rfl rfl rfl rfl (by kernel_rfl) Try.func5 (by kernel_rfl)
    (of_decide_eq_true (by kernel_rfl)) (by unfold Func.isWrapper; first | (rw [if_pos (by decide +kernel)]; kernel_rfl) | (rw [if_neg (by decide +kernel)]; exact ⟨rfl, rfl⟩))
    (fun os started H enc _ => historyShifts_lifted os started H enc)
end Go.Proofs.Ytlbhfpcbbembgaa
