/-
  MemoryCounts: the plain law and the walk.
-/
import Derived.Test.YtfcjkchpldfamaaK4n
import Derived.Test.YtfcjkchpldfamaaScMemoryCounts
namespace Go.Proofs.Ytfcjkchpldfamaa
set_option linter.unusedSimpArgs false
set_option linter.unusedVariables false
open Go.RowKit Go.Maps

structure CntOk (M : MemM) (p n : Int) (k : Nat) : Prop where
  ok : MemOk M k
  thr : M.views.length = 3
  plc : M.places.length = 3
  last : lastWM M p = w2 n
theorem cnt_thr {M : MemM} {p n : Int} {k : Nat} (h : CntOk M p n k) {t : Int} (h0 : 1 ≤ t) (h1 : t ≤ 3) : ThrB M t := ⟨h0, by rw [h.thr]; omega⟩
theorem cnt_plc {M : MemM} {p n : Int} {k : Nat} (h : CntOk M p n k) (h0 : 0 ≤ p) (h1 : p < 3) : PlcB M p := ⟨h0, by rw [h.plc]; omega⟩
theorem cnt_look {M : MemM} {p n : Int} {k : Nat} (h : CntOk M p n k) (t : Int) : CntOk (look1M M t p).1 p n k :=
  ⟨memOk_look h.ok t p, by rw [(size_look M t p).1]; exact h.thr, by rw [(size_look M t p).2]; exact h.plc, by rw [lastW_look]; exact h.last⟩
theorem cnt_adds {M : MemM} {p n : Int} {k : Nat} (h : CntOk M p n k) (h0 : 0 ≤ p) (h1 : p < 3) (t v : Int) : CntOk (addsM M t p (w2 v) true) p v (k + 1) := by
  have hs := size_adds M t p (w2 v) true
  refine ⟨memOk_adds h.ok t p _ _, by rw [hs.1]; exact h.thr, by rw [hs.2]; exact h.plc, ?_⟩
  unfold lastWM
  rw [hist_adds (cnt_plc h h0 h1), if_pos rfl, last_app]
noncomputable def cntSwap (M : MemM) (t p v : Int) : MemM := addsM (look1M M t p).1 t p (w2 v) true
theorem cnt_yes {M : MemM} {p n : Int} {k : Nat} (h : CntOk M p n k) (h0 : 0 ≤ p) (h1 : p < 3) {t : Int} (t0 : 1 ≤ t) (t1 : t ≤ 3) (v : Int) :
    mswapM M t p (w2 n) (w2 v) = (cntSwap M t p v, w2 n, true, 0) ∧ CntOk (cntSwap M t p v) p v (k + 1) := by
  refine ⟨?_, cnt_adds (cnt_look h t) h0 h1 t v⟩
  have := swap_eq (cnt_thr h t0 t1) (cnt_plc h h0 h1) (w2 v)
  rw [h.last] at this
  exact this
theorem cnt_no {M : MemM} {p n : Int} {k : Nat} (h : CntOk M p n k) (h0 : 0 ≤ p) (h1 : p < 3) {t : Int} (t0 : 1 ≤ t) (t1 : t ≤ 3) {s : Int} (hs : s ≠ n) (v : Int) :
    mswapM M t p (w2 s) (w2 v) = ((look1M M t p).1, w2 n, false, 0) := by
  have := swap_no (M := M) (t := t) (a := p) (o := w2 s) (w := w2 v) (cnt_thr h t0 t1) (cnt_plc h h0 h1) (by rw [h.last]; intro e; exact hs (congrArg WordV.val (weq_iff.1 e)).symm)
  rw [h.last] at this
  exact this
theorem cnt_new {p : Int} (h0 : 0 ≤ p) (h1 : p < 3) : CntOk (mnewM 3 [w2 0, w2 0, w2 0]).1 p 0 1 := by
  refine ⟨memOk_new _ _, rfl, rfl, ?_⟩
  have : p = 0 ∨ p = 1 ∨ p = 2 := by omega
  rcases this with rfl | rfl | rfl <;> rfl

theorem cnt_up {M : MemM} {p n : Int} {k j : Nat} (h : CntOk M p n k) (hj : k ≤ j) : CntOk M p n j := ⟨memOk_up h.ok hj, h.thr, h.plc, h.last⟩
abbrev sU8 (n : Int) : Sh := .v (.int .u8 n)
def CntInv (g : Nat) (xs : List Int) (p : Int) (m : Nat) (S : St) : Prop :=
  ∃ (i : Nat) (M : MemM) (n s0 s1 s2 : Int) (l0 l1 l2 : Bool), i ≤ xs.length ∧ m = xs.length - i ∧ CntOk M p n (1 + i) ∧ (0 ≤ n ∧ n ≤ i) ∧ (0 ≤ s0 ∧ s0 ≤ i) ∧ (0 ≤ s1 ∧ s1 ≤ i) ∧ (0 ≤ s2 ∧ s2 ≤ i) ∧
    S = ⟨[(0, .sl 1 g (xs.map fun x => [sU8 x])), (5, .ptr 0 0 0), (6, sI 0), (7, sI p), (8, .ptr 1 0 0), (9, .ptr 2 0 0), (10, sI n), (11, sI i)],
      [(0, boxM M), (1, .box 88 [sI s0, sU 0, sU 0, sI s1, sU 0, sU 0, sI s2, sU 0, sU 0]), (2, .box 89 [sB l0, sB l1, sB l2])], 3⟩
set_option maxHeartbeats 8000000 in
theorem ok_MemoryCounts (g : Nat) (xs : List Int) (a : Int) (hxs : ∀ x ∈ xs, 0 ≤ x ∧ x ≤ 255) (ha : 0 ≤ a ∧ a ≤ 255) : Ok 7 [.sl 1 g (xs.map fun x => [sU8 x]), sU8 a] (sB true) := by
  refine ok_of_tr Try.func7 tr_MemoryCounts rfl ?_
  by_cases h80 : (80 : Int) < (xs.length : Int)
  · skip
    unfold evFn sc_MemoryCounts rv_MemoryCounts
    have F1 := @h80
    refine ev_seq_k fun K1 hn1 hr1 he1 => ?_
    refine ev_ops_k fun K2 hk2 => ?_
    refine sh1 F1 ?_
    refine hk2 _ ?_
    refine hn1 (some ([0, 1, 91, 92, 93, 94, 95, 96, 97, 98, 112, 115, 116, 117, 118], none)) _ ?_
    refine ev_seq_k fun K3 hn3 hr3 he3 => ?_
    refine ev_seq_k fun K4 hn4 hr4 he4 => ?_
    refine ev_ops_k fun K5 hk5 => ?_
    refine evL_take 1 fun K6 hk6 => ?_
    refine sh1 F1 ?_
    refine Or.inl (Or.inl ⟨_, ok_l4awake, ?_⟩)
    refine hk6 _ ?_
    refine sh1 F1 ?_
    refine hk5 _ ?_
    refine hn4 (some ([0, 1, 20, 91, 92, 93, 94, 95, 96, 97, 98, 112, 115, 116, 117, 118], none)) _ ?_
    refine ev_cond_k rfl (fun hx => absurd hx (by simp at hx)) (fun hc0 => ?_)
    clear hc0
    refine hn3 (some ([0, 1, 91, 92, 93, 94, 95, 96, 97, 98, 112, 115, 116, 117, 118], none)) _ ?_
    refine ev_seq_k fun K7 hn7 hr7 he7 => ?_
    refine ev_seq_k fun K8 hn8 hr8 he8 => ?_
    refine ev_ops_k fun K9 hk9 => ?_
    refine sh1 F1 ?_
    refine sd ?_
    refine hk9 _ ?_
    refine hn8 (some ([0, 1, 23, 91, 92, 93, 94, 95, 96, 97, 98, 112, 115, 116, 117, 118], none)) _ ?_
    refine ev_cond_k rfl (fun hc1 => ?_) (fun hx => absurd hx (by simp at hx))
    clear hc1
    refine ev_seq_k fun K10 hn10 hr10 he10 => ?_
    refine ev_ops_k fun K11 hk11 => ?_
    refine sh1 F1 ?_
    refine hk11 _ ?_
    refine hn10 (some ([4], none)) _ ?_
    refine hr7 _ ?_
    exact sf1 F1
  obtain ⟨p, hp⟩ : ∃ p, p = a % 3 := ⟨_, rfl⟩
  have q0 : a.tmod 3 = p := by rw [hp]; exact Int.tmod_eq_emod_of_nonneg ha.1
  have hp0 : 0 ≤ p ∧ p < 3 := by omega
  have q1 : IntKind.u8.wrap p = p := by rw [IntKind.wrap_u8]; omega
  have q2 : IntKind.i64.wrap p = p := by rw [IntKind.wrap_i64]; omega
  have c1 := ok_mNew 3 0 [w2 0, w2 0, w2 0]
  change Ok _ _ (.tup [_, sI 0]) at c1
  have hN := cnt_new hp0.1 hp0.2
  generalize (mnewM 3 [w2 0, w2 0, w2 0]).1 = M0 at c1 hN
  simp only [w2, List.map_cons, List.map_nil] at c1
  unfold evFn sc_MemoryCounts rv_MemoryCounts
  have F1 := And.intro @h80 (And.intro @q0 (And.intro @q1 @q2))
  refine ev_seq_k fun K1 hn1 hr1 he1 => ?_
  refine ev_ops_k fun K2 hk2 => ?_
  refine sh1 F1 ?_
  refine hk2 _ ?_
  refine hn1 (some ([0, 1, 91, 92, 93, 94, 95, 96, 97, 98, 112, 115, 116, 117, 118], none)) _ ?_
  refine ev_seq_k fun K3 hn3 hr3 he3 => ?_
  refine ev_seq_k fun K4 hn4 hr4 he4 => ?_
  refine ev_ops_k fun K5 hk5 => ?_
  refine evL_take 1 fun K6 hk6 => ?_
  refine sh1 F1 ?_
  refine Or.inl (Or.inl ⟨_, ok_l4awake, ?_⟩)
  refine hk6 _ ?_
  refine sh1 F1 ?_
  refine hk5 _ ?_
  refine hn4 (some ([0, 1, 20, 91, 92, 93, 94, 95, 96, 97, 98, 112, 115, 116, 117, 118], none)) _ ?_
  refine ev_cond_k rfl (fun hx => absurd hx (by simp at hx)) (fun hc0 => ?_)
  clear hc0
  refine hn3 (some ([0, 1, 91, 92, 93, 94, 95, 96, 97, 98, 112, 115, 116, 117, 118], none)) _ ?_
  refine ev_seq_k fun K7 hn7 hr7 he7 => ?_
  refine ev_seq_k fun K8 hn8 hr8 he8 => ?_
  refine ev_ops_k fun K9 hk9 => ?_
  refine sh1 F1 ?_
  refine sd ?_
  refine hk9 _ ?_
  refine hn8 (some ([0, 1, 23, 91, 92, 93, 94, 95, 96, 97, 98, 112, 115, 116, 117, 118], none)) _ ?_
  refine ev_cond_k rfl (fun hx => absurd hx (by simp at hx)) (fun hc1 => ?_)
  clear hc1
  refine hn7 (some ([0, 1, 91, 92, 93, 94, 95, 96, 97, 98, 112, 115, 116, 117, 118], none)) _ ?_
  refine ev_seq_k fun K10 hn10 hr10 he10 => ?_
  refine ev_ops_k fun K11 hk11 => ?_
  refine evL_take 1 fun K12 hk12 => ?_
  refine sh1 F1 ?_
  refine Or.inl (Or.inl ⟨_, ok_l4word 0, ?_⟩)
  refine hk12 _ ?_
  refine evL_take 1 fun K13 hk13 => ?_
  refine sh1 F1 ?_
  refine Or.inl (Or.inl ⟨_, ok_l4word 0, ?_⟩)
  refine hk13 _ ?_
  refine evL_take 1 fun K14 hk14 => ?_
  refine sh1 F1 ?_
  refine Or.inl (Or.inl ⟨_, ok_l4word 0, ?_⟩)
  refine hk14 _ ?_
  refine evL_take 1 fun K15 hk15 => ?_
  refine sh1 F1 ?_
  refine sd ?_
  refine hk15 _ ?_
  refine evL_take 1 fun K16 hk16 => ?_
  refine sh1 F1 ?_
  refine Or.inl (Or.inl ⟨_, c1, ?_⟩)
  refine hk16 _ ?_
  refine evL_take 5 fun K17 hk17 => ?_
  refine sh1 F1 ?_
  refine sd ?_
  refine hk17 _ ?_
  refine sh1 F1 ?_
  refine hk11 _ ?_
  refine hn10 (some ([0, 1, 5, 6, 91, 92, 93, 94, 95, 96, 97, 98, 112, 115, 116, 117, 118], none)) _ ?_
  refine ev_seq_k fun K18 hn18 hr18 he18 => ?_
  refine ev_ops_k fun K19 hk19 => ?_
  refine evL_take 2 fun K20 hk20 => ?_
  refine sh1 F1 ?_
  refine sd ?_
  refine hk20 _ ?_
  refine sh1 F1 ?_
  refine hk19 _ ?_
  refine hn18 (some ([0, 5, 6, 7, 91, 92, 93, 94, 95, 96, 97, 98, 112, 115, 116, 117, 118], none)) _ ?_
  refine ev_seq_k fun K21 hn21 hr21 he21 => ?_
  refine ev_ops_k fun K22 hk22 => ?_
  refine sh1 F1 ?_
  refine sd ?_
  refine hk22 _ ?_
  refine hn21 (some ([0, 5, 6, 7, 8, 91, 92, 93, 94, 95, 96, 97, 98, 112, 115, 116, 117, 118], none)) _ ?_
  refine ev_seq_k fun K23 hn23 hr23 he23 => ?_
  refine ev_ops_k fun K24 hk24 => ?_
  refine sh1 F1 ?_
  refine sd ?_
  refine hk24 _ ?_
  refine hn23 (some ([0, 5, 6, 7, 8, 9, 91, 92, 93, 94, 95, 96, 97, 98, 112, 115, 116, 117, 118], none)) _ ?_
  refine ev_seq_k fun K25 hn25 hr25 he25 => ?_
  refine ev_ops_k fun K26 hk26 => ?_
  refine sh1 F1 ?_
  refine hk26 _ ?_
  refine hn25 (some ([0, 5, 6, 7, 8, 9, 10, 91, 92, 93, 94, 95, 96, 97, 98, 112, 115, 116, 117, 118], none)) _ ?_
  refine ev_seq_k fun K27 hn27 hr27 he27 => ?_
  refine ev_seq_k fun K28 hn28 hr28 he28 => ?_
  refine ev_ops_k fun K29 hk29 => ?_
  refine sh1 F1 ?_
  refine hk29 _ ?_
  refine hn28 (some ([0, 5, 6, 7, 8, 9, 10, 11, 91, 92, 93, 94, 95, 96, 97, 98, 112, 115, 116, 117, 118], none)) _ ?_
  refine ev_block_k fun K30 hn30 hx30 hr30 he30 => ?_
  refine ev_loop_k (CntInv g xs p) (xs.length) (some ([0, 5, 6, 7, 8, 9, 10, 11], some ([0, 1, 2], 3))) ([]) ?_ ?_
  · try refine lp0 ?_
    exact ⟨0, M0, 0, 0, 0, 0, false, false, false, by omega, by omega, hN, by omega, by omega, by omega, by omega, rfl⟩
  · intro k S1 hI
    obtain ⟨i, M, n, s0, s1, s2, l0, l1, l2, hi, rfl, hC, hn, hs0, hs1, hs2, rfl⟩ := hI
    have hcase : i = xs.length ∨ ∃ x, xs[i]? = some x ∧ (0 ≤ x ∧ x ≤ 255) ∧ (x % 3 = 0 ∧ l0 = false ∨ x % 3 = 0 ∧ l0 = true ∧ s0 = n ∨ x % 3 = 0 ∧ l0 = true ∧ s0 ≠ n ∨ x % 3 = 1 ∧ l1 = false ∨ x % 3 = 1 ∧ l1 = true ∧ s1 = n ∨ x % 3 = 1 ∧ l1 = true ∧ s1 ≠ n ∨ x % 3 = 2 ∧ l2 = false ∨ x % 3 = 2 ∧ l2 = true ∧ s2 = n ∨ x % 3 = 2 ∧ l2 = true ∧ s2 ≠ n) := by
      rcases Nat.lt_or_ge i xs.length with h | h
      · refine .inr ⟨xs[i], by simp, hxs _ (List.getElem_mem h), ?_⟩
        cases l0 <;> cases l1 <;> cases l2 <;> simp <;> omega
      · exact .inl (by omega)
    intro K31 hn31 hr31 he31
    rcases hcase with hc | ⟨x, hxi, hxr, ⟨hm, hl⟩ | ⟨hm, hl, hs⟩ | ⟨hm, hl, hs⟩ | ⟨hm, hl⟩ | ⟨hm, hl, hs⟩ | ⟨hm, hl, hs⟩ | ⟨hm, hl⟩ | ⟨hm, hl, hs⟩ | ⟨hm, hl, hs⟩⟩
    · skip
      subst hc
      have d2 : ¬ (xs.length : Int) < (xs.length : Int) := by omega
      have c8 := ok_mLast M p hC.ok (by omega)
      rw [decide_eq_true (cnt_plc hC hp0.1 hp0.2), hC.last] at c8
      have F2 := And.intro F1 @d2
      refine ev_seq_k fun K32 hn32 hr32 he32 => ?_
      refine ev_seq_k fun K33 hn33 hr33 he33 => ?_
      refine ev_ops_k fun K34 hk34 => ?_
      refine sh1 F2 ?_
      refine sd ?_
      refine hk34 _ ?_
      refine hn33 (some ([0, 5, 6, 7, 8, 9, 10, 11, 40, 91, 92, 93, 94, 95, 96, 97, 98, 112, 115, 116, 117, 118], none)) _ ?_
      refine ev_cond_k rfl (fun hx => absurd hx (by simp at hx)) (fun hc2 => ?_)
      clear hc2
      refine he32 0 _ ?_
      refine he31 0 _ ?_
      refine hx30 _ ?_
      refine hn27 (some ([5, 6, 7, 10, 112, 115, 116, 117, 118], none)) _ ?_
      refine ev_seq_k fun K35 hn35 hr35 he35 => ?_
      refine ev_ops_k fun K36 hk36 => ?_
      refine evL_take 1 fun K37 hk37 => ?_
      refine sh1 F2 ?_
      refine sd ?_
      refine hk37 _ ?_
      refine evL_take 1 fun K38 hk38 => ?_
      refine sh1 F2 ?_
      refine hk38 _ ?_
      refine evL_take 1 fun K39 hk39 => ?_
      refine sh1 F2 ?_
      refine Or.inl (Or.inl ⟨_, c8, ?_⟩)
      refine hk39 _ ?_
      refine evL_take 5 fun K40 hk40 => ?_
      refine sh1 F2 ?_
      refine sd ?_
      refine hk40 _ ?_
      refine sh1 F2 ?_
      refine hk36 _ ?_
      refine hn35 (some ([6, 10, 17, 18, 112, 115, 116, 117, 118], none)) _ ?_
      refine ev_seq_k fun K41 hn41 hr41 he41 => ?_
      refine ev_drw_k [] (n := 9) fun K42 hk42 => ?_
      refine sq0 ?_
      refine evF_take 2 fun K44 hk44 => ?_
      refine sh1 F2 ?_
      refine sd ?_
      refine hk44 _ _ _ ?_
      refine evF_take 5 fun K45 hk45 => ?_
      refine sh1 F2 ?_
      refine sd ?_
      refine hk45 _ _ _ ?_
      refine evF_take 1 fun K46 hk46 => ?_
      refine sh1 F2 ?_
      refine hk46 _ _ _ ?_
      refine sh1 F2 ?_
      refine ⟨_, ok_l4word n, ?_⟩
      refine hk42 _ ?_
      refine sr0 ?_
      refine evL_take 1 fun K47 hk47 => ?_
      refine sh1 F2 ?_
      refine Or.inl ⟨_, eqsh_word_refl (w2 n), ?_⟩
      refine hk47 _ ?_
      refine sh1 F2 ?_
      refine hn41 (some ([4], none)) _ ?_
      exact sf1 F2
    · skip
      subst hl
      have d2 : (i : Int) < (xs.length : Int) := by have := (List.getElem?_eq_some_iff.1 hxi).1; omega
      have r0 : x.tmod 3 = 0 := by rw [← hm]; exact Int.tmod_eq_emod_of_nonneg hxr.1
      have r1 : IntKind.u8.wrap 0 = 0 := by decide
      have r2 : IntKind.i64.wrap 0 = 0 := by decide
      have r3 : IntKind.i64.wrap (0 + 1) = 1 := by decide
      have q3 : IntKind.i64.wrap ((i : Int) + 1) = ((i + 1 : Nat) : Int) := by rw [IntKind.wrap_i64]; omega
      have c5 := ok_mLook M 1 p hC.ok (by omega)
      rw [look_word (cnt_thr hC (by omega) (by omega)) (cnt_plc hC hp0.1 hp0.2), hC.last] at c5
      have F3 := And.intro F1 (And.intro @d2 (And.intro @hxi (And.intro @r0 (And.intro @r1 (And.intro @r2 (And.intro @r3 @q3))))))
      refine ev_seq_k fun K48 hn48 hr48 he48 => ?_
      refine ev_seq_k fun K49 hn49 hr49 he49 => ?_
      refine ev_ops_k fun K50 hk50 => ?_
      refine sh1 F3 ?_
      refine sd ?_
      refine hk50 _ ?_
      refine hn49 (some ([0, 5, 6, 7, 8, 9, 10, 11, 40, 91, 92, 93, 94, 95, 96, 97, 98, 112, 115, 116, 117, 118], none)) _ ?_
      refine ev_cond_k rfl (fun hc2 => ?_) (fun hx => absurd hx (by simp at hx))
      clear hc2
      refine hn48 (some ([0, 5, 6, 7, 8, 9, 10, 11, 91, 92, 93, 94, 95, 96, 97, 98], none)) _ ?_
      refine ev_seq_k fun K51 hn51 hr51 he51 => ?_
      refine ev_block_k fun K52 hn52 hx52 hr52 he52 => ?_
      refine ev_seq_k fun K53 hn53 hr53 he53 => ?_
      refine ev_ops_k fun K54 hk54 => ?_
      refine evL_take 3 fun K55 hk55 => ?_
      refine sh1 F3 ?_
      refine sd ?_
      refine hk55 _ ?_
      refine evL_take 1 fun K56 hk56 => ?_
      refine sh1 F3 ?_
      refine sd ?_
      refine hk56 _ ?_
      refine evL_take 1 fun K57 hk57 => ?_
      refine sh1 F3 ?_
      refine sd ?_
      refine hk57 _ ?_
      refine sh1 F3 ?_
      refine hk54 _ ?_
      refine hn53 (some ([0, 5, 6, 7, 8, 9, 10, 11, 12, 91, 92, 93, 94, 95, 96, 97, 98], none)) _ ?_
      refine ev_seq_k fun K58 hn58 hr58 he58 => ?_
      refine ev_seq_k fun K59 hn59 hr59 he59 => ?_
      refine ev_ops_k fun K60 hk60 => ?_
      refine evL_take 2 fun K61 hk61 => ?_
      refine sh1 F3 ?_
      refine sd ?_
      refine hk61 _ ?_
      refine evL_take 1 fun K62 hk62 => ?_
      refine sh1 F3 ?_
      refine sd ?_
      refine hk62 _ ?_
      refine sh1 F3 ?_
      refine hk60 _ ?_
      refine hn59 (some ([0, 5, 6, 7, 8, 9, 10, 11, 12, 52, 91, 92, 93, 94, 95, 96, 97, 98], none)) _ ?_
      refine ev_cond_k rfl (fun hc3 => ?_) (fun hx => absurd hx (by simp at hx))
      clear hc3
      refine ev_seq_k fun K63 hn63 hr63 he63 => ?_
      refine ev_ops_k fun K64 hk64 => ?_
      refine evL_take 2 fun K65 hk65 => ?_
      refine sh1 F3 ?_
      refine sd ?_
      refine hk65 _ ?_
      refine evL_take 2 fun K66 hk66 => ?_
      refine sh1 F3 ?_
      refine sd ?_
      refine hk66 _ ?_
      refine evL_take 1 fun K67 hk67 => ?_
      refine sh1 F3 ?_
      refine hk67 _ ?_
      refine evL_take 1 fun K68 hk68 => ?_
      refine sh1 F3 ?_
      refine Or.inl (Or.inl ⟨_, c5, ?_⟩)
      refine hk68 _ ?_
      refine evL_take 5 fun K69 hk69 => ?_
      refine sh1 F3 ?_
      refine sd ?_
      refine hk69 _ ?_
      refine evL_take 1 fun K70 hk70 => ?_
      refine sh1 F3 ?_
      refine sd ?_
      refine hk70 _ ?_
      refine sh1 F3 ?_
      refine sd ?_
      refine hk64 _ ?_
      refine hn63 (some ([0, 5, 6, 7, 8, 9, 10, 11, 12], none)) _ ?_
      refine ev_seq_k fun K71 hn71 hr71 he71 => ?_
      refine ev_ops_k fun K72 hk72 => ?_
      refine evL_take 2 fun K73 hk73 => ?_
      refine sh1 F3 ?_
      refine sd ?_
      refine hk73 _ ?_
      refine sh1 F3 ?_
      refine sd ?_
      refine hk72 _ ?_
      refine hn71 (some ([0, 5, 6, 7, 8, 9, 10, 11], none)) _ ?_
      refine he58 1 _ ?_
      refine hx52 _ ?_
      refine hn51 (some ([0, 5, 6, 7, 8, 9, 10, 11], none)) _ ?_
      refine ev_ops_k fun K74 hk74 => ?_
      refine evL_take 2 fun K75 hk75 => ?_
      refine sh1 F3 ?_
      refine sd ?_
      refine hk75 _ ?_
      refine sh1 F3 ?_
      refine hk74 _ ?_
      refine hn31 (xs.length - (i + 1)) (some ([0, 5, 6, 7, 8, 9, 10, 11], some ([0, 1, 2], 3))) _ ?_ ?_
      all_goals try refine lp0 ?_
      · omega
      · exact ⟨i + 1, _, n, n, s1, s2, true, l1, l2, by omega, by omega, cnt_up (cnt_look hC 1) (by omega), by omega, by omega, by omega, by omega, rfl⟩
    · skip
      subst hl
      subst hs
      have d2 : (i : Int) < (xs.length : Int) := by have := (List.getElem?_eq_some_iff.1 hxi).1; omega
      have r0 : x.tmod 3 = 0 := by rw [← hm]; exact Int.tmod_eq_emod_of_nonneg hxr.1
      have r1 : IntKind.u8.wrap 0 = 0 := by decide
      have r2 : IntKind.i64.wrap 0 = 0 := by decide
      have r3 : IntKind.i64.wrap (0 + 1) = 1 := by decide
      have q3 : IntKind.i64.wrap ((i : Int) + 1) = ((i + 1 : Nat) : Int) := by rw [IntKind.wrap_i64]; omega
      have q4 : IntKind.i64.wrap (s0 + 1) = s0 + 1 := by rw [IntKind.wrap_i64]; omega
      obtain ⟨y1, y2⟩ := cnt_yes hC hp0.1 hp0.2 (t := 1) (by omega) (by omega) (s0 + 1)
      have c7 := ok_mSwap M 1 p (w2 s0) (w2 (s0 + 1)) hC.ok (by omega)
      rw [y1] at c7
      have c6 := ok_l4word (s0 + 1)
      have hE0 := eqsh_bool true true
      have F4 := And.intro F1 (And.intro @d2 (And.intro @hxi (And.intro @r0 (And.intro @r1 (And.intro @r2 (And.intro @r3 (And.intro @q3 @q4)))))))
      refine ev_seq_k fun K76 hn76 hr76 he76 => ?_
      refine ev_seq_k fun K77 hn77 hr77 he77 => ?_
      refine ev_ops_k fun K78 hk78 => ?_
      refine sh1 F4 ?_
      refine sd ?_
      refine hk78 _ ?_
      refine hn77 (some ([0, 5, 6, 7, 8, 9, 10, 11, 40, 91, 92, 93, 94, 95, 96, 97, 98, 112, 115, 116, 117, 118], none)) _ ?_
      refine ev_cond_k rfl (fun hc2 => ?_) (fun hx => absurd hx (by simp at hx))
      clear hc2
      refine hn76 (some ([0, 5, 6, 7, 8, 9, 10, 11, 91, 92, 93, 94, 95, 96, 97, 98], none)) _ ?_
      refine ev_seq_k fun K79 hn79 hr79 he79 => ?_
      refine ev_block_k fun K80 hn80 hx80 hr80 he80 => ?_
      refine ev_seq_k fun K81 hn81 hr81 he81 => ?_
      refine ev_ops_k fun K82 hk82 => ?_
      refine evL_take 3 fun K83 hk83 => ?_
      refine sh1 F4 ?_
      refine sd ?_
      refine hk83 _ ?_
      refine evL_take 1 fun K84 hk84 => ?_
      refine sh1 F4 ?_
      refine sd ?_
      refine hk84 _ ?_
      refine evL_take 1 fun K85 hk85 => ?_
      refine sh1 F4 ?_
      refine sd ?_
      refine hk85 _ ?_
      refine sh1 F4 ?_
      refine hk82 _ ?_
      refine hn81 (some ([0, 5, 6, 7, 8, 9, 10, 11, 12, 91, 92, 93, 94, 95, 96, 97, 98], none)) _ ?_
      refine ev_seq_k fun K86 hn86 hr86 he86 => ?_
      refine ev_seq_k fun K87 hn87 hr87 he87 => ?_
      refine ev_ops_k fun K88 hk88 => ?_
      refine evL_take 2 fun K89 hk89 => ?_
      refine sh1 F4 ?_
      refine sd ?_
      refine hk89 _ ?_
      refine evL_take 1 fun K90 hk90 => ?_
      refine sh1 F4 ?_
      refine sd ?_
      refine hk90 _ ?_
      refine sh1 F4 ?_
      refine hk88 _ ?_
      refine hn87 (some ([0, 5, 6, 7, 8, 9, 10, 11, 12, 52, 91, 92, 93, 94, 95, 96, 97, 98], none)) _ ?_
      refine ev_cond_k rfl (fun hx => absurd hx (by simp at hx)) (fun hc3 => ?_)
      clear hc3
      refine hn86 (some ([0, 5, 6, 7, 8, 9, 10, 11, 12, 91, 92, 93, 94, 95, 96, 97, 98], none)) _ ?_
      refine ev_seq_k fun K91 hn91 hr91 he91 => ?_
      refine ev_ops_k fun K92 hk92 => ?_
      refine evL_take 2 fun K93 hk93 => ?_
      refine sh1 F4 ?_
      refine sd ?_
      refine hk93 _ ?_
      refine sh1 F4 ?_
      refine sd ?_
      refine hk92 _ ?_
      refine hn91 (some ([0, 5, 6, 7, 8, 9, 10, 11, 12, 91, 92, 93, 94, 95, 96, 97, 98], none)) _ ?_
      refine ev_seq_k fun K94 hn94 hr94 he94 => ?_
      refine ev_drw_k [] (n := 21) fun K95 hk95 => ?_
      refine sq0 ?_
      refine evF_take 1 fun K97 hk97 => ?_
      refine sh1 F4 ?_
      refine sd ?_
      refine hk97 _ _ _ ?_
      refine evF_take 2 fun K98 hk98 => ?_
      refine sh1 F4 ?_
      refine sd ?_
      refine hk98 _ _ _ ?_
      refine evF_take 3 fun K99 hk99 => ?_
      refine sh1 F4 ?_
      refine sd ?_
      refine hk99 _ _ _ ?_
      refine evF_take 1 fun K100 hk100 => ?_
      refine sh1 F4 ?_
      refine sd ?_
      refine hk100 _ _ _ ?_
      refine evF_take 2 fun K101 hk101 => ?_
      refine sh1 F4 ?_
      refine sd ?_
      refine hk101 _ _ _ ?_
      refine evF_take 2 fun K102 hk102 => ?_
      refine sh1 F4 ?_
      refine sd ?_
      refine hk102 _ _ _ ?_
      refine evF_take 1 fun K103 hk103 => ?_
      refine sh1 F4 ?_
      refine sd ?_
      refine hk103 _ _ _ ?_
      refine evF_take 1 fun K104 hk104 => ?_
      refine sh1 F4 ?_
      refine ⟨_, c6, ?_⟩
      refine hk104 _ _ _ ?_
      refine evF_take 1 fun K105 hk105 => ?_
      refine sh1 F4 ?_
      refine ⟨_, c7, ?_⟩
      refine hk105 _ _ _ ?_
      refine sh1 F4 ?_
      refine hk95 _ ?_
      refine sr0 ?_
      refine evL_take 1 fun K106 hk106 => ?_
      refine sh1 F4 ?_
      refine sd ?_
      refine hk106 _ ?_
      refine evL_take 1 fun K107 hk107 => ?_
      refine sh1 F4 ?_
      refine sd ?_
      refine hk107 _ ?_
      refine sh1 F4 ?_
      refine hn94 (some ([0, 5, 6, 7, 8, 9, 10, 11, 12, 13, 15, 16, 91, 92, 93, 94, 95, 96, 97, 98], none)) _ ?_
      refine ev_seq_k fun K108 hn108 hr108 he108 => ?_
      refine ev_ops_k fun K109 hk109 => ?_
      refine evL_take 1 fun K110 hk110 => ?_
      refine sh1 F4 ?_
      refine sd ?_
      refine hk110 _ ?_
      refine sh1 F4 ?_
      refine sd ?_
      refine hk109 _ ?_
      refine hn108 (some ([0, 5, 6, 7, 8, 9, 10, 11, 12, 15, 16, 91, 92, 93, 94, 95, 96, 97, 98], none)) _ ?_
      refine ev_seq_k fun K111 hn111 hr111 he111 => ?_
      refine ev_seq_k fun K112 hn112 hr112 he112 => ?_
      refine ev_ops_k fun K113 hk113 => ?_
      refine evL_take 2 fun K114 hk114 => ?_
      refine sh1 F4 ?_
      refine sd ?_
      refine hk114 _ ?_
      refine evL_take 4 fun K115 hk115 => ?_
      refine sh1 F4 ?_
      refine sd ?_
      refine hk115 _ ?_
      refine evL_take 2 fun K116 hk116 => ?_
      refine sh1 F4 ?_
      refine sd ?_
      refine hk116 _ ?_
      refine evL_take 2 fun K117 hk117 => ?_
      refine sh1 F4 ?_
      refine sd ?_
      refine hk117 _ ?_
      refine evL_take 1 fun K118 hk118 => ?_
      refine sh1 F4 ?_
      refine Or.inl ⟨_, hE0, ?_⟩
      refine hk118 _ ?_
      refine sh1 F4 ?_
      refine hk113 _ ?_
      refine hn112 (some ([0, 5, 6, 7, 8, 9, 10, 11, 15, 99], none)) _ ?_
      refine ev_cond_k rfl (fun hx => absurd hx (by simp at hx)) (fun hc4 => ?_)
      clear hc4
      refine hn111 (some ([0, 5, 6, 7, 8, 9, 10, 11, 15], none)) _ ?_
      refine ev_seq_k fun K119 hn119 hr119 he119 => ?_
      refine ev_ops_k fun K120 hk120 => ?_
      refine sh1 F4 ?_
      refine hk120 _ ?_
      refine hn119 (some ([0, 5, 6, 7, 8, 9, 10, 11, 100], none)) _ ?_
      refine ev_cond_k rfl (fun hc5 => ?_) (fun hx => absurd hx (by simp at hx))
      clear hc5
      refine ev_ops_k fun K121 hk121 => ?_
      refine evL_take 2 fun K122 hk122 => ?_
      refine sh1 F4 ?_
      refine sd ?_
      refine hk122 _ ?_
      refine sh1 F4 ?_
      refine hk121 _ ?_
      refine hn80 _ ?_
      refine hn79 (some ([0, 5, 6, 7, 8, 9, 10, 11], none)) _ ?_
      refine ev_ops_k fun K123 hk123 => ?_
      refine evL_take 2 fun K124 hk124 => ?_
      refine sh1 F4 ?_
      refine sd ?_
      refine hk124 _ ?_
      refine sh1 F4 ?_
      refine hk123 _ ?_
      refine hn31 (xs.length - (i + 1)) (some ([0, 5, 6, 7, 8, 9, 10, 11], some ([0, 1, 2], 3))) _ ?_ ?_
      all_goals try refine lp0 ?_
      · omega
      · exact ⟨i + 1, _, s0 + 1, s0, s1, s2, false, l1, l2, by omega, by omega, cnt_up y2 (by omega), by omega, by omega, by omega, by omega, rfl⟩
    · skip
      subst hl
      have d2 : (i : Int) < (xs.length : Int) := by have := (List.getElem?_eq_some_iff.1 hxi).1; omega
      have r0 : x.tmod 3 = 0 := by rw [← hm]; exact Int.tmod_eq_emod_of_nonneg hxr.1
      have r1 : IntKind.u8.wrap 0 = 0 := by decide
      have r2 : IntKind.i64.wrap 0 = 0 := by decide
      have r3 : IntKind.i64.wrap (0 + 1) = 1 := by decide
      have q3 : IntKind.i64.wrap ((i : Int) + 1) = ((i + 1 : Nat) : Int) := by rw [IntKind.wrap_i64]; omega
      have q4 : IntKind.i64.wrap (s0 + 1) = s0 + 1 := by rw [IntKind.wrap_i64]; omega
      have q5 : (s0 == n) = false := by simpa using hs
      have c7 := ok_mSwap M 1 p (w2 s0) (w2 (s0 + 1)) hC.ok (by omega)
      rw [cnt_no hC hp0.1 hp0.2 (by omega) (by omega) hs] at c7
      have c6 := ok_l4word (s0 + 1)
      have hE0 := eqsh_bool false false
      have F5 := And.intro F1 (And.intro @d2 (And.intro @hxi (And.intro @r0 (And.intro @r1 (And.intro @r2 (And.intro @r3 (And.intro @q3 (And.intro @q4 @q5))))))))
      refine ev_seq_k fun K125 hn125 hr125 he125 => ?_
      refine ev_seq_k fun K126 hn126 hr126 he126 => ?_
      refine ev_ops_k fun K127 hk127 => ?_
      refine sh1 F5 ?_
      refine sd ?_
      refine hk127 _ ?_
      refine hn126 (some ([0, 5, 6, 7, 8, 9, 10, 11, 40, 91, 92, 93, 94, 95, 96, 97, 98, 112, 115, 116, 117, 118], none)) _ ?_
      refine ev_cond_k rfl (fun hc2 => ?_) (fun hx => absurd hx (by simp at hx))
      clear hc2
      refine hn125 (some ([0, 5, 6, 7, 8, 9, 10, 11, 91, 92, 93, 94, 95, 96, 97, 98], none)) _ ?_
      refine ev_seq_k fun K128 hn128 hr128 he128 => ?_
      refine ev_block_k fun K129 hn129 hx129 hr129 he129 => ?_
      refine ev_seq_k fun K130 hn130 hr130 he130 => ?_
      refine ev_ops_k fun K131 hk131 => ?_
      refine evL_take 3 fun K132 hk132 => ?_
      refine sh1 F5 ?_
      refine sd ?_
      refine hk132 _ ?_
      refine evL_take 1 fun K133 hk133 => ?_
      refine sh1 F5 ?_
      refine sd ?_
      refine hk133 _ ?_
      refine evL_take 1 fun K134 hk134 => ?_
      refine sh1 F5 ?_
      refine sd ?_
      refine hk134 _ ?_
      refine sh1 F5 ?_
      refine hk131 _ ?_
      refine hn130 (some ([0, 5, 6, 7, 8, 9, 10, 11, 12, 91, 92, 93, 94, 95, 96, 97, 98], none)) _ ?_
      refine ev_seq_k fun K135 hn135 hr135 he135 => ?_
      refine ev_seq_k fun K136 hn136 hr136 he136 => ?_
      refine ev_ops_k fun K137 hk137 => ?_
      refine evL_take 2 fun K138 hk138 => ?_
      refine sh1 F5 ?_
      refine sd ?_
      refine hk138 _ ?_
      refine evL_take 1 fun K139 hk139 => ?_
      refine sh1 F5 ?_
      refine sd ?_
      refine hk139 _ ?_
      refine sh1 F5 ?_
      refine hk137 _ ?_
      refine hn136 (some ([0, 5, 6, 7, 8, 9, 10, 11, 12, 52, 91, 92, 93, 94, 95, 96, 97, 98], none)) _ ?_
      refine ev_cond_k rfl (fun hx => absurd hx (by simp at hx)) (fun hc3 => ?_)
      clear hc3
      refine hn135 (some ([0, 5, 6, 7, 8, 9, 10, 11, 12, 91, 92, 93, 94, 95, 96, 97, 98], none)) _ ?_
      refine ev_seq_k fun K140 hn140 hr140 he140 => ?_
      refine ev_ops_k fun K141 hk141 => ?_
      refine evL_take 2 fun K142 hk142 => ?_
      refine sh1 F5 ?_
      refine sd ?_
      refine hk142 _ ?_
      refine sh1 F5 ?_
      refine sd ?_
      refine hk141 _ ?_
      refine hn140 (some ([0, 5, 6, 7, 8, 9, 10, 11, 12, 91, 92, 93, 94, 95, 96, 97, 98], none)) _ ?_
      refine ev_seq_k fun K143 hn143 hr143 he143 => ?_
      refine ev_drw_k [] (n := 21) fun K144 hk144 => ?_
      refine sq0 ?_
      refine evF_take 1 fun K146 hk146 => ?_
      refine sh1 F5 ?_
      refine sd ?_
      refine hk146 _ _ _ ?_
      refine evF_take 2 fun K147 hk147 => ?_
      refine sh1 F5 ?_
      refine sd ?_
      refine hk147 _ _ _ ?_
      refine evF_take 3 fun K148 hk148 => ?_
      refine sh1 F5 ?_
      refine sd ?_
      refine hk148 _ _ _ ?_
      refine evF_take 1 fun K149 hk149 => ?_
      refine sh1 F5 ?_
      refine sd ?_
      refine hk149 _ _ _ ?_
      refine evF_take 2 fun K150 hk150 => ?_
      refine sh1 F5 ?_
      refine sd ?_
      refine hk150 _ _ _ ?_
      refine evF_take 2 fun K151 hk151 => ?_
      refine sh1 F5 ?_
      refine sd ?_
      refine hk151 _ _ _ ?_
      refine evF_take 1 fun K152 hk152 => ?_
      refine sh1 F5 ?_
      refine sd ?_
      refine hk152 _ _ _ ?_
      refine evF_take 1 fun K153 hk153 => ?_
      refine sh1 F5 ?_
      refine ⟨_, c6, ?_⟩
      refine hk153 _ _ _ ?_
      refine evF_take 1 fun K154 hk154 => ?_
      refine sh1 F5 ?_
      refine ⟨_, c7, ?_⟩
      refine hk154 _ _ _ ?_
      refine sh1 F5 ?_
      refine hk144 _ ?_
      refine sr0 ?_
      refine evL_take 1 fun K155 hk155 => ?_
      refine sh1 F5 ?_
      refine sd ?_
      refine hk155 _ ?_
      refine evL_take 1 fun K156 hk156 => ?_
      refine sh1 F5 ?_
      refine sd ?_
      refine hk156 _ ?_
      refine sh1 F5 ?_
      refine hn143 (some ([0, 5, 6, 7, 8, 9, 10, 11, 12, 13, 15, 16, 91, 92, 93, 94, 95, 96, 97, 98], none)) _ ?_
      refine ev_seq_k fun K157 hn157 hr157 he157 => ?_
      refine ev_ops_k fun K158 hk158 => ?_
      refine evL_take 1 fun K159 hk159 => ?_
      refine sh1 F5 ?_
      refine sd ?_
      refine hk159 _ ?_
      refine sh1 F5 ?_
      refine sd ?_
      refine hk158 _ ?_
      refine hn157 (some ([0, 5, 6, 7, 8, 9, 10, 11, 12, 15, 16, 91, 92, 93, 94, 95, 96, 97, 98], none)) _ ?_
      refine ev_seq_k fun K160 hn160 hr160 he160 => ?_
      refine ev_seq_k fun K161 hn161 hr161 he161 => ?_
      refine ev_ops_k fun K162 hk162 => ?_
      refine evL_take 2 fun K163 hk163 => ?_
      refine sh1 F5 ?_
      refine sd ?_
      refine hk163 _ ?_
      refine evL_take 4 fun K164 hk164 => ?_
      refine sh1 F5 ?_
      refine sd ?_
      refine hk164 _ ?_
      refine evL_take 2 fun K165 hk165 => ?_
      refine sh1 F5 ?_
      refine sd ?_
      refine hk165 _ ?_
      refine evL_take 2 fun K166 hk166 => ?_
      refine sh1 F5 ?_
      refine sd ?_
      refine hk166 _ ?_
      refine evL_take 1 fun K167 hk167 => ?_
      refine sh1 F5 ?_
      refine Or.inl ⟨_, hE0, ?_⟩
      refine hk167 _ ?_
      refine sh1 F5 ?_
      refine hk162 _ ?_
      refine hn161 (some ([0, 5, 6, 7, 8, 9, 10, 11, 15, 99], none)) _ ?_
      refine ev_cond_k rfl (fun hx => absurd hx (by simp at hx)) (fun hc4 => ?_)
      clear hc4
      refine hn160 (some ([0, 5, 6, 7, 8, 9, 10, 11, 15], none)) _ ?_
      refine ev_seq_k fun K168 hn168 hr168 he168 => ?_
      refine ev_ops_k fun K169 hk169 => ?_
      refine sh1 F5 ?_
      refine hk169 _ ?_
      refine hn168 (some ([0, 5, 6, 7, 8, 9, 10, 11, 100], none)) _ ?_
      refine ev_cond_k rfl (fun hx => absurd hx (by simp at hx)) (fun hc5 => ?_)
      clear hc5
      refine hn129 _ ?_
      refine hn128 (some ([0, 5, 6, 7, 8, 9, 10, 11], none)) _ ?_
      refine ev_ops_k fun K170 hk170 => ?_
      refine evL_take 2 fun K171 hk171 => ?_
      refine sh1 F5 ?_
      refine sd ?_
      refine hk171 _ ?_
      refine sh1 F5 ?_
      refine hk170 _ ?_
      refine hn31 (xs.length - (i + 1)) (some ([0, 5, 6, 7, 8, 9, 10, 11], some ([0, 1, 2], 3))) _ ?_ ?_
      all_goals try refine lp0 ?_
      · omega
      · exact ⟨i + 1, _, n, s0, s1, s2, false, l1, l2, by omega, by omega, cnt_up (cnt_look hC 1) (by omega), by omega, by omega, by omega, by omega, rfl⟩
    · skip
      subst hl
      have d2 : (i : Int) < (xs.length : Int) := by have := (List.getElem?_eq_some_iff.1 hxi).1; omega
      have r0 : x.tmod 3 = 1 := by rw [← hm]; exact Int.tmod_eq_emod_of_nonneg hxr.1
      have r1 : IntKind.u8.wrap 1 = 1 := by decide
      have r2 : IntKind.i64.wrap 1 = 1 := by decide
      have r3 : IntKind.i64.wrap (1 + 1) = 2 := by decide
      have q3 : IntKind.i64.wrap ((i : Int) + 1) = ((i + 1 : Nat) : Int) := by rw [IntKind.wrap_i64]; omega
      have c5 := ok_mLook M 2 p hC.ok (by omega)
      rw [look_word (cnt_thr hC (by omega) (by omega)) (cnt_plc hC hp0.1 hp0.2), hC.last] at c5
      have F6 := And.intro F1 (And.intro @d2 (And.intro @hxi (And.intro @r0 (And.intro @r1 (And.intro @r2 (And.intro @r3 @q3))))))
      refine ev_seq_k fun K172 hn172 hr172 he172 => ?_
      refine ev_seq_k fun K173 hn173 hr173 he173 => ?_
      refine ev_ops_k fun K174 hk174 => ?_
      refine sh1 F6 ?_
      refine sd ?_
      refine hk174 _ ?_
      refine hn173 (some ([0, 5, 6, 7, 8, 9, 10, 11, 40, 91, 92, 93, 94, 95, 96, 97, 98, 112, 115, 116, 117, 118], none)) _ ?_
      refine ev_cond_k rfl (fun hc2 => ?_) (fun hx => absurd hx (by simp at hx))
      clear hc2
      refine hn172 (some ([0, 5, 6, 7, 8, 9, 10, 11, 91, 92, 93, 94, 95, 96, 97, 98], none)) _ ?_
      refine ev_seq_k fun K175 hn175 hr175 he175 => ?_
      refine ev_block_k fun K176 hn176 hx176 hr176 he176 => ?_
      refine ev_seq_k fun K177 hn177 hr177 he177 => ?_
      refine ev_ops_k fun K178 hk178 => ?_
      refine evL_take 3 fun K179 hk179 => ?_
      refine sh1 F6 ?_
      refine sd ?_
      refine hk179 _ ?_
      refine evL_take 1 fun K180 hk180 => ?_
      refine sh1 F6 ?_
      refine sd ?_
      refine hk180 _ ?_
      refine evL_take 1 fun K181 hk181 => ?_
      refine sh1 F6 ?_
      refine sd ?_
      refine hk181 _ ?_
      refine sh1 F6 ?_
      refine hk178 _ ?_
      refine hn177 (some ([0, 5, 6, 7, 8, 9, 10, 11, 12, 91, 92, 93, 94, 95, 96, 97, 98], none)) _ ?_
      refine ev_seq_k fun K182 hn182 hr182 he182 => ?_
      refine ev_seq_k fun K183 hn183 hr183 he183 => ?_
      refine ev_ops_k fun K184 hk184 => ?_
      refine evL_take 2 fun K185 hk185 => ?_
      refine sh1 F6 ?_
      refine sd ?_
      refine hk185 _ ?_
      refine evL_take 1 fun K186 hk186 => ?_
      refine sh1 F6 ?_
      refine sd ?_
      refine hk186 _ ?_
      refine sh1 F6 ?_
      refine hk184 _ ?_
      refine hn183 (some ([0, 5, 6, 7, 8, 9, 10, 11, 12, 52, 91, 92, 93, 94, 95, 96, 97, 98], none)) _ ?_
      refine ev_cond_k rfl (fun hc3 => ?_) (fun hx => absurd hx (by simp at hx))
      clear hc3
      refine ev_seq_k fun K187 hn187 hr187 he187 => ?_
      refine ev_ops_k fun K188 hk188 => ?_
      refine evL_take 2 fun K189 hk189 => ?_
      refine sh1 F6 ?_
      refine sd ?_
      refine hk189 _ ?_
      refine evL_take 2 fun K190 hk190 => ?_
      refine sh1 F6 ?_
      refine sd ?_
      refine hk190 _ ?_
      refine evL_take 1 fun K191 hk191 => ?_
      refine sh1 F6 ?_
      refine hk191 _ ?_
      refine evL_take 1 fun K192 hk192 => ?_
      refine sh1 F6 ?_
      refine Or.inl (Or.inl ⟨_, c5, ?_⟩)
      refine hk192 _ ?_
      refine evL_take 5 fun K193 hk193 => ?_
      refine sh1 F6 ?_
      refine sd ?_
      refine hk193 _ ?_
      refine evL_take 1 fun K194 hk194 => ?_
      refine sh1 F6 ?_
      refine sd ?_
      refine hk194 _ ?_
      refine sh1 F6 ?_
      refine sd ?_
      refine hk188 _ ?_
      refine hn187 (some ([0, 5, 6, 7, 8, 9, 10, 11, 12], none)) _ ?_
      refine ev_seq_k fun K195 hn195 hr195 he195 => ?_
      refine ev_ops_k fun K196 hk196 => ?_
      refine evL_take 2 fun K197 hk197 => ?_
      refine sh1 F6 ?_
      refine sd ?_
      refine hk197 _ ?_
      refine sh1 F6 ?_
      refine sd ?_
      refine hk196 _ ?_
      refine hn195 (some ([0, 5, 6, 7, 8, 9, 10, 11], none)) _ ?_
      refine he182 1 _ ?_
      refine hx176 _ ?_
      refine hn175 (some ([0, 5, 6, 7, 8, 9, 10, 11], none)) _ ?_
      refine ev_ops_k fun K198 hk198 => ?_
      refine evL_take 2 fun K199 hk199 => ?_
      refine sh1 F6 ?_
      refine sd ?_
      refine hk199 _ ?_
      refine sh1 F6 ?_
      refine hk198 _ ?_
      refine hn31 (xs.length - (i + 1)) (some ([0, 5, 6, 7, 8, 9, 10, 11], some ([0, 1, 2], 3))) _ ?_ ?_
      all_goals try refine lp0 ?_
      · omega
      · exact ⟨i + 1, _, n, s0, n, s2, l0, true, l2, by omega, by omega, cnt_up (cnt_look hC 2) (by omega), by omega, by omega, by omega, by omega, rfl⟩
    · skip
      subst hl
      subst hs
      have d2 : (i : Int) < (xs.length : Int) := by have := (List.getElem?_eq_some_iff.1 hxi).1; omega
      have r0 : x.tmod 3 = 1 := by rw [← hm]; exact Int.tmod_eq_emod_of_nonneg hxr.1
      have r1 : IntKind.u8.wrap 1 = 1 := by decide
      have r2 : IntKind.i64.wrap 1 = 1 := by decide
      have r3 : IntKind.i64.wrap (1 + 1) = 2 := by decide
      have q3 : IntKind.i64.wrap ((i : Int) + 1) = ((i + 1 : Nat) : Int) := by rw [IntKind.wrap_i64]; omega
      have q4 : IntKind.i64.wrap (s1 + 1) = s1 + 1 := by rw [IntKind.wrap_i64]; omega
      obtain ⟨y1, y2⟩ := cnt_yes hC hp0.1 hp0.2 (t := 2) (by omega) (by omega) (s1 + 1)
      have c7 := ok_mSwap M 2 p (w2 s1) (w2 (s1 + 1)) hC.ok (by omega)
      rw [y1] at c7
      have c6 := ok_l4word (s1 + 1)
      have hE0 := eqsh_bool true true
      have F7 := And.intro F1 (And.intro @d2 (And.intro @hxi (And.intro @r0 (And.intro @r1 (And.intro @r2 (And.intro @r3 (And.intro @q3 @q4)))))))
      refine ev_seq_k fun K200 hn200 hr200 he200 => ?_
      refine ev_seq_k fun K201 hn201 hr201 he201 => ?_
      refine ev_ops_k fun K202 hk202 => ?_
      refine sh1 F7 ?_
      refine sd ?_
      refine hk202 _ ?_
      refine hn201 (some ([0, 5, 6, 7, 8, 9, 10, 11, 40, 91, 92, 93, 94, 95, 96, 97, 98, 112, 115, 116, 117, 118], none)) _ ?_
      refine ev_cond_k rfl (fun hc2 => ?_) (fun hx => absurd hx (by simp at hx))
      clear hc2
      refine hn200 (some ([0, 5, 6, 7, 8, 9, 10, 11, 91, 92, 93, 94, 95, 96, 97, 98], none)) _ ?_
      refine ev_seq_k fun K203 hn203 hr203 he203 => ?_
      refine ev_block_k fun K204 hn204 hx204 hr204 he204 => ?_
      refine ev_seq_k fun K205 hn205 hr205 he205 => ?_
      refine ev_ops_k fun K206 hk206 => ?_
      refine evL_take 3 fun K207 hk207 => ?_
      refine sh1 F7 ?_
      refine sd ?_
      refine hk207 _ ?_
      refine evL_take 1 fun K208 hk208 => ?_
      refine sh1 F7 ?_
      refine sd ?_
      refine hk208 _ ?_
      refine evL_take 1 fun K209 hk209 => ?_
      refine sh1 F7 ?_
      refine sd ?_
      refine hk209 _ ?_
      refine sh1 F7 ?_
      refine hk206 _ ?_
      refine hn205 (some ([0, 5, 6, 7, 8, 9, 10, 11, 12, 91, 92, 93, 94, 95, 96, 97, 98], none)) _ ?_
      refine ev_seq_k fun K210 hn210 hr210 he210 => ?_
      refine ev_seq_k fun K211 hn211 hr211 he211 => ?_
      refine ev_ops_k fun K212 hk212 => ?_
      refine evL_take 2 fun K213 hk213 => ?_
      refine sh1 F7 ?_
      refine sd ?_
      refine hk213 _ ?_
      refine evL_take 1 fun K214 hk214 => ?_
      refine sh1 F7 ?_
      refine sd ?_
      refine hk214 _ ?_
      refine sh1 F7 ?_
      refine hk212 _ ?_
      refine hn211 (some ([0, 5, 6, 7, 8, 9, 10, 11, 12, 52, 91, 92, 93, 94, 95, 96, 97, 98], none)) _ ?_
      refine ev_cond_k rfl (fun hx => absurd hx (by simp at hx)) (fun hc3 => ?_)
      clear hc3
      refine hn210 (some ([0, 5, 6, 7, 8, 9, 10, 11, 12, 91, 92, 93, 94, 95, 96, 97, 98], none)) _ ?_
      refine ev_seq_k fun K215 hn215 hr215 he215 => ?_
      refine ev_ops_k fun K216 hk216 => ?_
      refine evL_take 2 fun K217 hk217 => ?_
      refine sh1 F7 ?_
      refine sd ?_
      refine hk217 _ ?_
      refine sh1 F7 ?_
      refine sd ?_
      refine hk216 _ ?_
      refine hn215 (some ([0, 5, 6, 7, 8, 9, 10, 11, 12, 91, 92, 93, 94, 95, 96, 97, 98], none)) _ ?_
      refine ev_seq_k fun K218 hn218 hr218 he218 => ?_
      refine ev_drw_k [] (n := 21) fun K219 hk219 => ?_
      refine sq0 ?_
      refine evF_take 1 fun K221 hk221 => ?_
      refine sh1 F7 ?_
      refine sd ?_
      refine hk221 _ _ _ ?_
      refine evF_take 2 fun K222 hk222 => ?_
      refine sh1 F7 ?_
      refine sd ?_
      refine hk222 _ _ _ ?_
      refine evF_take 3 fun K223 hk223 => ?_
      refine sh1 F7 ?_
      refine sd ?_
      refine hk223 _ _ _ ?_
      refine evF_take 1 fun K224 hk224 => ?_
      refine sh1 F7 ?_
      refine sd ?_
      refine hk224 _ _ _ ?_
      refine evF_take 2 fun K225 hk225 => ?_
      refine sh1 F7 ?_
      refine sd ?_
      refine hk225 _ _ _ ?_
      refine evF_take 2 fun K226 hk226 => ?_
      refine sh1 F7 ?_
      refine sd ?_
      refine hk226 _ _ _ ?_
      refine evF_take 1 fun K227 hk227 => ?_
      refine sh1 F7 ?_
      refine sd ?_
      refine hk227 _ _ _ ?_
      refine evF_take 1 fun K228 hk228 => ?_
      refine sh1 F7 ?_
      refine ⟨_, c6, ?_⟩
      refine hk228 _ _ _ ?_
      refine evF_take 1 fun K229 hk229 => ?_
      refine sh1 F7 ?_
      refine ⟨_, c7, ?_⟩
      refine hk229 _ _ _ ?_
      refine sh1 F7 ?_
      refine hk219 _ ?_
      refine sr0 ?_
      refine evL_take 1 fun K230 hk230 => ?_
      refine sh1 F7 ?_
      refine sd ?_
      refine hk230 _ ?_
      refine evL_take 1 fun K231 hk231 => ?_
      refine sh1 F7 ?_
      refine sd ?_
      refine hk231 _ ?_
      refine sh1 F7 ?_
      refine hn218 (some ([0, 5, 6, 7, 8, 9, 10, 11, 12, 13, 15, 16, 91, 92, 93, 94, 95, 96, 97, 98], none)) _ ?_
      refine ev_seq_k fun K232 hn232 hr232 he232 => ?_
      refine ev_ops_k fun K233 hk233 => ?_
      refine evL_take 1 fun K234 hk234 => ?_
      refine sh1 F7 ?_
      refine sd ?_
      refine hk234 _ ?_
      refine sh1 F7 ?_
      refine sd ?_
      refine hk233 _ ?_
      refine hn232 (some ([0, 5, 6, 7, 8, 9, 10, 11, 12, 15, 16, 91, 92, 93, 94, 95, 96, 97, 98], none)) _ ?_
      refine ev_seq_k fun K235 hn235 hr235 he235 => ?_
      refine ev_seq_k fun K236 hn236 hr236 he236 => ?_
      refine ev_ops_k fun K237 hk237 => ?_
      refine evL_take 2 fun K238 hk238 => ?_
      refine sh1 F7 ?_
      refine sd ?_
      refine hk238 _ ?_
      refine evL_take 4 fun K239 hk239 => ?_
      refine sh1 F7 ?_
      refine sd ?_
      refine hk239 _ ?_
      refine evL_take 2 fun K240 hk240 => ?_
      refine sh1 F7 ?_
      refine sd ?_
      refine hk240 _ ?_
      refine evL_take 2 fun K241 hk241 => ?_
      refine sh1 F7 ?_
      refine sd ?_
      refine hk241 _ ?_
      refine evL_take 1 fun K242 hk242 => ?_
      refine sh1 F7 ?_
      refine Or.inl ⟨_, hE0, ?_⟩
      refine hk242 _ ?_
      refine sh1 F7 ?_
      refine hk237 _ ?_
      refine hn236 (some ([0, 5, 6, 7, 8, 9, 10, 11, 15, 99], none)) _ ?_
      refine ev_cond_k rfl (fun hx => absurd hx (by simp at hx)) (fun hc4 => ?_)
      clear hc4
      refine hn235 (some ([0, 5, 6, 7, 8, 9, 10, 11, 15], none)) _ ?_
      refine ev_seq_k fun K243 hn243 hr243 he243 => ?_
      refine ev_ops_k fun K244 hk244 => ?_
      refine sh1 F7 ?_
      refine hk244 _ ?_
      refine hn243 (some ([0, 5, 6, 7, 8, 9, 10, 11, 100], none)) _ ?_
      refine ev_cond_k rfl (fun hc5 => ?_) (fun hx => absurd hx (by simp at hx))
      clear hc5
      refine ev_ops_k fun K245 hk245 => ?_
      refine evL_take 2 fun K246 hk246 => ?_
      refine sh1 F7 ?_
      refine sd ?_
      refine hk246 _ ?_
      refine sh1 F7 ?_
      refine hk245 _ ?_
      refine hn204 _ ?_
      refine hn203 (some ([0, 5, 6, 7, 8, 9, 10, 11], none)) _ ?_
      refine ev_ops_k fun K247 hk247 => ?_
      refine evL_take 2 fun K248 hk248 => ?_
      refine sh1 F7 ?_
      refine sd ?_
      refine hk248 _ ?_
      refine sh1 F7 ?_
      refine hk247 _ ?_
      refine hn31 (xs.length - (i + 1)) (some ([0, 5, 6, 7, 8, 9, 10, 11], some ([0, 1, 2], 3))) _ ?_ ?_
      all_goals try refine lp0 ?_
      · omega
      · exact ⟨i + 1, _, s1 + 1, s0, s1, s2, l0, false, l2, by omega, by omega, cnt_up y2 (by omega), by omega, by omega, by omega, by omega, rfl⟩
    · skip
      subst hl
      have d2 : (i : Int) < (xs.length : Int) := by have := (List.getElem?_eq_some_iff.1 hxi).1; omega
      have r0 : x.tmod 3 = 1 := by rw [← hm]; exact Int.tmod_eq_emod_of_nonneg hxr.1
      have r1 : IntKind.u8.wrap 1 = 1 := by decide
      have r2 : IntKind.i64.wrap 1 = 1 := by decide
      have r3 : IntKind.i64.wrap (1 + 1) = 2 := by decide
      have q3 : IntKind.i64.wrap ((i : Int) + 1) = ((i + 1 : Nat) : Int) := by rw [IntKind.wrap_i64]; omega
      have q4 : IntKind.i64.wrap (s1 + 1) = s1 + 1 := by rw [IntKind.wrap_i64]; omega
      have q5 : (s1 == n) = false := by simpa using hs
      have c7 := ok_mSwap M 2 p (w2 s1) (w2 (s1 + 1)) hC.ok (by omega)
      rw [cnt_no hC hp0.1 hp0.2 (by omega) (by omega) hs] at c7
      have c6 := ok_l4word (s1 + 1)
      have hE0 := eqsh_bool false false
      have F8 := And.intro F1 (And.intro @d2 (And.intro @hxi (And.intro @r0 (And.intro @r1 (And.intro @r2 (And.intro @r3 (And.intro @q3 (And.intro @q4 @q5))))))))
      refine ev_seq_k fun K249 hn249 hr249 he249 => ?_
      refine ev_seq_k fun K250 hn250 hr250 he250 => ?_
      refine ev_ops_k fun K251 hk251 => ?_
      refine sh1 F8 ?_
      refine sd ?_
      refine hk251 _ ?_
      refine hn250 (some ([0, 5, 6, 7, 8, 9, 10, 11, 40, 91, 92, 93, 94, 95, 96, 97, 98, 112, 115, 116, 117, 118], none)) _ ?_
      refine ev_cond_k rfl (fun hc2 => ?_) (fun hx => absurd hx (by simp at hx))
      clear hc2
      refine hn249 (some ([0, 5, 6, 7, 8, 9, 10, 11, 91, 92, 93, 94, 95, 96, 97, 98], none)) _ ?_
      refine ev_seq_k fun K252 hn252 hr252 he252 => ?_
      refine ev_block_k fun K253 hn253 hx253 hr253 he253 => ?_
      refine ev_seq_k fun K254 hn254 hr254 he254 => ?_
      refine ev_ops_k fun K255 hk255 => ?_
      refine evL_take 3 fun K256 hk256 => ?_
      refine sh1 F8 ?_
      refine sd ?_
      refine hk256 _ ?_
      refine evL_take 1 fun K257 hk257 => ?_
      refine sh1 F8 ?_
      refine sd ?_
      refine hk257 _ ?_
      refine evL_take 1 fun K258 hk258 => ?_
      refine sh1 F8 ?_
      refine sd ?_
      refine hk258 _ ?_
      refine sh1 F8 ?_
      refine hk255 _ ?_
      refine hn254 (some ([0, 5, 6, 7, 8, 9, 10, 11, 12, 91, 92, 93, 94, 95, 96, 97, 98], none)) _ ?_
      refine ev_seq_k fun K259 hn259 hr259 he259 => ?_
      refine ev_seq_k fun K260 hn260 hr260 he260 => ?_
      refine ev_ops_k fun K261 hk261 => ?_
      refine evL_take 2 fun K262 hk262 => ?_
      refine sh1 F8 ?_
      refine sd ?_
      refine hk262 _ ?_
      refine evL_take 1 fun K263 hk263 => ?_
      refine sh1 F8 ?_
      refine sd ?_
      refine hk263 _ ?_
      refine sh1 F8 ?_
      refine hk261 _ ?_
      refine hn260 (some ([0, 5, 6, 7, 8, 9, 10, 11, 12, 52, 91, 92, 93, 94, 95, 96, 97, 98], none)) _ ?_
      refine ev_cond_k rfl (fun hx => absurd hx (by simp at hx)) (fun hc3 => ?_)
      clear hc3
      refine hn259 (some ([0, 5, 6, 7, 8, 9, 10, 11, 12, 91, 92, 93, 94, 95, 96, 97, 98], none)) _ ?_
      refine ev_seq_k fun K264 hn264 hr264 he264 => ?_
      refine ev_ops_k fun K265 hk265 => ?_
      refine evL_take 2 fun K266 hk266 => ?_
      refine sh1 F8 ?_
      refine sd ?_
      refine hk266 _ ?_
      refine sh1 F8 ?_
      refine sd ?_
      refine hk265 _ ?_
      refine hn264 (some ([0, 5, 6, 7, 8, 9, 10, 11, 12, 91, 92, 93, 94, 95, 96, 97, 98], none)) _ ?_
      refine ev_seq_k fun K267 hn267 hr267 he267 => ?_
      refine ev_drw_k [] (n := 21) fun K268 hk268 => ?_
      refine sq0 ?_
      refine evF_take 1 fun K270 hk270 => ?_
      refine sh1 F8 ?_
      refine sd ?_
      refine hk270 _ _ _ ?_
      refine evF_take 2 fun K271 hk271 => ?_
      refine sh1 F8 ?_
      refine sd ?_
      refine hk271 _ _ _ ?_
      refine evF_take 3 fun K272 hk272 => ?_
      refine sh1 F8 ?_
      refine sd ?_
      refine hk272 _ _ _ ?_
      refine evF_take 1 fun K273 hk273 => ?_
      refine sh1 F8 ?_
      refine sd ?_
      refine hk273 _ _ _ ?_
      refine evF_take 2 fun K274 hk274 => ?_
      refine sh1 F8 ?_
      refine sd ?_
      refine hk274 _ _ _ ?_
      refine evF_take 2 fun K275 hk275 => ?_
      refine sh1 F8 ?_
      refine sd ?_
      refine hk275 _ _ _ ?_
      refine evF_take 1 fun K276 hk276 => ?_
      refine sh1 F8 ?_
      refine sd ?_
      refine hk276 _ _ _ ?_
      refine evF_take 1 fun K277 hk277 => ?_
      refine sh1 F8 ?_
      refine ⟨_, c6, ?_⟩
      refine hk277 _ _ _ ?_
      refine evF_take 1 fun K278 hk278 => ?_
      refine sh1 F8 ?_
      refine ⟨_, c7, ?_⟩
      refine hk278 _ _ _ ?_
      refine sh1 F8 ?_
      refine hk268 _ ?_
      refine sr0 ?_
      refine evL_take 1 fun K279 hk279 => ?_
      refine sh1 F8 ?_
      refine sd ?_
      refine hk279 _ ?_
      refine evL_take 1 fun K280 hk280 => ?_
      refine sh1 F8 ?_
      refine sd ?_
      refine hk280 _ ?_
      refine sh1 F8 ?_
      refine hn267 (some ([0, 5, 6, 7, 8, 9, 10, 11, 12, 13, 15, 16, 91, 92, 93, 94, 95, 96, 97, 98], none)) _ ?_
      refine ev_seq_k fun K281 hn281 hr281 he281 => ?_
      refine ev_ops_k fun K282 hk282 => ?_
      refine evL_take 1 fun K283 hk283 => ?_
      refine sh1 F8 ?_
      refine sd ?_
      refine hk283 _ ?_
      refine sh1 F8 ?_
      refine sd ?_
      refine hk282 _ ?_
      refine hn281 (some ([0, 5, 6, 7, 8, 9, 10, 11, 12, 15, 16, 91, 92, 93, 94, 95, 96, 97, 98], none)) _ ?_
      refine ev_seq_k fun K284 hn284 hr284 he284 => ?_
      refine ev_seq_k fun K285 hn285 hr285 he285 => ?_
      refine ev_ops_k fun K286 hk286 => ?_
      refine evL_take 2 fun K287 hk287 => ?_
      refine sh1 F8 ?_
      refine sd ?_
      refine hk287 _ ?_
      refine evL_take 4 fun K288 hk288 => ?_
      refine sh1 F8 ?_
      refine sd ?_
      refine hk288 _ ?_
      refine evL_take 2 fun K289 hk289 => ?_
      refine sh1 F8 ?_
      refine sd ?_
      refine hk289 _ ?_
      refine evL_take 2 fun K290 hk290 => ?_
      refine sh1 F8 ?_
      refine sd ?_
      refine hk290 _ ?_
      refine evL_take 1 fun K291 hk291 => ?_
      refine sh1 F8 ?_
      refine Or.inl ⟨_, hE0, ?_⟩
      refine hk291 _ ?_
      refine sh1 F8 ?_
      refine hk286 _ ?_
      refine hn285 (some ([0, 5, 6, 7, 8, 9, 10, 11, 15, 99], none)) _ ?_
      refine ev_cond_k rfl (fun hx => absurd hx (by simp at hx)) (fun hc4 => ?_)
      clear hc4
      refine hn284 (some ([0, 5, 6, 7, 8, 9, 10, 11, 15], none)) _ ?_
      refine ev_seq_k fun K292 hn292 hr292 he292 => ?_
      refine ev_ops_k fun K293 hk293 => ?_
      refine sh1 F8 ?_
      refine hk293 _ ?_
      refine hn292 (some ([0, 5, 6, 7, 8, 9, 10, 11, 100], none)) _ ?_
      refine ev_cond_k rfl (fun hx => absurd hx (by simp at hx)) (fun hc5 => ?_)
      clear hc5
      refine hn253 _ ?_
      refine hn252 (some ([0, 5, 6, 7, 8, 9, 10, 11], none)) _ ?_
      refine ev_ops_k fun K294 hk294 => ?_
      refine evL_take 2 fun K295 hk295 => ?_
      refine sh1 F8 ?_
      refine sd ?_
      refine hk295 _ ?_
      refine sh1 F8 ?_
      refine hk294 _ ?_
      refine hn31 (xs.length - (i + 1)) (some ([0, 5, 6, 7, 8, 9, 10, 11], some ([0, 1, 2], 3))) _ ?_ ?_
      all_goals try refine lp0 ?_
      · omega
      · exact ⟨i + 1, _, n, s0, s1, s2, l0, false, l2, by omega, by omega, cnt_up (cnt_look hC 2) (by omega), by omega, by omega, by omega, by omega, rfl⟩
    · skip
      subst hl
      have d2 : (i : Int) < (xs.length : Int) := by have := (List.getElem?_eq_some_iff.1 hxi).1; omega
      have r0 : x.tmod 3 = 2 := by rw [← hm]; exact Int.tmod_eq_emod_of_nonneg hxr.1
      have r1 : IntKind.u8.wrap 2 = 2 := by decide
      have r2 : IntKind.i64.wrap 2 = 2 := by decide
      have r3 : IntKind.i64.wrap (2 + 1) = 3 := by decide
      have q3 : IntKind.i64.wrap ((i : Int) + 1) = ((i + 1 : Nat) : Int) := by rw [IntKind.wrap_i64]; omega
      have c5 := ok_mLook M 3 p hC.ok (by omega)
      rw [look_word (cnt_thr hC (by omega) (by omega)) (cnt_plc hC hp0.1 hp0.2), hC.last] at c5
      have F9 := And.intro F1 (And.intro @d2 (And.intro @hxi (And.intro @r0 (And.intro @r1 (And.intro @r2 (And.intro @r3 @q3))))))
      refine ev_seq_k fun K296 hn296 hr296 he296 => ?_
      refine ev_seq_k fun K297 hn297 hr297 he297 => ?_
      refine ev_ops_k fun K298 hk298 => ?_
      refine sh1 F9 ?_
      refine sd ?_
      refine hk298 _ ?_
      refine hn297 (some ([0, 5, 6, 7, 8, 9, 10, 11, 40, 91, 92, 93, 94, 95, 96, 97, 98, 112, 115, 116, 117, 118], none)) _ ?_
      refine ev_cond_k rfl (fun hc2 => ?_) (fun hx => absurd hx (by simp at hx))
      clear hc2
      refine hn296 (some ([0, 5, 6, 7, 8, 9, 10, 11, 91, 92, 93, 94, 95, 96, 97, 98], none)) _ ?_
      refine ev_seq_k fun K299 hn299 hr299 he299 => ?_
      refine ev_block_k fun K300 hn300 hx300 hr300 he300 => ?_
      refine ev_seq_k fun K301 hn301 hr301 he301 => ?_
      refine ev_ops_k fun K302 hk302 => ?_
      refine evL_take 3 fun K303 hk303 => ?_
      refine sh1 F9 ?_
      refine sd ?_
      refine hk303 _ ?_
      refine evL_take 1 fun K304 hk304 => ?_
      refine sh1 F9 ?_
      refine sd ?_
      refine hk304 _ ?_
      refine evL_take 1 fun K305 hk305 => ?_
      refine sh1 F9 ?_
      refine sd ?_
      refine hk305 _ ?_
      refine sh1 F9 ?_
      refine hk302 _ ?_
      refine hn301 (some ([0, 5, 6, 7, 8, 9, 10, 11, 12, 91, 92, 93, 94, 95, 96, 97, 98], none)) _ ?_
      refine ev_seq_k fun K306 hn306 hr306 he306 => ?_
      refine ev_seq_k fun K307 hn307 hr307 he307 => ?_
      refine ev_ops_k fun K308 hk308 => ?_
      refine evL_take 2 fun K309 hk309 => ?_
      refine sh1 F9 ?_
      refine sd ?_
      refine hk309 _ ?_
      refine evL_take 1 fun K310 hk310 => ?_
      refine sh1 F9 ?_
      refine sd ?_
      refine hk310 _ ?_
      refine sh1 F9 ?_
      refine hk308 _ ?_
      refine hn307 (some ([0, 5, 6, 7, 8, 9, 10, 11, 12, 52, 91, 92, 93, 94, 95, 96, 97, 98], none)) _ ?_
      refine ev_cond_k rfl (fun hc3 => ?_) (fun hx => absurd hx (by simp at hx))
      clear hc3
      refine ev_seq_k fun K311 hn311 hr311 he311 => ?_
      refine ev_ops_k fun K312 hk312 => ?_
      refine evL_take 2 fun K313 hk313 => ?_
      refine sh1 F9 ?_
      refine sd ?_
      refine hk313 _ ?_
      refine evL_take 2 fun K314 hk314 => ?_
      refine sh1 F9 ?_
      refine sd ?_
      refine hk314 _ ?_
      refine evL_take 1 fun K315 hk315 => ?_
      refine sh1 F9 ?_
      refine hk315 _ ?_
      refine evL_take 1 fun K316 hk316 => ?_
      refine sh1 F9 ?_
      refine Or.inl (Or.inl ⟨_, c5, ?_⟩)
      refine hk316 _ ?_
      refine evL_take 5 fun K317 hk317 => ?_
      refine sh1 F9 ?_
      refine sd ?_
      refine hk317 _ ?_
      refine evL_take 1 fun K318 hk318 => ?_
      refine sh1 F9 ?_
      refine sd ?_
      refine hk318 _ ?_
      refine sh1 F9 ?_
      refine sd ?_
      refine hk312 _ ?_
      refine hn311 (some ([0, 5, 6, 7, 8, 9, 10, 11, 12], none)) _ ?_
      refine ev_seq_k fun K319 hn319 hr319 he319 => ?_
      refine ev_ops_k fun K320 hk320 => ?_
      refine evL_take 2 fun K321 hk321 => ?_
      refine sh1 F9 ?_
      refine sd ?_
      refine hk321 _ ?_
      refine sh1 F9 ?_
      refine sd ?_
      refine hk320 _ ?_
      refine hn319 (some ([0, 5, 6, 7, 8, 9, 10, 11], none)) _ ?_
      refine he306 1 _ ?_
      refine hx300 _ ?_
      refine hn299 (some ([0, 5, 6, 7, 8, 9, 10, 11], none)) _ ?_
      refine ev_ops_k fun K322 hk322 => ?_
      refine evL_take 2 fun K323 hk323 => ?_
      refine sh1 F9 ?_
      refine sd ?_
      refine hk323 _ ?_
      refine sh1 F9 ?_
      refine hk322 _ ?_
      refine hn31 (xs.length - (i + 1)) (some ([0, 5, 6, 7, 8, 9, 10, 11], some ([0, 1, 2], 3))) _ ?_ ?_
      all_goals try refine lp0 ?_
      · omega
      · exact ⟨i + 1, _, n, s0, s1, n, l0, l1, true, by omega, by omega, cnt_up (cnt_look hC 3) (by omega), by omega, by omega, by omega, by omega, rfl⟩
    · skip
      subst hl
      subst hs
      have d2 : (i : Int) < (xs.length : Int) := by have := (List.getElem?_eq_some_iff.1 hxi).1; omega
      have r0 : x.tmod 3 = 2 := by rw [← hm]; exact Int.tmod_eq_emod_of_nonneg hxr.1
      have r1 : IntKind.u8.wrap 2 = 2 := by decide
      have r2 : IntKind.i64.wrap 2 = 2 := by decide
      have r3 : IntKind.i64.wrap (2 + 1) = 3 := by decide
      have q3 : IntKind.i64.wrap ((i : Int) + 1) = ((i + 1 : Nat) : Int) := by rw [IntKind.wrap_i64]; omega
      have q4 : IntKind.i64.wrap (s2 + 1) = s2 + 1 := by rw [IntKind.wrap_i64]; omega
      obtain ⟨y1, y2⟩ := cnt_yes hC hp0.1 hp0.2 (t := 3) (by omega) (by omega) (s2 + 1)
      have c7 := ok_mSwap M 3 p (w2 s2) (w2 (s2 + 1)) hC.ok (by omega)
      rw [y1] at c7
      have c6 := ok_l4word (s2 + 1)
      have hE0 := eqsh_bool true true
      have F10 := And.intro F1 (And.intro @d2 (And.intro @hxi (And.intro @r0 (And.intro @r1 (And.intro @r2 (And.intro @r3 (And.intro @q3 @q4)))))))
      refine ev_seq_k fun K324 hn324 hr324 he324 => ?_
      refine ev_seq_k fun K325 hn325 hr325 he325 => ?_
      refine ev_ops_k fun K326 hk326 => ?_
      refine sh1 F10 ?_
      refine sd ?_
      refine hk326 _ ?_
      refine hn325 (some ([0, 5, 6, 7, 8, 9, 10, 11, 40, 91, 92, 93, 94, 95, 96, 97, 98, 112, 115, 116, 117, 118], none)) _ ?_
      refine ev_cond_k rfl (fun hc2 => ?_) (fun hx => absurd hx (by simp at hx))
      clear hc2
      refine hn324 (some ([0, 5, 6, 7, 8, 9, 10, 11, 91, 92, 93, 94, 95, 96, 97, 98], none)) _ ?_
      refine ev_seq_k fun K327 hn327 hr327 he327 => ?_
      refine ev_block_k fun K328 hn328 hx328 hr328 he328 => ?_
      refine ev_seq_k fun K329 hn329 hr329 he329 => ?_
      refine ev_ops_k fun K330 hk330 => ?_
      refine evL_take 3 fun K331 hk331 => ?_
      refine sh1 F10 ?_
      refine sd ?_
      refine hk331 _ ?_
      refine evL_take 1 fun K332 hk332 => ?_
      refine sh1 F10 ?_
      refine sd ?_
      refine hk332 _ ?_
      refine evL_take 1 fun K333 hk333 => ?_
      refine sh1 F10 ?_
      refine sd ?_
      refine hk333 _ ?_
      refine sh1 F10 ?_
      refine hk330 _ ?_
      refine hn329 (some ([0, 5, 6, 7, 8, 9, 10, 11, 12, 91, 92, 93, 94, 95, 96, 97, 98], none)) _ ?_
      refine ev_seq_k fun K334 hn334 hr334 he334 => ?_
      refine ev_seq_k fun K335 hn335 hr335 he335 => ?_
      refine ev_ops_k fun K336 hk336 => ?_
      refine evL_take 2 fun K337 hk337 => ?_
      refine sh1 F10 ?_
      refine sd ?_
      refine hk337 _ ?_
      refine evL_take 1 fun K338 hk338 => ?_
      refine sh1 F10 ?_
      refine sd ?_
      refine hk338 _ ?_
      refine sh1 F10 ?_
      refine hk336 _ ?_
      refine hn335 (some ([0, 5, 6, 7, 8, 9, 10, 11, 12, 52, 91, 92, 93, 94, 95, 96, 97, 98], none)) _ ?_
      refine ev_cond_k rfl (fun hx => absurd hx (by simp at hx)) (fun hc3 => ?_)
      clear hc3
      refine hn334 (some ([0, 5, 6, 7, 8, 9, 10, 11, 12, 91, 92, 93, 94, 95, 96, 97, 98], none)) _ ?_
      refine ev_seq_k fun K339 hn339 hr339 he339 => ?_
      refine ev_ops_k fun K340 hk340 => ?_
      refine evL_take 2 fun K341 hk341 => ?_
      refine sh1 F10 ?_
      refine sd ?_
      refine hk341 _ ?_
      refine sh1 F10 ?_
      refine sd ?_
      refine hk340 _ ?_
      refine hn339 (some ([0, 5, 6, 7, 8, 9, 10, 11, 12, 91, 92, 93, 94, 95, 96, 97, 98], none)) _ ?_
      refine ev_seq_k fun K342 hn342 hr342 he342 => ?_
      refine ev_drw_k [] (n := 21) fun K343 hk343 => ?_
      refine sq0 ?_
      refine evF_take 1 fun K345 hk345 => ?_
      refine sh1 F10 ?_
      refine sd ?_
      refine hk345 _ _ _ ?_
      refine evF_take 2 fun K346 hk346 => ?_
      refine sh1 F10 ?_
      refine sd ?_
      refine hk346 _ _ _ ?_
      refine evF_take 3 fun K347 hk347 => ?_
      refine sh1 F10 ?_
      refine sd ?_
      refine hk347 _ _ _ ?_
      refine evF_take 1 fun K348 hk348 => ?_
      refine sh1 F10 ?_
      refine sd ?_
      refine hk348 _ _ _ ?_
      refine evF_take 2 fun K349 hk349 => ?_
      refine sh1 F10 ?_
      refine sd ?_
      refine hk349 _ _ _ ?_
      refine evF_take 2 fun K350 hk350 => ?_
      refine sh1 F10 ?_
      refine sd ?_
      refine hk350 _ _ _ ?_
      refine evF_take 1 fun K351 hk351 => ?_
      refine sh1 F10 ?_
      refine sd ?_
      refine hk351 _ _ _ ?_
      refine evF_take 1 fun K352 hk352 => ?_
      refine sh1 F10 ?_
      refine ⟨_, c6, ?_⟩
      refine hk352 _ _ _ ?_
      refine evF_take 1 fun K353 hk353 => ?_
      refine sh1 F10 ?_
      refine ⟨_, c7, ?_⟩
      refine hk353 _ _ _ ?_
      refine sh1 F10 ?_
      refine hk343 _ ?_
      refine sr0 ?_
      refine evL_take 1 fun K354 hk354 => ?_
      refine sh1 F10 ?_
      refine sd ?_
      refine hk354 _ ?_
      refine evL_take 1 fun K355 hk355 => ?_
      refine sh1 F10 ?_
      refine sd ?_
      refine hk355 _ ?_
      refine sh1 F10 ?_
      refine hn342 (some ([0, 5, 6, 7, 8, 9, 10, 11, 12, 13, 15, 16, 91, 92, 93, 94, 95, 96, 97, 98], none)) _ ?_
      refine ev_seq_k fun K356 hn356 hr356 he356 => ?_
      refine ev_ops_k fun K357 hk357 => ?_
      refine evL_take 1 fun K358 hk358 => ?_
      refine sh1 F10 ?_
      refine sd ?_
      refine hk358 _ ?_
      refine sh1 F10 ?_
      refine sd ?_
      refine hk357 _ ?_
      refine hn356 (some ([0, 5, 6, 7, 8, 9, 10, 11, 12, 15, 16, 91, 92, 93, 94, 95, 96, 97, 98], none)) _ ?_
      refine ev_seq_k fun K359 hn359 hr359 he359 => ?_
      refine ev_seq_k fun K360 hn360 hr360 he360 => ?_
      refine ev_ops_k fun K361 hk361 => ?_
      refine evL_take 2 fun K362 hk362 => ?_
      refine sh1 F10 ?_
      refine sd ?_
      refine hk362 _ ?_
      refine evL_take 4 fun K363 hk363 => ?_
      refine sh1 F10 ?_
      refine sd ?_
      refine hk363 _ ?_
      refine evL_take 2 fun K364 hk364 => ?_
      refine sh1 F10 ?_
      refine sd ?_
      refine hk364 _ ?_
      refine evL_take 2 fun K365 hk365 => ?_
      refine sh1 F10 ?_
      refine sd ?_
      refine hk365 _ ?_
      refine evL_take 1 fun K366 hk366 => ?_
      refine sh1 F10 ?_
      refine Or.inl ⟨_, hE0, ?_⟩
      refine hk366 _ ?_
      refine sh1 F10 ?_
      refine hk361 _ ?_
      refine hn360 (some ([0, 5, 6, 7, 8, 9, 10, 11, 15, 99], none)) _ ?_
      refine ev_cond_k rfl (fun hx => absurd hx (by simp at hx)) (fun hc4 => ?_)
      clear hc4
      refine hn359 (some ([0, 5, 6, 7, 8, 9, 10, 11, 15], none)) _ ?_
      refine ev_seq_k fun K367 hn367 hr367 he367 => ?_
      refine ev_ops_k fun K368 hk368 => ?_
      refine sh1 F10 ?_
      refine hk368 _ ?_
      refine hn367 (some ([0, 5, 6, 7, 8, 9, 10, 11, 100], none)) _ ?_
      refine ev_cond_k rfl (fun hc5 => ?_) (fun hx => absurd hx (by simp at hx))
      clear hc5
      refine ev_ops_k fun K369 hk369 => ?_
      refine evL_take 2 fun K370 hk370 => ?_
      refine sh1 F10 ?_
      refine sd ?_
      refine hk370 _ ?_
      refine sh1 F10 ?_
      refine hk369 _ ?_
      refine hn328 _ ?_
      refine hn327 (some ([0, 5, 6, 7, 8, 9, 10, 11], none)) _ ?_
      refine ev_ops_k fun K371 hk371 => ?_
      refine evL_take 2 fun K372 hk372 => ?_
      refine sh1 F10 ?_
      refine sd ?_
      refine hk372 _ ?_
      refine sh1 F10 ?_
      refine hk371 _ ?_
      refine hn31 (xs.length - (i + 1)) (some ([0, 5, 6, 7, 8, 9, 10, 11], some ([0, 1, 2], 3))) _ ?_ ?_
      all_goals try refine lp0 ?_
      · omega
      · exact ⟨i + 1, _, s2 + 1, s0, s1, s2, l0, l1, false, by omega, by omega, cnt_up y2 (by omega), by omega, by omega, by omega, by omega, rfl⟩
    · skip
      subst hl
      have d2 : (i : Int) < (xs.length : Int) := by have := (List.getElem?_eq_some_iff.1 hxi).1; omega
      have r0 : x.tmod 3 = 2 := by rw [← hm]; exact Int.tmod_eq_emod_of_nonneg hxr.1
      have r1 : IntKind.u8.wrap 2 = 2 := by decide
      have r2 : IntKind.i64.wrap 2 = 2 := by decide
      have r3 : IntKind.i64.wrap (2 + 1) = 3 := by decide
      have q3 : IntKind.i64.wrap ((i : Int) + 1) = ((i + 1 : Nat) : Int) := by rw [IntKind.wrap_i64]; omega
      have q4 : IntKind.i64.wrap (s2 + 1) = s2 + 1 := by rw [IntKind.wrap_i64]; omega
      have q5 : (s2 == n) = false := by simpa using hs
      have c7 := ok_mSwap M 3 p (w2 s2) (w2 (s2 + 1)) hC.ok (by omega)
      rw [cnt_no hC hp0.1 hp0.2 (by omega) (by omega) hs] at c7
      have c6 := ok_l4word (s2 + 1)
      have hE0 := eqsh_bool false false
      have F11 := And.intro F1 (And.intro @d2 (And.intro @hxi (And.intro @r0 (And.intro @r1 (And.intro @r2 (And.intro @r3 (And.intro @q3 (And.intro @q4 @q5))))))))
      refine ev_seq_k fun K373 hn373 hr373 he373 => ?_
      refine ev_seq_k fun K374 hn374 hr374 he374 => ?_
      refine ev_ops_k fun K375 hk375 => ?_
      refine sh1 F11 ?_
      refine sd ?_
      refine hk375 _ ?_
      refine hn374 (some ([0, 5, 6, 7, 8, 9, 10, 11, 40, 91, 92, 93, 94, 95, 96, 97, 98, 112, 115, 116, 117, 118], none)) _ ?_
      refine ev_cond_k rfl (fun hc2 => ?_) (fun hx => absurd hx (by simp at hx))
      clear hc2
      refine hn373 (some ([0, 5, 6, 7, 8, 9, 10, 11, 91, 92, 93, 94, 95, 96, 97, 98], none)) _ ?_
      refine ev_seq_k fun K376 hn376 hr376 he376 => ?_
      refine ev_block_k fun K377 hn377 hx377 hr377 he377 => ?_
      refine ev_seq_k fun K378 hn378 hr378 he378 => ?_
      refine ev_ops_k fun K379 hk379 => ?_
      refine evL_take 3 fun K380 hk380 => ?_
      refine sh1 F11 ?_
      refine sd ?_
      refine hk380 _ ?_
      refine evL_take 1 fun K381 hk381 => ?_
      refine sh1 F11 ?_
      refine sd ?_
      refine hk381 _ ?_
      refine evL_take 1 fun K382 hk382 => ?_
      refine sh1 F11 ?_
      refine sd ?_
      refine hk382 _ ?_
      refine sh1 F11 ?_
      refine hk379 _ ?_
      refine hn378 (some ([0, 5, 6, 7, 8, 9, 10, 11, 12, 91, 92, 93, 94, 95, 96, 97, 98], none)) _ ?_
      refine ev_seq_k fun K383 hn383 hr383 he383 => ?_
      refine ev_seq_k fun K384 hn384 hr384 he384 => ?_
      refine ev_ops_k fun K385 hk385 => ?_
      refine evL_take 2 fun K386 hk386 => ?_
      refine sh1 F11 ?_
      refine sd ?_
      refine hk386 _ ?_
      refine evL_take 1 fun K387 hk387 => ?_
      refine sh1 F11 ?_
      refine sd ?_
      refine hk387 _ ?_
      refine sh1 F11 ?_
      refine hk385 _ ?_
      refine hn384 (some ([0, 5, 6, 7, 8, 9, 10, 11, 12, 52, 91, 92, 93, 94, 95, 96, 97, 98], none)) _ ?_
      refine ev_cond_k rfl (fun hx => absurd hx (by simp at hx)) (fun hc3 => ?_)
      clear hc3
      refine hn383 (some ([0, 5, 6, 7, 8, 9, 10, 11, 12, 91, 92, 93, 94, 95, 96, 97, 98], none)) _ ?_
      refine ev_seq_k fun K388 hn388 hr388 he388 => ?_
      refine ev_ops_k fun K389 hk389 => ?_
      refine evL_take 2 fun K390 hk390 => ?_
      refine sh1 F11 ?_
      refine sd ?_
      refine hk390 _ ?_
      refine sh1 F11 ?_
      refine sd ?_
      refine hk389 _ ?_
      refine hn388 (some ([0, 5, 6, 7, 8, 9, 10, 11, 12, 91, 92, 93, 94, 95, 96, 97, 98], none)) _ ?_
      refine ev_seq_k fun K391 hn391 hr391 he391 => ?_
      refine ev_drw_k [] (n := 21) fun K392 hk392 => ?_
      refine sq0 ?_
      refine evF_take 1 fun K394 hk394 => ?_
      refine sh1 F11 ?_
      refine sd ?_
      refine hk394 _ _ _ ?_
      refine evF_take 2 fun K395 hk395 => ?_
      refine sh1 F11 ?_
      refine sd ?_
      refine hk395 _ _ _ ?_
      refine evF_take 3 fun K396 hk396 => ?_
      refine sh1 F11 ?_
      refine sd ?_
      refine hk396 _ _ _ ?_
      refine evF_take 1 fun K397 hk397 => ?_
      refine sh1 F11 ?_
      refine sd ?_
      refine hk397 _ _ _ ?_
      refine evF_take 2 fun K398 hk398 => ?_
      refine sh1 F11 ?_
      refine sd ?_
      refine hk398 _ _ _ ?_
      refine evF_take 2 fun K399 hk399 => ?_
      refine sh1 F11 ?_
      refine sd ?_
      refine hk399 _ _ _ ?_
      refine evF_take 1 fun K400 hk400 => ?_
      refine sh1 F11 ?_
      refine sd ?_
      refine hk400 _ _ _ ?_
      refine evF_take 1 fun K401 hk401 => ?_
      refine sh1 F11 ?_
      refine ⟨_, c6, ?_⟩
      refine hk401 _ _ _ ?_
      refine evF_take 1 fun K402 hk402 => ?_
      refine sh1 F11 ?_
      refine ⟨_, c7, ?_⟩
      refine hk402 _ _ _ ?_
      refine sh1 F11 ?_
      refine hk392 _ ?_
      refine sr0 ?_
      refine evL_take 1 fun K403 hk403 => ?_
      refine sh1 F11 ?_
      refine sd ?_
      refine hk403 _ ?_
      refine evL_take 1 fun K404 hk404 => ?_
      refine sh1 F11 ?_
      refine sd ?_
      refine hk404 _ ?_
      refine sh1 F11 ?_
      refine hn391 (some ([0, 5, 6, 7, 8, 9, 10, 11, 12, 13, 15, 16, 91, 92, 93, 94, 95, 96, 97, 98], none)) _ ?_
      refine ev_seq_k fun K405 hn405 hr405 he405 => ?_
      refine ev_ops_k fun K406 hk406 => ?_
      refine evL_take 1 fun K407 hk407 => ?_
      refine sh1 F11 ?_
      refine sd ?_
      refine hk407 _ ?_
      refine sh1 F11 ?_
      refine sd ?_
      refine hk406 _ ?_
      refine hn405 (some ([0, 5, 6, 7, 8, 9, 10, 11, 12, 15, 16, 91, 92, 93, 94, 95, 96, 97, 98], none)) _ ?_
      refine ev_seq_k fun K408 hn408 hr408 he408 => ?_
      refine ev_seq_k fun K409 hn409 hr409 he409 => ?_
      refine ev_ops_k fun K410 hk410 => ?_
      refine evL_take 2 fun K411 hk411 => ?_
      refine sh1 F11 ?_
      refine sd ?_
      refine hk411 _ ?_
      refine evL_take 4 fun K412 hk412 => ?_
      refine sh1 F11 ?_
      refine sd ?_
      refine hk412 _ ?_
      refine evL_take 2 fun K413 hk413 => ?_
      refine sh1 F11 ?_
      refine sd ?_
      refine hk413 _ ?_
      refine evL_take 2 fun K414 hk414 => ?_
      refine sh1 F11 ?_
      refine sd ?_
      refine hk414 _ ?_
      refine evL_take 1 fun K415 hk415 => ?_
      refine sh1 F11 ?_
      refine Or.inl ⟨_, hE0, ?_⟩
      refine hk415 _ ?_
      refine sh1 F11 ?_
      refine hk410 _ ?_
      refine hn409 (some ([0, 5, 6, 7, 8, 9, 10, 11, 15, 99], none)) _ ?_
      refine ev_cond_k rfl (fun hx => absurd hx (by simp at hx)) (fun hc4 => ?_)
      clear hc4
      refine hn408 (some ([0, 5, 6, 7, 8, 9, 10, 11, 15], none)) _ ?_
      refine ev_seq_k fun K416 hn416 hr416 he416 => ?_
      refine ev_ops_k fun K417 hk417 => ?_
      refine sh1 F11 ?_
      refine hk417 _ ?_
      refine hn416 (some ([0, 5, 6, 7, 8, 9, 10, 11, 100], none)) _ ?_
      refine ev_cond_k rfl (fun hx => absurd hx (by simp at hx)) (fun hc5 => ?_)
      clear hc5
      refine hn377 _ ?_
      refine hn376 (some ([0, 5, 6, 7, 8, 9, 10, 11], none)) _ ?_
      refine ev_ops_k fun K418 hk418 => ?_
      refine evL_take 2 fun K419 hk419 => ?_
      refine sh1 F11 ?_
      refine sd ?_
      refine hk419 _ ?_
      refine sh1 F11 ?_
      refine hk418 _ ?_
      refine hn31 (xs.length - (i + 1)) (some ([0, 5, 6, 7, 8, 9, 10, 11], some ([0, 1, 2], 3))) _ ?_ ?_
      all_goals try refine lp0 ?_
      · omega
      · exact ⟨i + 1, _, n, s0, s1, s2, l0, l1, false, by omega, by omega, cnt_up (cnt_look hC 3) (by omega), by omega, by omega, by omega, by omega, rfl⟩
end Go.Proofs.Ytfcjkchpldfamaa
