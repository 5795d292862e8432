/-
  TopSnapshot by shadows: versions, continued.
-/
import Derived.Test.YtijblpkdfmkcfaaKTa
namespace Go.Proofs.Ytijblpkdfmkcfaa
set_option linter.unusedSimpArgs false
set_option linter.unusedVariables false
open Go.RowKit Go.Maps

theorem infoOne : (Try.prog.info? 84).map (fun i => (i.zero, i.size, i.bytes)) = some (some (.agg #[.int .i64 0, .int .i64 0]), 2, 16) := by kernel_rfl

set_option maxRecDepth 100000 in
set_option maxHeartbeats 1000000 in
theorem row_cloneOne (g : Nat) (es : List (List Sh)) (hn : es.length ≤ 1000000) : OkRow 41 [.sl 2 g es] 84 2 es := by
  intro w H vs hs hv
  obtain ⟨i0, hi, hz0, hz1, hz2⟩ := info_parts infoOne
  cases hv with
  | cons hx ht =>
    rename_i u vs'
    cases ht
    obtain ⟨a, n, c, rfl⟩ : ∃ a n c, u = Value.slice a n c := by cases hx; exact ⟨_, _, _, rfl⟩
    obtain ⟨xs, p1, p2, p3, p3', _, p5, p6⟩ := sl_cells hs hx
    subst p2
    clear hx
    have hq := fun w a l c => Lib.run_eql_slice_nil (P := Try.prog) w 65 _ a l c 0 0 Try.underlying65
    cases a with
    | none =>
      have hc := p5 rfl
      have hn0 : es = [] := List.eq_nil_of_length_eq_zero (by omega)
      subst hn0; subst hc
      cases p1
      simp only [List.length_nil]
      go_enter Try.func41, Try.ntmps41
      go_wp2
      go_ret
      exact ⟨_, [], rfl, Grow.refl hs, by decide, World.ownsRow_nil _ _ _ _, .nil, fun _ => ⟨_, rfl⟩⟩
    | some ad =>
      by_cases h0 : es = []
      · subst h0
        cases p1
        clear p6
        simp only [List.length_nil]
        go_enter Try.func41, Try.ntmps41
        go_wp2_with (first
          | (at_builtin; refine wpList_append_nothing rfl _ _ 65 84 i0 rfl Try.underlying65 hi _ _ _ rfl rfl ?_)
          | go_in)
        go_ret
        refine ⟨_, [], rfl, (Grow.refl hs).alloc _, by decide, ?_, .nil, fun _ => ⟨_, rfl⟩⟩
        exact World.ownsRow_made _ _ 0 (Nat.le_refl _) (by decide) (by simp)
      have hcw : ∀ (j : Nat) (u : Value), xs[j]? = some u → (w.alloc (.cells #[] 84)).cell? (ad.add j) = some u := fun j u hu => by
        obtain ⟨cells, t, fr, h1, h2, h3⟩ := cell_block (p6 ad rfl j u hu)
        simp [World.cell?, h1, heap_past _ _ h2, h3]
      have hxl := p1.length
      have h1 := p1.one
      clear p6
      obtain ⟨n, hN⟩ : ∃ n, n = es.length := ⟨_, rfl⟩
      rw [← hN] at hxl hn p3 ⊢
      have HN := Lib.hid hN
      clear hN
      go_enter Try.func41, Try.ntmps41
      go_wp2_with (first
        | (at_builtin; refine wpList_append_own _ rfl _ _ 65 rfl w.heap.size 84 i0 _ 2 16 Try.underlying65 hi hz0 hz1 hz2 rfl (by decide) (.slice (some ⟨w.heap.size, 0, none⟩) 0 0) 0 [] rfl (World.ownsRow_made _ _ 0 (Nat.le_refl _) (by decide) (by simp)) ad n c xs rfl hxl hcw h1 (by unfold maxLen; omega) (by omega) (by simp) ?_; intro v' w1 hown hg1 hnil)
        | go_in)
      go_ret
      refine ⟨v', xs, rfl, ?_, by decide, by rw [← HN.out]; simpa using hown, p1, fun e => absurd e h0⟩
      exact ((Grow.refl hs).alloc _).grown hg1 (fun k hk => by simp [Value.ownBlock] at hk; subst hk; exact ⟨Nat.le_refl _, hs.none (Nat.le_refl _)⟩)

theorem ok_clipOne (g : Nat) (es : List (List Sh)) : Ok 27 [.sl 2 g es] (.sl 2 1 es) := by
  refine ok_of_tr Try.func27 tr_clipOne rfl ?_
  unfold evFn sc_clipOne rv_clipOne
  refine eS fun K1 hn1 hr1 he1 => ?_
  refine eO fun K2 hk2 => ?_
  refine tL0 ?_
  refine hk2 _ ?_
  refine hn1 (some ([0], none)) _ ?_
  refine eS fun K3 hn3 hr3 he3 => ?_
  refine eO fun K4 hk4 => ?_
  refine tC0 6 ?_
  refine tL0 ?_
  refine hk4 _ ?_
  refine hn3 (some ([2], none)) _ ?_
  exact sf0
def lastP (l : List (Int × Int)) : Int × Int := l.getLast?.getD (0, 0)
theorem lastP_get {l : List (Int × Int)} {p : Int × Int} (h : l[l.length - 1]? = some p) : lastP l = p := by
  unfold lastP; rw [List.getLast?_eq_getElem?, h]; rfl
theorem ok_veLast (l : List (Int × Int)) (hn : l.length ≤ 1000000) : Ok 26 [shVl l] (.tup [sI (lastP l).1, sI (lastP l).2, sB (!l.isEmpty)]) := by
  refine ok_of_tr Try.func26 tr_veLast rfl ?_
  by_cases h : l = []
  · subst h
    unfold evFn sc_veLast rv_veLast
    refine eS fun K1 hn1 hr1 he1 => ?_
    refine eO fun K2 hk2 => ?_
    refine tL0 ?_
    refine hk2 _ ?_
    refine hn1 (some ([1], none)) _ ?_
    refine eS fun K3 hn3 hr3 he3 => ?_
    refine eS fun K4 hn4 hr4 he4 => ?_
    refine eO fun K5 hk5 => ?_
    refine tC0 2 ?_
    refine tZ0 ?_
    refine hk5 _ ?_
    refine hn4 (some ([1, 9], none)) _ ?_
    refine eCt ?_
    refine eS fun K6 hn6 hr6 he6 => ?_
    refine eO fun K7 hk7 => ?_
    refine tL0 ?_
    refine hk7 _ ?_
    refine hn6 (some ([2, 3, 4], none)) _ ?_
    refine hr3 _ ?_
    exact sf0
  · have h0 : 0 < l.length := List.length_pos_iff.2 h
    have h1 : ¬ (l.length : Int) = 0 := by omega
    have w1 : IntKind.i64.wrap ((l.length : Int) - 1) = ((l.length - 1 : Nat) : Int) := by rw [IntKind.wrap_i64]; omega
    obtain ⟨p, hp⟩ : ∃ p, l[l.length - 1]? = some p := ⟨_, List.getElem?_eq_getElem (by omega)⟩
    have e1 := lastP_get hp
    have e2 : l.isEmpty = false := by cases l <;> simp_all
    rw [e1, e2]
    unfold evFn sc_veLast rv_veLast
    have F1 := And.intro @w1 @hp
    refine eS fun K1 hn1 hr1 he1 => ?_
    refine eO fun K2 hk2 => ?_
    refine tL F1 ?_
    refine hk2 _ ?_
    refine hn1 (some ([1], none)) _ ?_
    refine eS fun K3 hn3 hr3 he3 => ?_
    refine eS fun K4 hn4 hr4 he4 => ?_
    refine eO fun K5 hk5 => ?_
    refine tC 2 F1 ?_
    refine tZ F1 ?_
    refine hk5 _ ?_
    refine hn4 (some ([1, 9], none)) _ ?_
    refine eC rfl (fun hx => absurd hx (by simp at hx; exact absurd hx h)) (fun hc0 => ?_)
    clear hc0
    refine hn3 (some ([1], none)) _ ?_
    refine eS fun K6 hn6 hr6 he6 => ?_
    refine eO fun K7 hk7 => ?_
    refine tC 2 F1 ?_
    refine tC 2 F1 ?_
    refine tC 2 F1 ?_
    refine tC 1 F1 ?_
    refine tC 1 F1 ?_
    refine tZ F1 ?_
    refine hk7 _ ?_
    refine hn6 (some ([5], none)) _ ?_
    refine eS fun K8 hn8 hr8 he8 => ?_
    refine eD [] (n := 5) fun K9 hk9 => ?_
    refine sq0 ?_
    refine fC 2 F1 ?_
    refine fC 2 F1 ?_
    refine fL F1 ?_
    refine hk9 _ ?_
    refine sr0 ?_
    refine tL F1 ?_
    refine hn8 (some ([2, 3, 4], none)) _ ?_
    exact sf1 F1
def atV (l : List (Int × Int)) (t : Int) : Option Int := if afterN l t = 0 then none else (l[afterN l t - 1]?).map (·.2)
theorem ok_veAt (l : List (Int × Int)) (t : Int) (hs : VSort l) (hn : l.length ≤ 1000000) : Ok 23 [shVl l, sI t] (.tup [sI ((atV l t).getD 0), sB (atV l t).isSome]) := by
  refine ok_of_tr Try.func23 tr_veAt rfl ?_
  have k0 := ok_veAfter l t hs hn
  have hle := afterN_le l t
  unfold atV
  generalize afterN l t = n at k0 hle ⊢
  by_cases h : n = 0
  · subst h
    unfold evFn sc_veAt rv_veAt
    refine eS fun K1 hn1 hr1 he1 => ?_
    refine eO fun K2 hk2 => ?_
    refine tL0 ?_
    refine hk2 _ ?_
    refine hn1 (some ([1, 2], none)) _ ?_
    refine eS fun K3 hn3 hr3 he3 => ?_
    refine eO fun K4 hk4 => ?_
    refine tC0 1 ?_
    refine tS0 1 ?_
    refine tS0 1 ?_
    refine Or.inl (Or.inl ⟨_, k0, ?_⟩)
    refine tL0 ?_
    refine hk4 _ ?_
    refine hn3 (some ([2, 6], none)) _ ?_
    refine eS fun K5 hn5 hr5 he5 => ?_
    refine eS fun K6 hn6 hr6 he6 => ?_
    refine eO fun K7 hk7 => ?_
    refine tZ0 ?_
    refine hk7 _ ?_
    refine hn6 (some ([2, 6, 11], none)) _ ?_
    refine eCt ?_
    refine eS fun K8 hn8 hr8 he8 => ?_
    refine eO fun K9 hk9 => ?_
    refine tL0 ?_
    refine hk9 _ ?_
    refine hn8 (some ([4, 5], none)) _ ?_
    refine hr5 _ ?_
    exact sf0
  · have w1 : IntKind.i64.wrap ((n : Int) - 1) = ((n - 1 : Nat) : Int) := by rw [IntKind.wrap_i64]; omega
    obtain ⟨p, hp⟩ : ∃ p, l[n - 1]? = some p := ⟨_, List.getElem?_eq_getElem (by omega)⟩
    have d0 : ((n : Int) == 0) = false := by simp; omega
    rw [if_neg h, hp]
    unfold evFn sc_veAt rv_veAt
    have F1 := And.intro @d0 (And.intro @w1 @hp)
    refine eS fun K1 hn1 hr1 he1 => ?_
    refine eO fun K2 hk2 => ?_
    refine tL F1 ?_
    refine hk2 _ ?_
    refine hn1 (some ([1, 2], none)) _ ?_
    refine eS fun K3 hn3 hr3 he3 => ?_
    refine eO fun K4 hk4 => ?_
    refine tC 1 F1 ?_
    refine tS 1 F1 ?_
    refine tS 1 F1 ?_
    refine Or.inl (Or.inl ⟨_, k0, ?_⟩)
    refine tL F1 ?_
    refine hk4 _ ?_
    refine hn3 (some ([2, 6], none)) _ ?_
    refine eS fun K5 hn5 hr5 he5 => ?_
    refine eS fun K6 hn6 hr6 he6 => ?_
    refine eO fun K7 hk7 => ?_
    refine tZ F1 ?_
    refine hk7 _ ?_
    refine hn6 (some ([2, 6, 11], none)) _ ?_
    refine eCf ?_
    refine hn5 (some ([2, 6], none)) _ ?_
    refine eS fun K8 hn8 hr8 he8 => ?_
    refine eO fun K9 hk9 => ?_
    refine tC 2 F1 ?_
    refine tC 2 F1 ?_
    refine tC 1 F1 ?_
    refine tC 2 F1 ?_
    refine tL F1 ?_
    refine hk9 _ ?_
    refine hn8 (some ([4, 5], none)) _ ?_
    exact sf1 F1
theorem ok_veAdd (l : List (Int × Int)) (t v : Int) (h0 : 0 ≤ t) (h1 : l = [] ∨ (lastP l).1 < t) (hn : l.length < 1024) : Ok 18 [shVl l, sI t, sI v] (.tup [shVl (l ++ [(t, v)]), sI 0]) := by
  refine ok_of_tr Try.func18 tr_veAdd rfl ?_
  have k0 := ok_veLast l (by omega)
  have d1 : ¬ t < 0 := by omega
  have d2 : ¬ ((l.length : Int) ≥ 1024) := by omega
  have k1 := ok_clipOne 0 (l.map eOne)
  have d3 : (!l.isEmpty) = true → ¬ t ≤ (lastP l).1 := fun h => by
    rcases h1 with rfl | h1
    · cases h
    · omega
  generalize (!l.isEmpty) = b at k0 d3
  generalize lastP l = p at k0 d3
  cases b
  · skip
    unfold evFn sc_veAdd rv_veAdd
    have F1 := And.intro @d1 @d2
    refine eS fun K1 hn1 hr1 he1 => ?_
    refine eO fun K2 hk2 => ?_
    refine tL F1 ?_
    refine hk2 _ ?_
    refine hn1 (some ([1, 2, 3, 6], none)) _ ?_
    refine eS fun K3 hn3 hr3 he3 => ?_
    refine eO fun K4 hk4 => ?_
    refine tC 1 F1 ?_
    refine tS 1 F1 ?_
    refine Or.inl (Or.inl ⟨_, k0, ?_⟩)
    refine tL F1 ?_
    refine hk4 _ ?_
    refine hn3 (some ([1, 2, 3, 6, 8, 10], none)) _ ?_
    refine eS fun K5 hn5 hr5 he5 => ?_
    refine eB fun K6 hn6 hx6 hr6 he6 => ?_
    refine eS fun K7 hn7 hr7 he7 => ?_
    refine eO fun K8 hk8 => ?_
    refine tC 2 F1 ?_
    refine tL F1 ?_
    refine hk8 _ ?_
    refine hn7 (some ([1, 2, 3, 6, 8, 10, 17], none)) _ ?_
    refine eCf ?_
    refine eS fun K9 hn9 hr9 he9 => ?_
    refine eO fun K10 hk10 => ?_
    refine tC 5 F1 ?_
    refine tL F1 ?_
    refine hk10 _ ?_
    refine hn9 (some ([1, 2, 3, 6, 21], none)) _ ?_
    refine eCf ?_
    refine eS fun K11 hn11 hr11 he11 => ?_
    refine eO fun K12 hk12 => ?_
    refine tC 2 F1 ?_
    refine tC 2 F1 ?_
    refine tL F1 ?_
    refine hk12 _ ?_
    refine hn11 (some ([1, 2, 3, 6, 29], none)) _ ?_
    refine eCf ?_
    refine hn6 _ ?_
    refine hn5 (some ([1, 2, 3, 6], none)) _ ?_
    refine eS fun K13 hn13 hr13 he13 => ?_
    refine eO fun K14 hk14 => ?_
    refine tC 2 F1 ?_
    refine tS 1 F1 ?_
    refine Or.inl (Or.inl ⟨_, k1, ?_⟩)
    refine tC 4 F1 ?_
    refine tC 1 F1 ?_
    refine tC 2 F1 ?_
    refine tL F1 ?_
    refine hk14 _ ?_
    refine hn13 (some ([6, 7], none)) _ ?_
    refine sg1 F1 ?_
    simp
  · have d3 := d3 rfl
    unfold evFn sc_veAdd rv_veAdd
    have F1 := And.intro @d1 (And.intro @d2 @d3)
    refine eS fun K1 hn1 hr1 he1 => ?_
    refine eO fun K2 hk2 => ?_
    refine tL F1 ?_
    refine hk2 _ ?_
    refine hn1 (some ([1, 2, 3, 6], none)) _ ?_
    refine eS fun K3 hn3 hr3 he3 => ?_
    refine eO fun K4 hk4 => ?_
    refine tC 1 F1 ?_
    refine tS 1 F1 ?_
    refine Or.inl (Or.inl ⟨_, k0, ?_⟩)
    refine tL F1 ?_
    refine hk4 _ ?_
    refine hn3 (some ([1, 2, 3, 6, 8, 10], none)) _ ?_
    refine eS fun K5 hn5 hr5 he5 => ?_
    refine eB fun K6 hn6 hx6 hr6 he6 => ?_
    refine eS fun K7 hn7 hr7 he7 => ?_
    refine eO fun K8 hk8 => ?_
    refine tC 2 F1 ?_
    refine tL F1 ?_
    refine hk8 _ ?_
    refine hn7 (some ([1, 2, 3, 6, 8, 10, 17], none)) _ ?_
    refine eCf ?_
    refine eS fun K9 hn9 hr9 he9 => ?_
    refine eO fun K10 hk10 => ?_
    refine tC 5 F1 ?_
    refine tL F1 ?_
    refine hk10 _ ?_
    refine hn9 (some ([1, 2, 3, 6, 21], none)) _ ?_
    refine eCf ?_
    refine eS fun K11 hn11 hr11 he11 => ?_
    refine eO fun K12 hk12 => ?_
    refine tC 2 F1 ?_
    refine tC 2 F1 ?_
    refine tL F1 ?_
    refine hk12 _ ?_
    refine hn11 (some ([1, 2, 3, 6, 29], none)) _ ?_
    refine eCf ?_
    refine hn6 _ ?_
    refine hn5 (some ([1, 2, 3, 6], none)) _ ?_
    refine eS fun K13 hn13 hr13 he13 => ?_
    refine eO fun K14 hk14 => ?_
    refine tC 2 F1 ?_
    refine tS 1 F1 ?_
    refine Or.inl (Or.inl ⟨_, k1, ?_⟩)
    refine tC 4 F1 ?_
    refine tC 1 F1 ?_
    refine tC 2 F1 ?_
    refine tL F1 ?_
    refine hk14 _ ?_
    refine hn13 (some ([6, 7], none)) _ ?_
    refine sg1 F1 ?_
    simp
def cutV (l : List (Int × Int)) (t : Int) : List (Int × Int) := l.drop (afterN l t - 1)
theorem ok_veCut (l : List (Int × Int)) (t : Int) (hs : VSort l) (hn : l.length ≤ 1000000) : Ok 36 [shVl l, sI t] (shVl (cutV l t)) := by
  refine ok_of_tr Try.func36 tr_veCut rfl ?_
  have k0 := ok_veAfter l t hs hn
  have hle := afterN_le l t
  unfold cutV
  generalize afterN l t = n at k0 hle ⊢
  have w1 : max (IntKind.i64.wrap ((n : Int) - 1)) 0 = ((n - 1 : Nat) : Int) := by rw [IntKind.wrap_i64]; omega
  have w2 : ((n - 1 : Nat) : Int) ≤ (l.length : Int) := by omega
  have k1 := (row_cloneOne 0 ((l.drop (n - 1)).map eOne) (by simp; omega)).ok
  have k2 := (row_cloneOne 2 ((l.drop (n - 1)).map eOne) (by simp; omega)).ok
  rw [List.map_drop] at k1 k2
  unfold evFn sc_veCut rv_veCut
  have F1 := And.intro @w1 @w2
  refine eS fun K1 hn1 hr1 he1 => ?_
  refine eO fun K2 hk2 => ?_
  refine tL F1 ?_
  refine hk2 _ ?_
  refine hn1 (some ([1, 2, 4], none)) _ ?_
  refine eS fun K3 hn3 hr3 he3 => ?_
  refine eD [] (n := 7) fun K4 hk4 => ?_
  refine sq0 ?_
  refine fC 2 F1 ?_
  refine fC 1 F1 ?_
  refine fS 1 F1 ?_
  refine fS 1 F1 ?_
  refine ⟨_, k0, ?_⟩
  refine fC 1 F1 ?_
  refine fL F1 ?_
  refine hk4 _ ?_
  refine sr0 ?_
  refine tC 1 F1 ?_
  refine tS 1 F1 ?_
  refine Or.inl (Or.inl ⟨_, k2, ?_⟩)
  refine tZ F1 ?_
  refine hn3 (some ([4], none)) _ ?_
  refine sg1 F1 ?_
  simp only [shVl, List.map_drop]
end Go.Proofs.Ytijblpkdfmkcfaa
