/-
  Views: the contracts of maps.Clone at a view and of View.With.
-/
import Derived.Test.YtfcjkchpldfamaaSl
namespace Go.Proofs.Ytfcjkchpldfamaa
set_option linter.unusedSimpArgs false
set_option linter.unusedVariables false
open Go.RowKit Go.Maps

def ViewR (H : Hp) (r : Option Nat) (f : Int → Int) : Prop :=
  (∀ k, f k ≠ 0 → 0 ≤ k ∧ k < 4096) ∧ (∀ k, 0 ≤ f k ∧ f k ≤ 9223372036854775807) ∧
  match r with
  | none => ∀ k, f k = 0
  | some b => ∃ o, H b = some o ∧ MapOf 26 o 4096 (fun k => if f k = 0 then Option.none else some (.int .i64 (f k)))
theorem ViewR.le {H H' : Hp} {r : Option Nat} {f : Int → Int} (h : ViewR H r f) (g : Le H H') : ViewR H' r f := by
  obtain ⟨h1, h2, h3⟩ := h
  refine ⟨h1, h2, ?_⟩
  cases r with
  | none => exact h3
  | some b => obtain ⟨o, ho, hm⟩ := h3; exact ⟨o, g _ _ ho, hm⟩

theorem zeroI (w : World) : (zeroValue 3).run Try.prog w = .ok (.int .i64 0) w := by kernel_rfl

/-- What a view's map holds at a location. -/
theorem ViewR.lookup {H : Hp} {r : Option Nat} {f : Int → Int} (h : ViewR H r f) {w : World} (hs : Sub H w) {l : Int} (h1 : -9223372036854775808 ≤ l) (h2 : l ≤ 9223372036854775807) :
    (Instr.lookup 46 (.map r) (.int .i64 l) false).run Try.prog w = .ok (.int .i64 (f l)) w := by
  obtain ⟨_, _, h3⟩ := h
  cases r with
  | none =>
    rw [h3 l]
    exact Maps.look_nil false (int_keyed (P := Try.prog) Try.underlying26) Try.underlying46 (zeroI w) (keyOf_int_mk (P := Try.prog) Try.underlying26 (wf64 h1 h2))
  | some b =>
    obtain ⟨o, ho, hm⟩ := h3
    have := (hm.lookup (hs b o ho) Try.underlying26 Try.underlying46 (zeroI w) h1 h2).1
    rw [this]
    by_cases e : f l = 0 <;> simp [e]

set_option maxRecDepth 100000 in
set_option maxHeartbeats 400000 in
theorem vWith_same (H : Hp) (r : Option Nat) (f : Int → Int) (l n : Int) (w : World) (hs : Sub H w) (hv : ViewR H r f) (h1 : -9223372036854775808 ≤ l) (h2 : l ≤ 9223372036854775807)
    (hc : l < 0 ∨ 4096 ≤ l ∨ n ≤ f l) :
    Calls Try.prog 85 #[.agg #[.map r], .int .i64 l, .int .i64 n] w fun e w' => e = .returned (.agg #[.map r]) ∧ Below w.heap.size w w' := by
  have hl : ∀ o1 o2, (Instr.lookup 46 (.map r) (.int .i64 l) false).run Try.prog ((w.alloc o1).alloc o2) = .ok (.int .i64 (f l)) ((w.alloc o1).alloc o2) := fun o1 o2 => hv.lookup ((hs.alloc o1).alloc o2) h1 h2
  go_enter Try.func85, Try.ntmps85
  go_wp2
  all_goals
    refine bodyPost_ret (v := .agg #[.map r]) (by simp [results, Try.results85, go_sem]) rfl ⟨rfl, ?_⟩
    exact (((Below.refl _ _).alloc (Nat.le_refl _) _).alloc (by simp) _)

theorem run_eql_map (w : World) (t k e : TypeId) (p : Option Nat) (h : Try.prog.underlying t = some (.map k e)) :
    (binOp .eql t (.map p) (.map none)).run Try.prog w = .ok (.bool p.isNone) w := run_eql_map_nil_sl w t k e p h

set_option maxRecDepth 100000 in
set_option maxHeartbeats 400000 in
theorem cloneLoc_some (b : Nat) (es : Array MapEntry) (clock : Nat) (w : World) (hb : w.heap[b]? = some (.map es clock)) :
    Calls Try.prog 98 #[.map (some b)] w fun e w' => e = .returned (.map (some w.heap.size)) ∧ w' = w.alloc (.map es clock) := by
  have hq := fun w => run_eql_map w 46 _ _ (some b) Try.underlying46
  go_enter Try.func98, Try.ntmps98
  go_wp2
  rw [run_callFunc_extern Try.func101 (by kernel_rfl) (by kernel_rfl) (by kernel_rfl) (e := Extern.MapsClone.clone) (by kernel_rfl), run_maps_clone_sl w 46 hb]
  simp only [Result.andThen]
  rw [Oper.upon_value]
  go_wp2
  rw [run_typeAssert_map_sl _ 46 20 _ _ _ Try.underlying46]
  simp only [Result.andThen]
  rw [Oper.upon_value]
  go_wp2
  go_ret
  exact ⟨rfl, rfl⟩

set_option maxRecDepth 100000 in
set_option maxHeartbeats 400000 in
theorem cloneLoc_none (w : World) :
    Calls Try.prog 98 #[.map none] w fun e w' => e = .returned (.map none) ∧ w' = w := by
  have hq := fun w => run_eql_map w 46 _ _ none Try.underlying46
  go_enter Try.func98, Try.ntmps98
  go_wp2
  go_ret
  exact ⟨rfl, rfl⟩

/-- The view in which location l has at least index n. -/
def withF (f : Int → Int) (l n : Int) : Int → Int := if 0 ≤ l ∧ l < 4096 ∧ f l < n then fun k => if k = l then n else f k else f

set_option maxRecDepth 100000 in
set_option maxHeartbeats 400000 in
theorem vWith_none (H : Hp) (f : Int → Int) (l n : Int) (w : World) (hs : Sub H w) (hv : ViewR H none f) (h1 : 0 ≤ l) (h2 : l < 4096) (h3 : f l < n) (h4 : n ≤ 9223372036854775807) :
    Calls Try.prog 85 #[.agg #[.map none], .int .i64 l, .int .i64 n] w fun e w' => ∃ b H', e = .returned (.agg #[.map (some b)]) ∧ Grow w H w' H' ∧ ViewR H' (some b) (withF f l n) := by
  have hl : ∀ o1 o2, (Instr.lookup 46 (.map none) (.int .i64 l) false).run Try.prog ((w.alloc o1).alloc o2) = .ok (.int .i64 (f l)) ((w.alloc o1).alloc o2) := fun o1 o2 => hv.lookup ((hs.alloc o1).alloc o2) (by omega) (by omega)
  have hq := fun w => run_eql_map w 46 _ _ none Try.underlying46
  have hmm := @run_makeMap Try.prog
  go_enter Try.func85, Try.ntmps85
  go_wp2_with (first
    | (go_at_call 98; refine (cloneLoc_none _).mono ?_; rintro e w' ⟨rfl, rfl⟩)
    | (at_mapUpdate; refine wpList_mapUpdate_of _ rfl _ _ _ 46 rfl 26 3 Try.underlying26 Try.underlying46 _ _ _ _ rfl l _ rfl rfl (heap_at _ _ ?c1) MapOf.made ?c2 ?c3 ?c4 ?_))
  case c1 => simp
  case c2 => decide
  case c3 => omega
  case c4 => omega
  intro w1 o1 hb1 hm1 hg1
  obtain ⟨hc1, hf1⟩ := gcell hg1
  go_wp2
  refine bodyPost_ret (v := .agg #[.map (some (w.heap.size + 1 + 1))]) (by simp [results, Try.results85, go_sem, hc1]) rfl ⟨w.heap.size + 1 + 1, H.add (w.heap.size + 1 + 1) o1, rfl, ?_, ?_⟩
  · have g0 : Grow w H (((w.alloc (.cells #[.map none] 48)).alloc (.cells #[.map none] 48)).alloc (.map #[] 0)) H := (((Grow.refl hs).alloc _).alloc _).alloc _
    have g1 := g0.grown hg1 (fun k hk => by cases hk; exact ⟨by omega, hs.none (by omega)⟩)
    refine (g1.setCell (by simp) (hs.none (by simp)) _).add ?_ (by omega)
    rw [Below.heap_setCell _ _ _ _ (by simp)]
    exact hb1
  · obtain ⟨a1, a2, a3⟩ := hv
    have e : withF f l n = fun k => if k = l then n else f k := if_pos ⟨h1, h2, h3⟩
    have hl0 := a2 l
    refine ⟨?_, ?_, ⟨o1, Hp.add_at _ _ _, ?_⟩⟩
    · intro k hk; rw [e] at hk; simp only at hk
      split at hk
      · omega
      · exact a1 k hk
    · intro k; rw [e]; simp only
      split
      · omega
      · exact a2 k
    · have hfun : (upd (fun _ => none) l (some (Value.int .i64 n))) = (fun k => if withF f l n k = 0 then Option.none else some (.int .i64 (withF f l n k))) := by
        funext k
        unfold upd
        rw [e]
        by_cases hk : k = l
        · subst hk; have hn0 : n ≠ 0 := by omega
          simp [hn0]
        · simp [hk, a3 k]
      rw [hfun] at hm1
      exact (hm1.mono (by omega))

set_option maxRecDepth 100000 in
set_option maxHeartbeats 400000 in
theorem vWith_some (H : Hp) (f : Int → Int) (b0 : Nat) (l n : Int) (w : World) (hs : Sub H w) (hv : ViewR H (some b0) f) (h1 : 0 ≤ l) (h2 : l < 4096) (h3 : f l < n) (h4 : n ≤ 9223372036854775807) :
    Calls Try.prog 85 #[.agg #[.map (some b0)], .int .i64 l, .int .i64 n] w fun e w' => ∃ b H', e = .returned (.agg #[.map (some b)]) ∧ Grow w H w' H' ∧ ViewR H' (some b) (withF f l n) := by
  have hl : ∀ o1 o2, (Instr.lookup 46 (.map (some b0)) (.int .i64 l) false).run Try.prog ((w.alloc o1).alloc o2) = .ok (.int .i64 (f l)) ((w.alloc o1).alloc o2) := fun o1 o2 => hv.lookup ((hs.alloc o1).alloc o2) (by omega) (by omega)
  have hq := fun w b => run_eql_map w 46 _ _ (some b) Try.underlying46
  obtain ⟨a1, a2, o0, ho0, hm0⟩ := hv
  obtain ⟨es, clock, rfl⟩ : ∃ es clock, o0 = .map es clock := by obtain ⟨_, ⟨es, clock, h, _⟩, _⟩ := hm0; exact ⟨es, clock, h⟩
  have hb0 := hs _ _ ho0
  go_enter Try.func85, Try.ntmps85
  go_wp2_with (first
    | (go_at_call 98; refine (cloneLoc_some b0 es clock _ (heap_past _ _ (heap_past _ _ hb0))).mono ?_; rintro e w' ⟨rfl, rfl⟩)
    | (at_mapUpdate; refine wpList_mapUpdate_of _ rfl _ _ _ 46 rfl 26 3 Try.underlying26 Try.underlying46 _ _ _ _ rfl l _ rfl rfl (heap_at _ _ ?c1) hm0 ?c2 ?c3 ?c4 ?_))
  case c1 => simp
  case c2 => decide
  case c3 => omega
  case c4 => omega
  intro w1 o1 hb1 hm1 hg1
  obtain ⟨hc1, hf1⟩ := gcell hg1
  go_wp2
  refine bodyPost_ret (v := .agg #[.map (some (w.heap.size + 1 + 1))]) (by simp [results, Try.results85, go_sem, hc1]) rfl ⟨w.heap.size + 1 + 1, H.add (w.heap.size + 1 + 1) o1, rfl, ?_, ?_⟩
  · have g0 : Grow w H (((w.alloc (.cells #[.map (some b0)] 48)).alloc (.cells #[.map none] 48)).alloc (.map es clock)) H := (((Grow.refl hs).alloc _).alloc _).alloc _
    have g1 := g0.grown hg1 (fun k hk => by cases hk; exact ⟨by omega, hs.none (by omega)⟩)
    refine (g1.setCell (by simp) (hs.none (by simp)) _).add ?_ (by omega)
    rw [Below.heap_setCell _ _ _ _ (by simp)]
    exact hb1
  · have e : withF f l n = fun k => if k = l then n else f k := if_pos ⟨h1, h2, h3⟩
    have hl0 := a2 l
    have hA : ∀ k, withF f l n k ≠ 0 → 0 ≤ k ∧ k < 4096 := by
      intro k hk; rw [e] at hk; simp only at hk
      split at hk
      · omega
      · exact a1 k hk
    refine ⟨hA, ?_, ⟨o1, Hp.add_at _ _ _, ?_⟩⟩
    · intro k; rw [e]; simp only
      split
      · omega
      · exact a2 k
    · have hfun : (upd (fun k => if f k = 0 then Option.none else some (.int .i64 (f k))) l (some (Value.int .i64 n))) = (fun k => if withF f l n k = 0 then Option.none else some (.int .i64 (withF f l n k))) := by
        funext k
        unfold upd
        rw [e]
        by_cases hk : k = l
        · subst hk; have hn0 : n ≠ 0 := by omega
          simp [hn0]
        · simp [hk]
      rw [hfun] at hm1
      refine hm1.tight Try.underlying26 4096 (fun k hk => hA k (fun e0 => by simp [e0] at hk))

theorem vWith_any (H : Hp) (r : Option Nat) (f : Int → Int) (l n : Int) (w : World) (hs : Sub H w) (hv : ViewR H r f) (h1 : -9223372036854775808 ≤ l) (h2 : l ≤ 9223372036854775807) (h4 : n ≤ 9223372036854775807) :
    Calls Try.prog 85 #[.agg #[.map r], .int .i64 l, .int .i64 n] w fun e w' => ∃ r' H', e = .returned (.agg #[.map r']) ∧ Grow w H w' H' ∧ ViewR H' r' (withF f l n) := by
  by_cases hc : 0 ≤ l ∧ l < 4096 ∧ f l < n
  · obtain ⟨c1, c2, c3⟩ := hc
    cases r with
    | none => exact (vWith_none H f l n w hs hv c1 c2 c3 h4).mono fun e w' ⟨b, H', he, hg, hr⟩ => ⟨some b, H', he, hg, hr⟩
    | some b0 => exact (vWith_some H f b0 l n w hs hv c1 c2 c3 h4).mono fun e w' ⟨b, H', he, hg, hr⟩ => ⟨some b, H', he, hg, hr⟩
  · refine (vWith_same H r f l n w hs hv h1 h2 (by omega)).mono fun e w' ⟨he, hb⟩ => ⟨r, H, he, Grow.of_below hs hb, ?_⟩
    rw [withF, if_neg hc]; exact hv

theorem vWith_ret (H : Hp) (r : Option Nat) (f : Int → Int) (l n : Int) (w : World) (hs : Sub H w) (hv : ViewR H r f) (h1 : -9223372036854775808 ≤ l) (h2 : l ≤ 9223372036854775807) (h4 : n ≤ 9223372036854775807) :
    Ret Try.prog 85 #[.agg #[.map r], .int .i64 l, .int .i64 n] w H (fun r : Option Nat => .agg #[.map r]) (fun r' H' => ViewR H' r' (withF f l n)) :=
  (vWith_any H r f l n w hs hv h1 h2 h4).mono fun _ _ ⟨r', H', he, hg, hr⟩ => ⟨r', H', he, hg, hr⟩

end Go.Proofs.Ytfcjkchpldfamaa
