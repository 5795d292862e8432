/-
  Two views that hold the same are told equal: maps.Equal and view.Same.
-/
import Derived.Test.YtlbhfpcbbembgaaView
import Derived.Maps.RangeWalk
import Derived.Maps.Ext
import Derived.Maps.OwnSet
import Derived.Laws.IdiomRangeMap
namespace Go.Proofs.Ytlbhfpcbbembgaa
open Go.RowKit Go.Maps

/-- The canonical reading of the map that f describes. -/
def DF (D : DataW Value) (f : Int → Option Value) : Prop := ∃ es, D = .map es ∧ es.Pairwise (fun p q => p.1.before q.1 = true) ∧ ∀ p, p ∈ es ↔ ∃ k v, p = (.int .i64 k, .held v) ∧ f k = some v
theorem DF.one {D D' : DataW Value} {f : Int → Option Value} (h : DF D f) (h' : DF D' f) : D = D' := by
  obtain ⟨es, rfl, r, m⟩ := h
  obtain ⟨es', rfl, r', m'⟩ := h'
  rw [eq_of_mem_rising r r' (fun p => (m p).trans (m' p).symm)]
theorem DF.nil {f : Int → Option Value} (h : ∀ k, f k = none) : DF (.map []) f := ⟨[], rfl, List.Pairwise.nil, fun p => ⟨fun h => by simp at h, fun ⟨k, v, _, h2⟩ => by rw [h] at h2; cases h2⟩⟩

theorem MapOf.df {kt : TypeId} {o : Obj} {n b : Nat} {f : Int → Option Value} {w : World} (h : MapOf kt o n f) (hb : w.heap[b]? = some o) (hk : Try.prog.underlying kt = some (.int .i64)) :
    ∃ D : DataW Value, w.ownsMap Try.prog kt anyElem b n D ∧ DF D f := by
  obtain ⟨D, hown, hf⟩ := h.owns hb
  have K := int_keyed (P := Try.prog) hk
  have hown0 := hown
  obtain ⟨es, rfl, hris, hkl⟩ := hown.canon K
  have hap := apart_of_rising hris
  have hkeys : ∀ p ∈ es, ∃ k v, p = (.int .i64 k, .held v) := by
    obtain ⟨es0, clock, _, F, _, hD⟩ := hown0
    simp only [DataW.map.injEq] at hD
    intro p hp
    rw [hD] at hp
    obtain ⟨x, hx, rfl⟩ := List.mem_map.1 (mem_sorted.1 hp)
    obtain ⟨y, hy⟩ := F.reads x hx
    obtain ⟨z, hz, hzd⟩ := Go.WideElems.rd_val hy
    have hrg := Go.WideElems.rg_of hy
    obtain ⟨v, hv⟩ := Maps.fit_keys F _ (List.mem_map.2 ⟨x, hx, rfl⟩)
    obtain ⟨k, _, hk2, _⟩ := Maps.keyOf_int_inv hk hv
    simp only [anyElem, Option.some.injEq] at hz
    refine ⟨k, x.val, Prod.ext hk2 ?_⟩
    rw [hrg, hzd, ← hz]
  refine ⟨_, hown, es, rfl, hris, fun p => ⟨fun hp => ?_, fun ⟨k, v, hp, hv⟩ => ?_⟩⟩
  · obtain ⟨k, v, rfl⟩ := hkeys p hp
    refine ⟨k, v, rfl, ?_⟩
    have hat := WideAt.atKey_mem (entries := es) (k := .int .i64 k) (d := .held v) .nil (hkl _ hp) hap hp
    rw [hf k] at hat
    cases e : f k with
    | some v' => rw [e] at hat; simp only [DataW.held.injEq] at hat; rw [hat]
    | none => rw [e] at hat; cases hat
  · subst hp
    have hat := hf k
    rw [hv] at hat
    cases hh : Maps.has (.map es) (.int .i64 k) with
    | false => rw [Maps.atKey_of_not_has hh .nil] at hat; cases hat
    | true =>
      obtain ⟨p, hp, hs⟩ := List.any_eq_true.1 (show es.any (fun p => p.1.sameKey (.int .i64 k)) = true from hh)
      have e1 : p.1 = .int .i64 k := WideAt.sameKey_eq hs
      have e2 : (DataW.map es).atKey (.int .i64 k) .nil = p.2 := by rw [← e1]; exact WideAt.atKey_mem .nil (hkl p hp) hap hp
      have : p = (.int .i64 k, .held v) := Prod.ext e1 (by rw [← e2, hat])
      rw [← this]; exact hp

/-- A view's map: its reading, its length. -/
theorem ViewR.df {H : Hp} {r : Option Nat} {f : Int → Int} (h : ViewR H r f) {w : World} (hs : Sub H w) : ∃ D : DataW Value, DF D (fun k => if f k = 0 then Option.none else some (.int .i64 (f k))) ∧
    (∀ ty, (Builtin.len_ #[39] ty #[.map r]).run Try.prog w = .ok (.int .i64 (Maps.size D)) w) ∧ ∀ b, r = some b → w.ownsMap Try.prog 64 anyElem b 4096 D := by
  obtain ⟨h1, h2, h3⟩ := h
  cases r with
  | none => exact ⟨.map [], DF.nil (fun k => by simp [h3 k]), fun ty => len_nil Try.underlying39 ty, fun b hb => by cases hb⟩
  | some b =>
    obtain ⟨o, ho, hm⟩ := h3
    obtain ⟨D, hown, hd⟩ := hm.df (hs b o ho) Try.underlying64
    exact ⟨D, hd, fun ty => hown.len Try.underlying39 ty, fun b' hb => by cases hb; exact hown⟩

theorem ViewR.lookupOk {H : Hp} {r : Option Nat} {f : Int → Int} (h : ViewR H r f) {w : World} (hs : Sub H w) {l : Int} (h1 : -9223372036854775808 ≤ l) (h2 : l ≤ 9223372036854775807) (hne : f l ≠ 0) :
    (Instr.lookup 39 (.map r) (.int .i64 l) true).run Try.prog w = .ok (.tuple #[.int .i64 (f l), .bool true]) w := by
  obtain ⟨_, _, h3⟩ := h
  cases r with
  | none => exact absurd (h3 l) hne
  | some b =>
    obtain ⟨o, ho, hm⟩ := h3
    have := (hm.lookup (hs b o ho) Try.underlying64 Try.underlying39 (zeroI w) h1 h2).2
    rw [this]
    simp [hne]

set_option maxRecDepth 100000 in
set_option maxHeartbeats 1000000 in
theorem mapsEqual_ret (H : Hp) (r r' : Option Nat) (f : Int → Int) (w : World) (hs : Sub H w) (h : ViewR H r f) (h' : ViewR H r' f) :
    RetV Try.prog 41 #[.map r, .map r'] w (.bool true) := by
  obtain ⟨D, hd, hl, hown⟩ := h.df hs
  obtain ⟨D', hd', hl', _⟩ := h'.df hs
  obtain rfl := hd.one hd'
  unfold RetV
  cases r with
  | none =>
    have hn1 := fun w => run_range_nilMap (P := Try.prog) w 39 _ _ Try.underlying39
    have hn2 := fun w ty a b s => run_next_nilMap (P := Try.prog) w ty a b s
    clear hown
    go_enter Try.func41, Try.ntmps41
    go_wp2
    refine wp_loop_rounds 1 ?_
    rw [rounds_succ]
    go_wp2
    go_ret
    exact retv_mk ((Below.refl _ _).alloc (Nat.le_refl _) _)
  | some b =>
    have h1 := hown b rfl
    have hbl := h1.lt
    clear hd' hown
    go_enter Try.func41, Try.ntmps41
    go_wp2_with (first
      | (at_range; refine wpList_range_own _ rfl _ 39 rfl 64 3 (int_keyed (P := Try.prog) Try.underlying64) Try.underlying39 anyElem b 4096 _ rfl h1 ?_; intro w0 hrg0 hg0 hs0)
      | go_in)
    go_frame
    clear hl hl'
    go_loopw [16] (fun _ wr => ∃ (left : Lit → Bool) (cnt : Nat), wr.ranges Try.prog 64 anyElem b w.heap.size 4096 D left cnt ∧ Grow w H wr H) (fun _ wr => wr.rangeLeft b w.heap.size)
    case atStart => exact ⟨_, _, hrg0, (Grow.refl hs).grown hg0 (fun k hk => by cases hk)⟩
    case round =>
      obtain ⟨left, cnt, hrg, hgw⟩ := hrel
      clear hrg0 hg0 hs0 h1
      go_wp2_with (first
        | (at_next; refine wpList_next_ranges _ rfl _ rfl 64 (int_keyed (P := Try.prog) Try.underlying64) anyElem (Value.int .i64) id (fun key kl hkey => by obtain ⟨x, rfl, _⟩ := Maps.keyOf_int_inv Try.underlying64 hkey; exact ⟨x, rfl⟩) (fun v _ _ => ⟨v, rfl⟩) b w.heap.size 4096 _ _ _ rfl hrg ?_ ?_)
        | go_in)
      · intro _ hl0
        go_wp2
        go_ret
        exact retv_mk hgw.below
      · intro x c kl y ps w1 cnt1 hkey hlx hv hat hrg1 hlt hg1 hs1 hen
        obtain ⟨x', ex, rfl, hwx⟩ := Maps.keyOf_int_inv Try.underlying64 hkey
        cases ex
        simp only [anyElem, id, Option.some.injEq, Prod.mk.injEq] at hv
        obtain ⟨rfl, _⟩ := hv
        have hfx : f x ≠ 0 ∧ c = .int .i64 (f x) := by
          obtain ⟨es, rfl, hris, hm⟩ := hd
          have hap := apart_of_rising hris
          have hh := Maps.has_true_of_atKey hat
          obtain ⟨p, hp, hsk⟩ := List.any_eq_true.1 (show es.any (fun p => p.1.sameKey (.int .i64 x)) = true from hh)
          have e1 : p.1 = .int .i64 x := WideAt.sameKey_eq hsk
          obtain ⟨k, v, rfl, hk⟩ := (hm p).1 hp
          cases e1
          have e2 := hat .nil
          rw [WideAt.atKey_mem (k := .int .i64 x) (d := .held v) .nil (by simp [WideAt.IsKeyLit]) hap hp] at e2
          simp only [DataW.held.injEq] at e2
          subst e2
          by_cases e : f x = 0
          · simp [e] at hk
          · simp only [e, if_false, Option.some.injEq] at hk
            exact ⟨e, hk.symm⟩
        obtain ⟨hfn, rfl⟩ := hfx
        have hgw1 : Grow w H w1 H := hgw.grown hg1 (fun k hk => by cases hk; exact ⟨Nat.le_refl _, hs.none (Nat.le_refl _)⟩)
        have hrange := h'.1 x hfn
        have hlk := h'.lookupOk hgw1.sub (l := x) (by omega) (by omega) hfn
        clear hkey hat hlx
        go_wp2
        go_roundw
        case rel => exact ⟨_, cnt1, hrg1, hgw1⟩
        case measure => rw [hrg1.left_eq, hrg.left_eq]; exact hlt

set_option maxRecDepth 100000 in
set_option maxHeartbeats 1000000 in
theorem vSame_ret (H : Hp) (r r' : Option Nat) (f : Int → Int) (w : World) (hs : Sub H w) (h : ViewR H r f) (h' : ViewR H r' f) :
    RetV Try.prog 23 #[.agg #[.map r], .agg #[.map r']] w (.bool true) := by
  unfold RetV
  go_enter Try.func23, Try.ntmps23
  go_wp2_with (go_at_call 41; refine RetV.use (mapsEqual_ret H r r' f _ ((hs.alloc _).alloc _) h h') fun w1 hb1 => ?_)
  go_ret
  exact retv_mk ((((Below.refl _ _).alloc (Nat.le_refl _) _).alloc (by simp) _).trans (hb1.mono (by simp; omega)))
end Go.Proofs.Ytlbhfpcbbembgaa
