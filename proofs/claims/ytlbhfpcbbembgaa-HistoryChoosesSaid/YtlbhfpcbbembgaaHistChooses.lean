/-
  HistoryChooses returns true for every input: Choose agrees with the reference's Choose for every history, start index and choice.
  Conditions: none.
-/
import Derived.Test.YtlbhfpcbbembgaaLaw3
import Derived.Test.YtlbhfpcbbembgaaClose
import Derived.Test.YtlbhfpcbbembgaaRows
namespace Go.Proofs.Ytlbhfpcbbembgaa
open Go.ChangeShapes Go.WideShapes Go.ChangeAt Go.RowKit

set_option maxRecDepth 100000 in
set_option maxHeartbeats 1000000 in
theorem historyChooses_ret (H : Hp) (s : SlV) (l : List OneV) (f ch : Int) (w : World) (hs : Sub H w) (hl : SlR 6 OneR H s.a s.n s.c l) (h1 : ch ≤ 9223372036854775807) (hn : s.c ≤ 9223372036854775807) :
    RetV Try.prog 3 #[.slice s.a s.n s.c, .int .i64 f, .int .i64 ch] w (.bool true) := by
  have hcap := hl.cap
  unfold RetV
  by_cases h100 : s.n ≤ 100
  · go_enter Try.func3, Try.ntmps3
    go_wp2_with fail
    refine RetV.use (l3awake_ret _) fun w1 hb1 => ?_
    have hs1 := (Grow.of_below hs hb1).sub
    go_wp2_with fail
    refine Ret.use (made_ret H 0 0 0 s l _ hs1 hl h100) fun s1 w2 H2 hg2 hh2 => ?_
    have hb2 := hb1.trans (hg2.below.mono hb1.size)
    have hs1n : s1.n = s.n + 1 := by have := hh2.len; have := hl.len; simp at *; omega
    have HS := Lib.hid hs1n
    have hs1b : s1.n ≤ 1000000 := by omega
    clear hs1n
    go_wp2_with fail
    refine RetV.use (hChoose_ret s1 _ _ _ hs1b h1) fun w3 hb3 => ?_
    have hb3' := hb2.trans (hb3.mono hb2.size)
    go_wp2_with fail
    refine RetV.use (rChoose_ret s1.n _ _ _ _ (by have := HS.out; omega) hs1b h1) fun w4 hb4 => ?_
    have hb4' := hb3'.trans (hb4.mono hb3'.size)
    go_wp2
    go_ret
    exact retv_mk hb4'
  · go_enter Try.func3, Try.ntmps3
    go_wp2_with (go_at_call 12; refine RetV.use (l3awake_ret _) fun w1 hb1 => ?_)
    go_ret
    exact retv_mk hb1

def oneK : List CellK := [.int .i64, .int .u32, .int .u32, .int .i64, .int .u8, .int .u8]
theorem oneR_of {W : World} (cs : List Value) (h : Fits oneK cs) : ∃ x, OneR (allHp W) cs x := by
  obtain ⟨a, _, rfl, _, _, h⟩ := h.int
  obtain ⟨b, _, rfl, _, _, h⟩ := h.int
  obtain ⟨c, _, rfl, _, _, h⟩ := h.int
  obtain ⟨d, _, rfl, _, _, h⟩ := h.int
  obtain ⟨e, _, rfl, l1, u1, h⟩ := h.int
  obtain ⟨f, _, rfl, l2, u2, h⟩ := h.int
  cases h.nil
  exact ⟨⟨a, b, c, d, e, f⟩, rfl, l1, u1, l2, u2⟩

theorem own : ownKnob Try.prog.godebug = Option.none := by kernel_rfl
theorem laidOut : laidOutB Try.prog = true := by kernel_rfl

set_option maxRecDepth 100000 in
theorem historyChooses_lifted (os : Os) (started : os.Started) (H : Type) (enc : TypeId × Value → H) :
    ReturnsInHanded {} Try.checked os 3 .any (Rows.historyChoosesSpec.pre6 enc Try.prog Try.f3 Rows.historyChoosesRow.domain false) (Rows.historyChoosesSpec.post enc Try.prog Try.f3 false true false false) := by
  refine lifted_of (C := Try.checked) own started (by kernel_rfl) Try.func3
    (ChangeSpec.witness6 (enc := enc) (C := Try.checked) false ⟨#[], #[.slice Option.none 0 0, .int .i64 0, .int .i64 0], []⟩ 8 (by kernel_rfl) (by kernel_rfl) (by kernel_rfl) (by kernel_rfl))
    laidOut (by kernel_rfl) (tb := 4) (by kernel_rfl) Try.underlying4 rfl (fun ds h => match ds, h with | [_, _, _], _ => ⟨rfl, rfl, rfl⟩) ?_
  intro W base args ds p hval0 hA0
  have hval : ∀ (j : Nat) t v, Try.f3.params[j]? = some t → args[j]? = some v → Value.okWide Try.prog W .any base t v := hval0
  have hA : DataW.TrodAll enc Try.prog W 0 (fun _ => true) true Try.f3.params.toList args.toList ds p := hA0
  rw [Try.params3] at hA hval
  obtain ⟨v0, v1, v2, d0, d1, d2, p0, p1, p2, rfl, rfl, rfl, a0, a1, a2⟩ := trodAll_three hA
  obtain ⟨s, l, rfl, hsl, hc⟩ := sliceOpen (R := OneR) (m := 4) (ks := oneK) Try.underlying22 (by kernel_rfl) (by kernel_rfl) oneR_of (hval 0 _ v0 rfl rfl) a0
  obtain ⟨x1, rfl, rfl, rfl, w1⟩ := open_int Try.underlying3 (hval 1 _ v1 rfl rfl) a1
  obtain ⟨x2, rfl, rfl, rfl, w2⟩ := open_int Try.underlying3 (hval 2 _ v2 rfl rfl) a2
  have w2' : x2 ≤ 9223372036854775807 := of_decide_eq_true (Bool.and_eq_true _ _ |>.mp w2).2
  exact historyChooses_ret (allHp W) s l x1 x2 W (allSub W) hsl w2' (by simp only [maxLen] at hc; omega)

theorem historyChooses_holds : Rows.HistoryChoosesSaid :=
  OpenClaim.holds_of_wide 3 Try.f3 rfl rfl rfl rfl rfl rfl rfl ⟨rfl, rfl, rfl, rfl, rfl⟩ rfl rfl rfl rfl rfl (by kernel_rfl) Try.func3 (by kernel_rfl)
    (of_decide_eq_true (by kernel_rfl)) (by unfold Func.isWrapper; first | (rw [if_pos (by decide +kernel)]; kernel_rfl) | (rw [if_neg (by decide +kernel)]; exact ⟨rfl, rfl⟩))
    (fun os started H enc _ => historyChooses_lifted os started H enc)

end Go.Proofs.Ytlbhfpcbbembgaa
