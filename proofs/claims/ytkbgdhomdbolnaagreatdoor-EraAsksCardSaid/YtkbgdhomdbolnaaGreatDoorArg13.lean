/-
  The arguments of layer 13's laws.
-/
import Derived.Test.YtkbgdhomdbolnaaGreatDoorArg4
import Derived.Test.YtkbgdhomdbolnaaGreatDoorK13d
namespace Go.Proofs.YtkbgdhomdbolnaaGreatDoor
set_option linter.unusedSimpArgs false
set_option linter.unusedVariables false
open Go.ChangeShapes Go.WideShapes Go.ChangeAt Go.RowKit Go.Deep Go.Maps

def In64 (n : Int) : Prop := -9223372036854775808 ≤ n ∧ n ≤ 9223372036854775807
abbrev plI3 : Pl := .cons (.int .i64) (.cons (.int .i64) (.cons (.int .i64) .nil))
abbrev plU3 : Pl := .cons (.int .u8) (.cons (.int .u8) (.cons (.int .u8) .nil))
theorem pl_u8 : planOf Tryz.prog 8 5 = some (.int .u8) := by kernel_rfl
theorem pl_int64 : planOf Tryz.prog 8 2 = some (.int .i64) := by kernel_rfl
theorem pl_int : planOf Tryz.prog 8 3 = some (.int .i64) := by kernel_rfl
theorem pl_i64s : planOf Tryz.prog 8 85 = some (.sl 1 (.int .i64)) := by kernel_rfl
theorem pl_lay : planOf Tryz.prog 8 23 = some plI3 := by kernel_rfl
theorem pl_u3 : planOf Tryz.prog 8 108 = some plU3 := by kernel_rfl
theorem pl_words : planOf Tryz.prog 8 50 = some (.sl 3 plWord) := by kernel_rfl
theorem okd_i64s {d : Dt} (h : OkD (.sl 1 (.int .i64)) d) : ∃ xs : List Int, shP (.sl 1 (.int .i64)) d = [.sl 1 2 (xs.map fun x => [sI x])] ∧ ∀ x ∈ xs, In64 x := by
  obtain ⟨xs, rfl, hx0⟩ := okd_sl h
  obtain ⟨xs, e, hx⟩ := map_shP (p := .int .i64) (e := fun x : Int => [sI x]) (Q := In64) (fun d hd => by
    obtain ⟨n, rfl, h1⟩ := okd_int hd
    exact ⟨n, rfl, h1⟩) xs hx0
  exact ⟨xs, by show [Sh.sl 1 2 (_)] = _; rw [e], hx⟩
theorem okd_lay {d : Dt} (h : OkD plI3 d) : ∃ l : LayV, shP plI3 d = eLay l ∧ In64 l.threads ∧ In64 l.cells ∧ In64 l.blocks := by
  obtain ⟨a, d, rfl, ha, h⟩ := okd_cons h
  obtain ⟨b, d, rfl, hb, h⟩ := okd_cons h
  obtain ⟨c, d, rfl, hc, h⟩ := okd_cons h
  obtain rfl := okd_nil h
  obtain ⟨a, rfl, ha⟩ := okd_int ha
  obtain ⟨b, rfl, hb⟩ := okd_int hb
  obtain ⟨c, rfl, hc⟩ := okd_int hc
  exact ⟨⟨a, b, c⟩, rfl, ha, hb, hc⟩
theorem okd_u3 {d : Dt} (h : OkD plU3 d) : ∃ x : Int × Int × Int, shP plU3 d = [s8 x.1, s8 x.2.1, s8 x.2.2] ∧ (0 ≤ x.1 ∧ x.1 ≤ 255) ∧ (0 ≤ x.2.1 ∧ x.2.1 ≤ 255) ∧ (0 ≤ x.2.2 ∧ x.2.2 ≤ 255) := by
  obtain ⟨a, d, rfl, ha, h⟩ := okd_cons h
  obtain ⟨b, d, rfl, hb, h⟩ := okd_cons h
  obtain ⟨c, d, rfl, hc, h⟩ := okd_cons h
  obtain rfl := okd_nil h
  obtain ⟨a, rfl, ha⟩ := okd_int ha
  obtain ⟨b, rfl, hb⟩ := okd_int hb
  obtain ⟨c, rfl, hc⟩ := okd_int hc
  exact ⟨(a, b, c), rfl, ha, hb, hc⟩
theorem okd_words {d : Dt} (h : OkD (.sl 3 plWord) d) : ∃ ws : List WordV, shP (.sl 3 plWord) d = [.sl 3 2 (ws.map eWord)] ∧ ∀ w ∈ ws, WordIn w := by
  obtain ⟨xs, rfl, b1⟩ := okd_sl h
  obtain ⟨ws, e2, b2⟩ := map_shP (fun d h => okd_word h) xs b1
  exact ⟨ws, by show [Sh.sl 3 2 (xs.map fun x => shP plWord x)] = _; rw [e2], b2⟩
abbrev plPick : Pl := .cons (.int .i64) (.cons (.int .i64) (.cons (.int .i64) .nil))
abbrev plGot : Pl := .cons plWord (.cons .bool .nil)
theorem pl_gots : planOf Tryz.prog 8 75 = some (.sl 4 plGot) := by kernel_rfl
theorem pl_picks : planOf Tryz.prog 8 42 = some (.sl 3 plPick) := by kernel_rfl
theorem okd_pick {d : Dt} (h : OkD plPick d) : ∃ x, shP plPick d = ePick x := by
  obtain ⟨_, _, rfl, h1, h⟩ := okd_cons h
  obtain ⟨_, _, rfl, h2, h⟩ := okd_cons h
  obtain ⟨_, _, rfl, h3, h⟩ := okd_cons h
  obtain rfl := okd_nil h
  obtain ⟨a, rfl, a1⟩ := okd_int h1
  obtain ⟨b, rfl, b1⟩ := okd_int h2
  obtain ⟨c, rfl, c1⟩ := okd_int h3
  exact ⟨⟨a, b, c⟩, rfl⟩
theorem okd_got {d : Dt} (h : OkD plGot d) : ∃ x, shP plGot d = eGot x := by
  obtain ⟨_, _, rfl, h1, h⟩ := okd_cons h
  obtain ⟨_, _, rfl, h2, h⟩ := okd_cons h
  obtain rfl := okd_nil h
  obtain ⟨a, e1, a1⟩ := okd_word h1
  obtain ⟨b, rfl⟩ := okd_bool h2
  refine ⟨⟨a, b⟩, ?_⟩
  show shP plWord _ ++ ([sB b] ++ []) = _
  rw [e1]; rfl
theorem okd_picks {d : Dt} (h : OkD (.sl 3 plPick) d) : ∃ ps : List PickV, shP (.sl 3 plPick) d = [.sl 3 2 (ps.map ePick)] ∧ True := by
  obtain ⟨xs, rfl, b1⟩ := okd_sl h
  obtain ⟨ws, e2, b2⟩ := map_shP (Q := fun _ => True) (fun d h => by obtain ⟨x, hx⟩ := okd_pick h; exact ⟨x, hx, trivial⟩) xs b1
  exact ⟨ws, by show [Sh.sl 3 2 (xs.map fun x => shP plPick x)] = _; rw [e2], trivial⟩
theorem okd_gots {d : Dt} (h : OkD (.sl 4 plGot) d) : ∃ ps : List GotV, shP (.sl 4 plGot) d = [.sl 4 2 (ps.map eGot)] ∧ True := by
  obtain ⟨xs, rfl, b1⟩ := okd_sl h
  obtain ⟨ws, e2, b2⟩ := map_shP (Q := fun _ => True) (fun d h => by obtain ⟨x, hx⟩ := okd_got h; exact ⟨x, hx, trivial⟩) xs b1
  exact ⟨ws, by show [Sh.sl 4 2 (xs.map fun x => shP plGot x)] = _; rw [e2], trivial⟩
section
variable {H : Type} {enc : TypeId × Value → H} {P : Program} {W : World} {base : Nat} {spare : Nat → Bool} {held : Bool}
/-- An array argument. -/
theorem argArray {t e : TypeId} {n : Nat} {v : Value} {d : DataW H} {ps : List MemPlace} {r : Reach} {b0 m : Nat} {p : Pl} (hu : P.underlying t = some (.array n e)) (hk : planOf P m t = some p)
    (hval : Value.okWide P W r b0 t v) (hd : DataW.Trod enc P W base spare held t v d ps) : ∃ q, OkD p q ∧ Rep (allHp W) E0 (.agg (shP p q)) v := by
  obtain ⟨cs, rfl⟩ : ∃ cs, v = .agg cs := by
    unfold Value.okWide at hval
    rw [hu] at hval
    obtain ⟨cs, h, _⟩ := hval
    exact ⟨cs, h⟩
  obtain ⟨fuel, hf⟩ := hd
  obtain ⟨q, q1, q2, q3⟩ := planOf_good m t p fuel _ _ hk hf
  exact ⟨q, q1, by have := Rep.agg q2 q3; simpa [Value.cells] using this⟩
end
end Go.Proofs.YtkbgdhomdbolnaaGreatDoor
