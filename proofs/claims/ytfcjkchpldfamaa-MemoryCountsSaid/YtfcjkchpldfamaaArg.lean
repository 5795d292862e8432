/-
  Arguments of any plain shape, opened as shadows.
-/
import Derived.Test.YtfcjkchpldfamaaRep
namespace Go.Proofs.Ytfcjkchpldfamaa
set_option linter.unusedSimpArgs false
set_option linter.unusedVariables false
open Go.ChangeShapes Go.WideShapes Go.ChangeAt Go.RowKit Go.Deep Go.Maps

/-- The shape of a plain type: numbers, bools, slices, structs and arrays (as chains). -/
inductive Pl where
  | int (k : IntKind)
  | bool
  | sl (k : Nat) (e : Pl)
  | nil
  | cons (h t : Pl)
inductive Dt where
  | i (n : Int)
  | b (b : Bool)
  | l (xs : List Dt)
  | nil
  | cons (h t : Dt)
def shP : Pl → Dt → List Sh
  | .int k, .i n => [.v (.int k n)]
  | .bool, .b b => [.v (.bool b)]
  | .sl k e, .l xs => [.sl k 2 (xs.map fun x => shP e x)]
  | .cons h t, .cons a b => shP h a ++ shP t b
  | _, _ => []
def OkD : Pl → Dt → Prop
  | .int k, .i n => k.min ≤ n ∧ n ≤ k.max
  | .bool, .b _ => True
  | .sl _ e, .l xs => ∀ x ∈ xs, OkD e x
  | .nil, .nil => True
  | .cons h t, .cons a b => OkD h a ∧ OkD t b
  | _, _ => False
def planFs (P : Program) (g : TypeId → Option Pl) : List Field → Nat → Option Pl
  | [], _ => some .nil
  | f :: fs, acc => if f.offset = acc then (g f.type).bind fun p => (planFs P g fs (acc + P.cellsOf f.type)).map (.cons p ·) else none
def fsEnd (P : Program) : List Field → Nat → Nat
  | [], acc => acc
  | f :: fs, acc => fsEnd P fs (acc + P.cellsOf f.type)
def repP (p : Pl) : Nat → Pl
  | 0 => .nil
  | n + 1 => .cons p (repP p n)
def planOf (P : Program) : Nat → TypeId → Option Pl
  | 0 => fun _ => none
  | m + 1 => fun t => match P.underlying t with
    | some (.int k) => some (.int k)
    | some .bool => some .bool
    | some (.slice e) => (planOf P m e).map (.sl (P.cellsOf e))
    | some (.array n e) => if n * P.cellsOf e = P.cellsOf t then (planOf P m e).map (repP · n) else none
    | some (.struct fs) => if fsEnd P fs.toList 0 = P.cellsOf t then planFs P (planOf P m) fs.toList 0 else none
    | _ => none

section
variable {H : Type} {enc : TypeId × Value → H} {P : Program} {W : World} {base : Nat} {spare : Nat → Bool} {held : Bool}

def GoodP (W : World) (pl : Pl) (vs : List Value) : Prop := ∃ d, OkD pl d ∧ RepL (allHp W) E0 (shP pl d) vs ∧ (shP pl d).all Sh.one = true
theorem goodP_app {p q : Pl} {us vs : List Value} (h1 : GoodP W p us) (h2 : GoodP W q vs) : GoodP W (.cons p q) (us ++ vs) := by
  obtain ⟨a, a1, a2, a3⟩ := h1
  obtain ⟨b, b1, b2, b3⟩ := h2
  exact ⟨.cons a b, ⟨a1, b1⟩, a2.append b2, by simp only [shP, List.all_append, a3, b3, Bool.and_self]⟩
theorem goodP_nil : GoodP W .nil [] := ⟨.nil, trivial, .nil, rfl⟩
theorem fsEnd_le (P : Program) : ∀ (fs : List Field) (acc : Nat), acc ≤ fsEnd P fs acc
  | [], _ => Nat.le_refl _
  | f :: fs, acc => Nat.le_trans (Nat.le_add_right _ _) (fsEnd_le P fs _)
theorem planFs_good {m : Nat} {g : TypeId → Option Pl} {cs : List Value} (hg : ∀ t p vs x, g t = some p → DataW.trod enc P W base spare held m t vs = some x → GoodP W p vs) :
    ∀ (fs : List Field) (acc : Nat) (p : Pl) (xs : List (DataW H × List MemPlace)), planFs P g fs acc = some p → xs.length = fs.length →
      (∀ (i : Nat) (f : Field), fs[i]? = some f → DataW.trod enc P W base spare held m f.type ((cs.drop f.offset).take (P.cellsOf f.type)) = xs[i]?) → cs.length = fsEnd P fs acc → GoodP W p (cs.drop acc)
  | [], acc, p, xs, h, _, _, hl => by
    simp only [planFs, Option.some.injEq] at h
    subst h
    rw [List.drop_of_length_le (by simp [fsEnd] at hl; omega)]
    exact goodP_nil
  | f :: fs, acc, p, xs, h, hx, hi, hl => by
    unfold planFs at h
    split at h
    · rename_i ho
      cases hk : g f.type with
      | none => rw [hk] at h; cases h
      | some p1 =>
        rw [hk] at h
        simp only [Option.bind_some] at h
        cases hr : planFs P g fs (acc + P.cellsOf f.type) with
        | none => rw [hr] at h; cases h
        | some p2 =>
          rw [hr] at h
          simp only [Option.map_some, Option.some.injEq] at h
          subst h
          match xs, hx with
          | x :: xs, hx =>
            have h0 := hi 0 f rfl
            rw [ho] at h0
            have f1 := hg _ _ _ _ hk h0
            have f2 := planFs_good hg fs (acc + P.cellsOf f.type) p2 xs hr (by simpa using hx) (fun i f' hf => by have := hi (i + 1) f' (by simpa using hf); simpa using this) (by simpa [fsEnd] using hl)
            have e : cs.drop acc = (cs.drop acc).take (P.cellsOf f.type) ++ cs.drop (acc + P.cellsOf f.type) := by rw [← List.drop_drop, List.take_append_drop]
            rw [e]
            exact goodP_app f1 f2
    · cases h
theorem repP_good {p : Pl} {k : Nat} : ∀ (n : Nat) (cs : List Value), cs.length = n * k → (∀ i, i < n → GoodP W p ((cs.drop (i * k)).take k)) → GoodP W (repP p n) cs
  | 0, cs, hl, _ => by
    obtain rfl : cs = [] := List.eq_nil_of_length_eq_zero (by simpa using hl)
    exact goodP_nil
  | n + 1, cs, hl, h => by
    have f1 := h 0 (by omega)
    rw [Nat.zero_mul, List.drop_zero] at f1
    have f2 := repP_good (k := k) n (cs.drop k) (by rw [List.length_drop, hl, Nat.add_mul]; omega) (fun i hi => by
      have := h (i + 1) (by omega)
      rw [List.drop_drop, show k + i * k = (i + 1) * k from by rw [Nat.add_mul]; omega]
      exact this)
    have e : cs = cs.take k ++ cs.drop k := by rw [List.take_append_drop]
    rw [e]
    exact goodP_app f1 f2

theorem planOf_good : ∀ (m' : Nat) (t : TypeId) (p : Pl) (m : Nat) (vs : List Value) (x : DataW H × List MemPlace), planOf P m' t = some p → DataW.trod enc P W base spare held m t vs = some x → GoodP W p vs
  | 0, _, _, _, _, _, h, _ => by simp [planOf] at h
  | m' + 1, t, p, m, vs, x, h, hx => by
    unfold planOf at h
    split at h
    · rename_i k hu
      cases h
      obtain ⟨n, rfl, _, hw⟩ := DataW.trod_int hu hx
      simp only [Lit.wf, Bool.and_eq_true, decide_eq_true_eq] at hw
      exact ⟨.i n, hw, .cons (.v rfl) .nil, rfl⟩
    · rename_i hu
      cases h
      obtain ⟨b, rfl, _⟩ := DataW.trod_bool hu hx
      exact ⟨.b b, trivial, .cons (.v rfl) .nil, rfl⟩
    · rename_i e hu
      cases hr : planOf P m' e with
      | none => rw [hr] at h; cases h
      | some q =>
        rw [hr] at h
        simp only [Option.map_some, Option.some.injEq] at h
        subst h
        obtain ⟨s, l, rfl, hs, hc⟩ := slOpen (R := EncR (shP q) (OkD q)) hu rfl (fun n cs x hx hl => by
          obtain ⟨d, d1, d2, d3⟩ := planOf_good m' e q n cs x hr hx
          exact ⟨d2.one d3, d, d2, d3, d1⟩) hx
        obtain ⟨r1, r2⟩ := slice_rep hs hc
        exact ⟨.l l, r2, .cons r1 .nil, rfl⟩
    · rename_i n e hu
      split at h
      · rename_i hc
        cases hr : planOf P m' e with
        | none => rw [hr] at h; cases h
        | some q =>
          rw [hr] at h
          simp only [Option.map_some, Option.some.injEq] at h
          subst h
          obtain ⟨xs, m2, rfl, _, hl, hxl, hf⟩ := DataW.trod_array hu hx
          exact repP_good (k := P.cellsOf e) n vs (by rw [hl, hc]) (fun i hi => by
            have := hf i hi
            rw [List.getElem?_eq_getElem (by omega)] at this
            exact planOf_good m' e q m2 _ _ hr this)
      · cases h
    · rename_i fs hu
      split at h
      · rename_i hc
        obtain ⟨xs, n, rfl, _, hl, hxl, hf⟩ := DataW.trod_struct hu hx
        have := planFs_good (cs := vs) (fun t p vs x h h' => planOf_good m' t p n vs x h h') fs.toList 0 p xs h (by simpa using hxl) (fun i f hi => hf i f (by simpa using hi)) (by rw [hl, hc])
        simpa using this
      · cases h
    · cases h

/-- A struct argument. -/
theorem argStruct {t : TypeId} {fs : Array Field} {v : Value} {d : DataW H} {ps : List MemPlace} {r : Reach} {b0 m : Nat} {p : Pl} (hu : P.underlying t = some (.struct fs)) (hk : planOf P m t = some p)
    (hval : Value.okWide P W r b0 t v) (hd : DataW.Trod enc P W base spare held t v d ps) : ∃ q, OkD p q ∧ Rep (allHp W) E0 (.agg (shP p q)) v := by
  obtain ⟨cs, rfl, _⟩ := okWide_struct hu hval
  obtain ⟨fuel, hf⟩ := hd
  obtain ⟨q, q1, q2, q3⟩ := planOf_good m t p fuel _ _ hk hf
  exact ⟨q, q1, by have := Rep.agg q2 q3; simpa [Value.cells] using this⟩
/-- An argument of one cell. -/
theorem argCell {t : TypeId} {v : Value} {d : DataW H} {ps : List MemPlace} {m : Nat} {p : Pl} (h1 : v.oneCell' = true) (hk : planOf P m t = some p)
    (hd : DataW.Trod enc P W base spare held t v d ps) : ∃ q, OkD p q ∧ RepL (allHp W) E0 (shP p q) [v] := by
  obtain ⟨fuel, hf⟩ := hd
  obtain ⟨q, q1, q2, _⟩ := planOf_good m t p fuel _ _ hk hf
  have e : v.cells = #[v] := by cases v <;> simp_all [Value.cells, Value.oneCell']
  rw [e] at q2
  exact ⟨q, q1, q2⟩
theorem okWide_one {t : TypeId} {dsc : TypeDesc} {v : Value} {r : Reach} {b0 : Nat} (hu : P.underlying t = some dsc) (hs : dsc = .bool ∨ (∃ k, dsc = .int k) ∨ ∃ e, dsc = .slice e) (hval : Value.okWide P W r b0 t v) : v.oneCell' = true := by
  rcases hs with rfl | ⟨k, rfl⟩ | ⟨e, rfl⟩
  · obtain ⟨b, rfl⟩ := okWide_bool hu hval; rfl
  · obtain ⟨n, rfl⟩ := okWide_int hu hval; rfl
  · obtain ⟨a, n, c, rfl⟩ := okWide_slice hu hval; rfl
end
end Go.Proofs.Ytfcjkchpldfamaa
