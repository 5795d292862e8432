/-
  More operations that are told by a relation: a place of an array value, bits, shifts, a slice of an array.
-/
import Derived.Test.YtenbagffdlljdaaMK3
namespace Go.Proofs.Ytenbagffdlljdaa
set_option linter.unusedSimpArgs false
set_option linter.unusedVariables false
open Go.RowKit Go.Maps

theorem gen_index1 {t e : TypeId} {x j : Operand} {N : Nat} {k : IntKind} {n : Int} {cs : List Sh} {s : Sh} {i : TypeInfo} (hu : Try.prog.underlying t = some (.array N e)) (hi : Try.prog.info? e = some i) (h1 : i.size = 1)
    (ha : ∀ w, (isAgg e).run Try.prog w = .ok false w) (h0 : 0 ≤ n) (hn : n < N) (hs : cs[n.toNat]? = some s) : GenRel (.index t x j) [x, j] [.agg cs, .v (.int k n)] s := gen_val fun o a w H ho hS hA => by
  cases hA with
  | cons hx hA =>
    cases hA with
    | cons hj hA =>
      generalize hq : a.eval x = q at hx
      generalize hqj : a.eval j = qj at hj
      cases hj
      cases hx with
      | agg hL _ =>
        obtain ⟨u, hu1, hr⟩ := hL.get hs
        refine ⟨u, ?_, hr⟩
        simp [execOp, ho, hq, hqj, Instr.index, asIntOf, run_underlying hu, h0, hn, part, run_sizeOf hi, h1, ha, hu1]
def bitsI (op : BinOp) (k : IntKind) (x y : Int) : Int :=
  match op with
  | .and => k.wrap (BitVec.ofInt k.bits x &&& BitVec.ofInt k.bits y).toNat
  | .or => k.wrap (BitVec.ofInt k.bits x ||| BitVec.ofInt k.bits y).toNat
  | .xor => k.wrap (BitVec.ofInt k.bits x ^^^ BitVec.ofInt k.bits y).toNat
  | .andNot => k.wrap (BitVec.ofInt k.bits x &&& ~~~BitVec.ofInt k.bits y).toNat
  | _ => 0
theorem gen_bits {op : BinOp} {t t2 : TypeId} {x y : Operand} {k : IntKind} {p q : Int} (hop : op = .and ∨ op = .or ∨ op = .xor ∨ op = .andNot) : GenRel (.binOp op t x y t2) [x, y] [.v (.int k p), .v (.int k q)] (.v (.int k (bitsI op k p q))) := gen_val fun o a w H ho hS hA => by
  cases hA with
  | cons hx hA =>
    cases hA with
    | cons hy hA =>
      generalize hq : a.eval x = u at hx
      generalize hqj : a.eval y = v at hy
      cases hx; cases hy
      refine ⟨_, ?_, .v rfl⟩
      rcases hop with rfl | rfl | rfl | rfl <;> simp [execOp, ho, hq, hqj, eqGuard, binOp, Op.intBits, bitsI]
theorem repEs_of_flat {H : Hp} {k : Nat} : ∀ (es : List (List Sh)) (vs : List Value), RepL H E0 es.flatten vs → (∀ e ∈ es, e.length = k ∧ e.all Sh.one = true) → RepEs H k es vs
  | [], vs, h, _ => by cases h; exact .nil
  | e :: es, vs, h, he => by
    obtain ⟨h1, h2⟩ := he e (List.mem_cons_self ..)
    have a := h.take k
    have b := h.drop k
    rw [List.flatten_cons, ← h1, List.take_left'  rfl] at a
    rw [List.flatten_cons, ← h1, List.drop_left' rfl] at b
    have e1 : vs = vs.take e.length ++ vs.drop e.length := (List.take_append_drop _ _).symm
    rw [e1]
    exact .cons a (by rw [← a.length, h1]) h2 (repEs_of_flat es _ b fun x hx => he x (List.mem_cons_of_mem _ hx))
theorem gen_slice_arr {t e : TypeId} {x : Operand} {N k off : Nat} {cs : List Sh} {es : List (List Sh)} {i : TypeInfo} (hu : Try.prog.underlying t = some (.array N e)) (hi : Try.prog.info? e = some i)
    (hN : N ≤ maxLen) (hes : es.length = N) (hk : ∀ e ∈ es, e.length = k ∧ e.all Sh.one = true) (hc : (cs.drop off).take (N * k) = es.flatten) : GenRel (.slice t x none none none) [x] [.fp cs off] (.sl k 1 es) := gen_val fun o a w H ho hS hA => by
  cases hA with
  | cons hx hA =>
    generalize hq : a.eval x = u at hx
    cases hx with
    | fp hL hone hat =>
      rename_i b o' xs
      refine ⟨.slice (some ⟨b, o' + off, none⟩) N N, ?_, ?_⟩
      · simp [execOp, ho, hq, Instr.sliceAt, Instr.sureAddr, run_underlying hu, run_sizeOf hi, Instr.sliceBounds]
        intro _; simp [Addr.add]
      · have hR : RepEs H k es ((xs.drop off).take (N * k)) := repEs_of_flat es _ (by rw [← hc]; exact (hL.drop off).take _) hk
        refine .sl hR hes (Nat.le_refl _) hN ⟨fun _ => rfl, fun _ h => h⟩ (fun h => by cases h) fun j v hv => ?_
        rw [List.getElem?_take] at hv
        split at hv
        · rw [List.getElem?_drop] at hv
          obtain ⟨cells, t', fr, e1, e2⟩ := hat _ _ hv
          exact ⟨b, o' + off, cells, t', fr, rfl, e1, by rw [Nat.add_assoc]; exact e2⟩
        · cases hv
end Go.Proofs.Ytenbagffdlljdaa
