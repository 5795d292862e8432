/-
  Words, and what all layers share.
-/
import Derived.Test.YtfcjkchpldfamaaShJ
import Derived.OwnWalk
import Derived.Lib.LazyBuf
import Derived.Test.YtfcjkchpldfamaaOpen
namespace Go.Proofs.Ytfcjkchpldfamaa
set_option linter.unusedSimpArgs false
set_option linter.unusedVariables false
open Go.RowKit Go.Maps

abbrev sI (n : Int) : Sh := .v (.int .i64 n)
abbrev sU (n : Int) : Sh := .v (.int .u32 n)
abbrev sB (b : Bool) : Sh := .v (.bool b)

structure WordV where
  val : Int
  ver : Int
  ref : Int
abbrev eWord (w : WordV) : List Sh := [sI w.val, sU w.ver, sU w.ref]
theorem infoWord : (Try.prog.info? 29).map (fun i => (i.zero, i.size, i.bytes)) = some (some (.agg #[.int .i64 0, .int .u32 0, .int .u32 0]), 3, 16) := by kernel_rfl
theorem wpList_append_nothing {w : World} {ops : Array Oper} {rest : List Oper} {o : Oper} {a : Act} {Q : Exit → Act → World → Prop} (hg : o.guard = none) (x y : Operand) (t e : TypeId) (i : TypeInfo)
    (hop : o.op = .call ⟨.builtin .append, #[x, y], #[t, t]⟩) (ht : Try.prog.underlying t = some (.slice e)) (hi : Try.prog.info? e = some i) (b a2 : Option Addr) (c2 : Nat) (hx : a.eval x = .slice b 0 0) (hy : a.eval y = .slice a2 0 c2)
    (hK : wpList Try.prog ops Q rest (a.put o.dst (.slice b 0 0)) w) : wpList Try.prog ops Q (o :: rest) a w := by
  refine wpList_plain hg fun K' hK' => ?_
  have hl : ∀ (x : Addr), (loadCells x 0).run Try.prog w = .ok #[] w := fun x => by simpa using run_loadCells_list (P := Try.prog) w x [] (by simp)
  have hrun : (Builtin.append_ #[t, t] o.type #[.slice b 0 0, .slice a2 0 c2]).run Try.prog w = .ok (.slice b 0 0) w := by
    cases b <;> cases a2 <;> simp [Builtin.append_, run_underlying ht, run_sizeOf hi, Builtin.lenOf, Builtin.firstCells, hl, storeCells]
  unfold Oper.wp
  simp [execOp, hop, resolve, hx, hy, invoke, builtin, hrun]
  exact hK' _ _ hK

/-- Handed over at once. -/
theorem OkRow.ok {f : FuncId} {args : List Sh} {e : TypeId} {k : Nat} {es : List (List Sh)} (h : OkRow f args e k es) : Ok f args (.sl k 0 es) := by
  intro w H vs hs hv
  refine Calls.mono (h w H vs hs hv) ?_
  rintro en w' ⟨v, xs, rfl, hg, hpos, hown, hR, hnil⟩
  by_cases h0 : es = []
  · subst h0
    obtain ⟨a, rfl⟩ := hnil rfl
    exact ret_mk (c := fun v : Value => v) _ H hg (.sl .nil rfl (Nat.le_refl _) (Nat.zero_le _) ⟨fun _ => rfl, fun _ _ => rfl⟩ (fun _ => rfl) (fun j u hu => by simp at hu))
  · have hp : 0 < es.length := by cases es with | nil => exact absurd rfl h0 | cons => simp
    obtain ⟨g, cap, cur, rfl, s2, s3, s4, s5, s6, s7⟩ := ownsRow_rep hown hR rfl hp
    have hg0 : H g = none := hs.none s2
    refine ret_mk (c := fun v : Value => v) _ (H.add g (.cells cur e (0, 0))) (hg.add s3 s2) (.sl (hR.mono (Hp.add_le hg0)) rfl s4 s5 ⟨fun e => (by cases e), fun _ e => absurd (List.eq_nil_of_length_eq_zero e) h0⟩ (fun e => (by cases e)) (fun j u hu => ⟨g, 0, cur, e, (0, 0), rfl, Hp.add_at _ _ _, ?_⟩))
    rw [← s7, List.getElem?_take] at hu
    split at hu
    · simpa using hu
    · cases hu

theorem ok_of_retv {f : FuncId} {xs : List Value} {r : Value} (h : ∀ w, RetV Try.prog f xs.toArray w r) (hr : r.oneCell' = true) : Ok f (xs.map .v) (.v r) := by
  intro w H vs hs hv
  have e : vs = xs := by
    clear h
    induction xs generalizing vs with
    | nil => cases hv; rfl
    | cons x xs ih => cases hv with | cons h1 t => cases h1; rw [ih _ t]
  subst e
  exact RetV.use (h w) fun w' hb => ret_mk (c := fun v : Value => v) r H (Grow.of_below hs hb) (.v hr)
theorem eqsh_bool (a b : Bool) : EqSh 4 (.v (.bool a)) (.v (.bool b)) (a == b) := by
  intro H E w u1 u2 o1 o2 hs h1 h2
  cases h1; cases h2
  have hu := Try.underlying4
  have hq := run_equal_bool (P := Try.prog) w 4 a b hu
  constructor
  · simp [eqGuard, binOp, hq]
  · simp [eqGuard, binOp, hq]
theorem lk_int (f : Int → Option Int) (k : Int) : (Option.map sI (f k)).getD (.v (.int .i64 0)) = sI ((f k).getD 0) := by cases f k <;> rfl
end Go.Proofs.Ytfcjkchpldfamaa
