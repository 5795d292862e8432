/-
  The arguments of layer 4's laws.
  The arguments of layer 12's laws.
-/
import Derived.Test.YtkmbcjnaaokilaaGreatDoorMC
import Derived.Test.YtkmbcjnaaokilaaGreatDoorMK5
import Derived.Test.YtkmbcjnaaokilaaGreatDoorK12n
namespace Go.Proofs.YtkmbcjnaaokilaaGreatDoor
set_option linter.unusedSimpArgs false
set_option linter.unusedVariables false
open Go.ChangeShapes Go.WideShapes Go.ChangeAt Go.RowKit Go.Deep Go.Maps
theorem map_shP {α : Type} {p : Pl} {e : α → List Sh} {Q : α → Prop} (h : ∀ d,OkD p d → ∃ x,shP p d = e x ∧ Q x) : ∀ (xs : List Dt),(∀ x ∈ xs,OkD p x) → ∃ ys : List α,xs.map (fun x => shP p x) = ys.map e ∧ ∀ y ∈ ys,Q y
 | [],_ => ⟨[],rfl,fun y hy => by cases hy⟩
 | x :: xs,hx => by
  obtain ⟨y,h1,h2⟩ := h x (hx x (List.mem_cons_self ..))
  obtain ⟨ys,h3,h4⟩ := map_shP h xs (fun z hz => hx z (List.mem_cons_of_mem _ hz))
  refine ⟨y :: ys,by simp only [List.map_cons,h1,h3],fun z hz => ?_⟩
  rcases List.mem_cons.1 hz with rfl | hz
  ·exact h2
  ·exact h4 z hz
theorem okd_int {k : IntKind} {d : Dt} (h : OkD (.int k) d) : ∃ n,d = .i n ∧ k.min ≤ n ∧ n ≤ k.max := by
 cases d with
 | i n => exact ⟨n,rfl,h⟩
 | _ => exact h.elim
theorem okd_bool {d : Dt} (h : OkD .bool d) : ∃ b,d = .b b := by
 cases d with
 | b b => exact ⟨b,rfl⟩
 | _ => exact h.elim
theorem okd_sl {k : Nat} {e : Pl} {d : Dt} (h : OkD (.sl k e) d) : ∃ xs,d = .l xs ∧ ∀ x ∈ xs,OkD e x := by
 cases d with
 | l xs => exact ⟨xs,rfl,h⟩
 | _ => exact h.elim
theorem okd_cons {p q : Pl} {d : Dt} (h : OkD (.cons p q) d) : ∃ a b,d = .cons a b ∧ OkD p a ∧ OkD q b := by
 cases d with
 | cons a b => exact ⟨a,b,rfl,h.1,h.2⟩
 | _ => exact h.elim
theorem okd_nil {d : Dt} (h : OkD .nil d) : d = .nil := by
 cases d with
 | nil => rfl
 | _ => exact h.elim
def WordIn (w : WordV) : Prop := (-9223372036854775808 ≤ w.val ∧ w.val ≤ 9223372036854775807) ∧ (0 ≤ w.ver ∧ w.ver ≤ 4294967295) ∧ (0 ≤ w.ref ∧ w.ref ≤ 4294967295)
structure ActIn (a : ActM) : Prop where
 op : -9223372036854775808 ≤ a.op ∧ a.op ≤ 9223372036854775807
 place : InLoc a.place
 old : WordIn a.old
 new : WordIn a.new
structure DoIn (d : DoV) : Prop where
 act : ActIn d.act
end Go.Proofs.YtkmbcjnaaokilaaGreatDoor
namespace Go.Proofs.YtkmbcjnaaokilaaGreatDoor
set_option linter.unusedSimpArgs false
set_option linter.unusedVariables false
open Go.ChangeShapes Go.WideShapes Go.ChangeAt Go.RowKit Go.Deep Go.Maps
abbrev plOp : Pl := .cons .bool (.cons (.int .u8) .nil)
abbrev u8 (n : Int) : Sh := .v (.int .u8 n)
structure OpV where
 give : Bool
 n : Int
abbrev eOp (o : OpV) : List Sh := [sB o.give,u8 o.n]
abbrev eOps (l : List OpV) : List Sh := [.sl 2 2 (l.map eOp)]
theorem pl_u8 : planOf Tryz.prog 8 5 = some (.int .u8) := by kernel_rfl
theorem pl_ops12 : planOf Tryz.prog 8 22 = some (.sl 2 plOp) := by kernel_rfl
theorem okd_op12 {d : Dt} (h : OkD plOp d) : ∃ x,shP plOp d = eOp x ∧ 0 ≤ x.n ∧ x.n ≤ 255 := by
 obtain ⟨_,_,rfl,h1,h⟩ := okd_cons h
 obtain ⟨_,_,rfl,h2,h⟩ := okd_cons h
 obtain rfl := okd_nil h
 obtain ⟨a,rfl⟩ := okd_bool h1
 obtain ⟨b,rfl,b1⟩ := okd_int h2
 exact ⟨⟨a,b⟩,rfl,b1⟩
theorem okd_ops12 {d : Dt} (h : OkD (.sl 2 plOp) d) : ∃ l : List OpV,shP (.sl 2 plOp) d = eOps l ∧ ∀ x ∈ l,0 ≤ x.n ∧ x.n ≤ 255 := by
 obtain ⟨xs,rfl,b1⟩ := okd_sl h
 obtain ⟨ws,e2,b2⟩ := map_shP (fun d h => okd_op12 h) xs b1
 exact ⟨ws,by show [Sh.sl 2 2 (xs.map fun x => shP plOp x)] = _; rw [e2],b2⟩
section
variable {H : Type} {enc : TypeId × Value → H} {P : Program} {W : World} {base : Nat} {spare : Nat → Bool} {held : Bool}
end
end Go.Proofs.YtkmbcjnaaokilaaGreatDoor
