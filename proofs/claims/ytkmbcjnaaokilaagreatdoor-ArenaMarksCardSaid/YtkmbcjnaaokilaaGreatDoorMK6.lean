/-
  The arguments of layer 4's laws.
  The arguments of layer 12's laws.
  ArenaAlone by shadows.
  The shadow code of functions, written by a program; each is what the translator makes of the function.
-/
import Derived.Test.YtkmbcjnaaokilaaGreatDoorMC
import Derived.Test.YtkmbcjnaaokilaaGreatDoorMK10
import Derived.Test.YtkmbcjnaaokilaaGreatDoorK12n
import Derived.Test.YtkmbcjnaaokilaaGreatDoorK12o
import Derived.Test.YtkmbcjnaaokilaaGreatDoorMK9
namespace Go.Proofs.YtkmbcjnaaokilaaGreatDoor
set_option linter.unusedSimpArgs false
set_option linter.unusedVariables false
open Go.ChangeShapes Go.WideShapes Go.ChangeAt Go.RowKit Go.Deep Go.Maps
theorem map_shP {α : Type} {p : Pl} {e : α → List Sh} {Q : α → Prop} (h : ∀ d,OkD p d → ∃ x,shP p d = e x ∧ Q x) : ∀ (xs : List Dt),(∀ x ∈ xs,OkD p x) → ∃ ys : List α,xs.map (fun x => shP p x) = ys.map e ∧ ∀ y ∈ ys,Q y
 | [],_ => ⟨[],rfl,fun y hy => by cases hy⟩
 | x :: xs,hx => by
  obtain ⟨y,h1,h2⟩ := h x (hx x (List.mem_cons_self ..))
  obtain ⟨ys,h3,h4⟩ := map_shP h xs (fun z hz => hx z (List.mem_cons_of_mem _ hz))
  refine ⟨y :: ys,by simp only [List.map_cons,h1,h3],fun z hz => ?_⟩
  rcases List.mem_cons.1 hz with rfl | hz
  ·exact h2
  ·exact h4 z hz
theorem okd_int {k : IntKind} {d : Dt} (h : OkD (.int k) d) : ∃ n,d = .i n ∧ k.min ≤ n ∧ n ≤ k.max := by
 cases d with
 | i n => exact ⟨n,rfl,h⟩
 | _ => exact h.elim
theorem okd_sl {k : Nat} {e : Pl} {d : Dt} (h : OkD (.sl k e) d) : ∃ xs,d = .l xs ∧ ∀ x ∈ xs,OkD e x := by
 cases d with
 | l xs => exact ⟨xs,rfl,h⟩
 | _ => exact h.elim
theorem okd_cons {p q : Pl} {d : Dt} (h : OkD (.cons p q) d) : ∃ a b,d = .cons a b ∧ OkD p a ∧ OkD q b := by
 cases d with
 | cons a b => exact ⟨a,b,rfl,h.1,h.2⟩
 | _ => exact h.elim
theorem okd_nil {d : Dt} (h : OkD .nil d) : d = .nil := by
 cases d with
 | nil => rfl
 | _ => exact h.elim
def WordIn (w : WordV) : Prop := (-9223372036854775808 ≤ w.val ∧ w.val ≤ 9223372036854775807) ∧ (0 ≤ w.ver ∧ w.ver ≤ 4294967295) ∧ (0 ≤ w.ref ∧ w.ref ≤ 4294967295)
structure ActIn (a : ActM) : Prop where
 op : -9223372036854775808 ≤ a.op ∧ a.op ≤ 9223372036854775807
 place : InLoc a.place
 old : WordIn a.old
 new : WordIn a.new
structure DoIn (d : DoV) : Prop where
 act : ActIn d.act
end Go.Proofs.YtkmbcjnaaokilaaGreatDoor
namespace Go.Proofs.YtkmbcjnaaokilaaGreatDoor
set_option linter.unusedSimpArgs false
set_option linter.unusedVariables false
open Go.ChangeShapes Go.WideShapes Go.ChangeAt Go.RowKit Go.Deep Go.Maps
def In64 (n : Int) : Prop := -9223372036854775808 ≤ n ∧ n ≤ 9223372036854775807
abbrev plU2 : Pl := .cons (.int .u8) (.cons (.int .u8) .nil)
abbrev u8 (n : Int) : Sh := .v (.int .u8 n)
structure OpV where
 give : Bool
 n : Int
theorem pl_u8 : planOf Tryz.prog 8 5 = some (.int .u8) := by kernel_rfl
theorem pl_ints : planOf Tryz.prog 8 29 = some (.sl 1 (.int .i64)) := by kernel_rfl
theorem pl_u2 : planOf Tryz.prog 8 46 = some plU2 := by kernel_rfl
theorem okd_ints {d : Dt} (h : OkD (.sl 1 (.int .i64)) d) : ∃ xs : List Int,shP (.sl 1 (.int .i64)) d = [.sl 1 2 (xs.map fun x => [sI x])] ∧ ∀ x ∈ xs,In64 x := by
 obtain ⟨xs,rfl,hx0⟩ := okd_sl h
 obtain ⟨xs,e,hx⟩ := map_shP (p := .int .i64) (e := fun x : Int => [sI x]) (Q := In64) (fun d hd => by
  obtain ⟨n,rfl,h1⟩ := okd_int hd
  exact ⟨n,rfl,h1⟩) xs hx0
 exact ⟨xs,by show [Sh.sl 1 2 (_)] = _; rw [e],hx⟩
theorem okd_u2 {d : Dt} (h : OkD plU2 d) : ∃ x : Int × Int,shP plU2 d = [u8 x.1,u8 x.2] ∧ (0 ≤ x.1 ∧ x.1 ≤ 255) ∧ (0 ≤ x.2 ∧ x.2 ≤ 255) := by
 obtain ⟨a,d,rfl,ha,h⟩ := okd_cons h
 obtain ⟨b,d,rfl,hb,h⟩ := okd_cons h
 obtain rfl := okd_nil h
 obtain ⟨a,rfl,ha⟩ := okd_int ha
 obtain ⟨b,rfl,hb⟩ := okd_int hb
 exact ⟨(a,b),rfl,ha,hb⟩
section
variable {H : Type} {enc : TypeId × Value → H} {P : Program} {W : World} {base : Nat} {spare : Nat → Bool} {held : Bool}
theorem argArray {t e : TypeId} {n : Nat} {v : Value} {d : DataW H} {ps : List MemPlace} {r : Reach} {b0 m : Nat} {p : Pl} (hu : P.underlying t = some (.array n e)) (hk : planOf P m t = some p)
  (hval : Value.okWide P W r b0 t v) (hd : DataW.Trod enc P W base spare held t v d ps) : ∃ q,OkD p q ∧ Rep (allHp W) E0 (.agg (shP p q)) v := by
 obtain ⟨cs,rfl⟩ : ∃ cs,v = .agg cs := by
  unfold Value.okWide at hval
  rw [hu] at hval
  obtain ⟨cs,h,_⟩ := hval
  exact ⟨cs,h⟩
 obtain ⟨fuel,hf⟩ := hd
 obtain ⟨q,q1,q2,q3⟩ := planOf_good m t p fuel _ _ hk hf
 exact ⟨q,q1,by have := Rep.agg q2 q3; simpa [Value.cells] using this⟩
end
end Go.Proofs.YtkmbcjnaaokilaaGreatDoor
namespace Go.Proofs.YtkmbcjnaaokilaaGreatDoor
set_option linter.unusedSimpArgs false
set_option linter.unusedVariables false
open Go.RowKit Go.Maps
theorem bitP_mono {l : LayV} {i j : Nat} (h : i ≤ j) : bitP l i ≤ bitP l j := by unfold bitP; omega
inductive AlStep (l : LayV) (ws : List WordV) (g : Bool) (m : Nat) : Prop
 | tn (h : g = false) (h1 : takeI (usedF l (wordF ws)) l.blocks.toNat m = -1) (X : Sol) (hX : soloA 100 (sol0 (.tk (takeM l m)) (wordF ws)) = X) (hXl : X.live = false) (hXb : blockA X.s = (0,9,true) ∧ X.f = wordF ws)
 | ts (h : g = false) (b : Nat) (hb : b < l.blocks.toNat) (h1 : takeI (usedF l (wordF ws)) l.blocks.toNat m = (b : Int)) (X : Sol) (hX : soloA 100 (sol0 (.tk (takeM l m)) (wordF ws)) = X) (hXl : X.live = false) (hXb : blockA X.s = ((b : Int),0,true) ∧ X.f = setB l (wordF ws) b)
 | gu (h : g = true) (h1 : usedF l (wordF ws) m = true) (X : Sol) (hX : soloA 100 (sol0 (.gv (giveA l m)) (wordF ws)) = X) (hXl : X.live = false) (hXb : blockA X.s = ((m : Int),0,true) ∧ X.f = clrB l (wordF ws) m)
 | gf (h : g = true) (h1 : usedF l (wordF ws) m = false) (X : Sol) (hX : soloA 100 (sol0 (.gv (giveA l m)) (wordF ws)) = X) (hXl : X.live = false) (hXb : blockA X.s = ((m : Int),13,true) ∧ X.f = wordF ws)
end Go.Proofs.YtkmbcjnaaokilaaGreatDoor
namespace Go.Proofs.YtkmbcjnaaokilaaGreatDoor
open Go.RowKit

def sc_containsInt : SC := (.seq (.ops [⟨some 4,none,.mv (.const (.bool false))⟩]) (.seq (.ops [⟨some 5,none,.mv (.tmp 0)⟩,⟨some 6,none,.mv (.tmp 1)⟩,⟨some 7,none,.call 76 [.tmp 5,.tmp 6]⟩,⟨some 8,none,.bin .geq (.tmp 7) (.const (.int .i64 0))⟩,⟨some 4,none,.mv (.tmp 8)⟩]) .ret))
def rv_containsInt : List RV := [.tmp 4]
theorem tr_containsInt : trFn Tryz.prog rfl Tryz.f56 = some (sc_containsInt,rv_containsInt) := by kernel_rfl
def sc_indexInt : SC := (.seq (.ops [⟨some 4,none,.mv (.const (.int .i64 0))⟩]) (.seq (.seq (.ops [⟨some 6,none,.mv (.tmp 0)⟩,⟨some 7,none,.len (.tmp 6)⟩,⟨some 8,none,.mv (.const (.int .i64 0))⟩]) (.block 0 (.loop (.seq (.ops [⟨some 9,none,.bin .lss (.tmp 8) (.tmp 7)⟩]) (.seq (.cond (.tmp 9) .skip (.exit 0)) (.seq (.block 1 (.seq (.ops [⟨some 10,none,.mv (.tmp 8)⟩,⟨some 5,none,.mv (.tmp 10)⟩]) (.seq (.ops [⟨some 11,none,.mv (.tmp 1)⟩,⟨some 12,none,.mv (.tmp 0)⟩,⟨some 13,none,.mv (.tmp 5)⟩,⟨some 14,none,.ixa (.tmp 12) (.tmp 13) 1⟩,⟨some 15,none,.ld (.tmp 14) none⟩,⟨some 16,none,.callv (.tmp 11) [.tmp 15]⟩]) (.cond (.tmp 16) (.seq (.ops [⟨some 17,none,.mv (.tmp 5)⟩,⟨some 4,none,.mv (.tmp 17)⟩]) .ret) .skip)))) (.ops [⟨some 18,none,.bin .add (.tmp 8) (.const (.int .i64 1))⟩,⟨some 8,none,.mv (.tmp 18)⟩]))))))) (.seq (.ops [⟨some 4,none,.mv (.const (.int .i64 (-1)))⟩]) .ret)))
def rv_indexInt : List RV := [.tmp 4]
theorem tr_indexInt : trFn Tryz.prog rfl Tryz.f76 = some (sc_indexInt,rv_indexInt) := by kernel_rfl
end Go.Proofs.YtkmbcjnaaokilaaGreatDoor
