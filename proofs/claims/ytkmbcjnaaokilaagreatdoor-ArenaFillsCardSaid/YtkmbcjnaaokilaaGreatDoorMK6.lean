/-
  The arguments of layer 4's laws.
  The arguments of layer 12's laws.
  ArenaAlone by shadows.
  The shadow code of functions, written by a program; each is what the translator makes of the function.
-/
import Derived.Test.YtkmbcjnaaokilaaGreatDoorMC
import Derived.Test.YtkmbcjnaaokilaaGreatDoorMK8
import Derived.Test.YtkmbcjnaaokilaaGreatDoorK12n
import Derived.Test.YtkmbcjnaaokilaaGreatDoorK12o
import Derived.Test.YtkmbcjnaaokilaaGreatDoorMK1
namespace Go.Proofs.YtkmbcjnaaokilaaGreatDoor
set_option linter.unusedSimpArgs false
set_option linter.unusedVariables false
open Go.ChangeShapes Go.WideShapes Go.ChangeAt Go.RowKit Go.Deep Go.Maps
theorem map_shP {α : Type} {p : Pl} {e : α → List Sh} {Q : α → Prop} (h : ∀ d,OkD p d → ∃ x,shP p d = e x ∧ Q x) : ∀ (xs : List Dt),(∀ x ∈ xs,OkD p x) → ∃ ys : List α,xs.map (fun x => shP p x) = ys.map e ∧ ∀ y ∈ ys,Q y
 | [],_ => ⟨[],rfl,fun y hy => by cases hy⟩
 | x :: xs,hx => by
  obtain ⟨y,h1,h2⟩ := h x (hx x (List.mem_cons_self ..))
  obtain ⟨ys,h3,h4⟩ := map_shP h xs (fun z hz => hx z (List.mem_cons_of_mem _ hz))
  refine ⟨y :: ys,by simp only [List.map_cons,h1,h3],fun z hz => ?_⟩
  rcases List.mem_cons.1 hz with rfl | hz
  ·exact h2
  ·exact h4 z hz
theorem okd_int {k : IntKind} {d : Dt} (h : OkD (.int k) d) : ∃ n,d = .i n ∧ k.min ≤ n ∧ n ≤ k.max := by
 cases d with
 | i n => exact ⟨n,rfl,h⟩
 | _ => exact h.elim
theorem okd_sl {k : Nat} {e : Pl} {d : Dt} (h : OkD (.sl k e) d) : ∃ xs,d = .l xs ∧ ∀ x ∈ xs,OkD e x := by
 cases d with
 | l xs => exact ⟨xs,rfl,h⟩
 | _ => exact h.elim
def WordIn (w : WordV) : Prop := (-9223372036854775808 ≤ w.val ∧ w.val ≤ 9223372036854775807) ∧ (0 ≤ w.ver ∧ w.ver ≤ 4294967295) ∧ (0 ≤ w.ref ∧ w.ref ≤ 4294967295)
structure ActIn (a : ActM) : Prop where
 op : -9223372036854775808 ≤ a.op ∧ a.op ≤ 9223372036854775807
 place : InLoc a.place
 old : WordIn a.old
 new : WordIn a.new
structure DoIn (d : DoV) : Prop where
 act : ActIn d.act
end Go.Proofs.YtkmbcjnaaokilaaGreatDoor
namespace Go.Proofs.YtkmbcjnaaokilaaGreatDoor
set_option linter.unusedSimpArgs false
set_option linter.unusedVariables false
open Go.ChangeShapes Go.WideShapes Go.ChangeAt Go.RowKit Go.Deep Go.Maps
def In64 (n : Int) : Prop := -9223372036854775808 ≤ n ∧ n ≤ 9223372036854775807
abbrev u8 (n : Int) : Sh := .v (.int .u8 n)
structure OpV where
 give : Bool
 n : Int
theorem pl_u8 : planOf Tryz.prog 8 5 = some (.int .u8) := by kernel_rfl
theorem pl_ints : planOf Tryz.prog 8 29 = some (.sl 1 (.int .i64)) := by kernel_rfl
theorem okd_ints {d : Dt} (h : OkD (.sl 1 (.int .i64)) d) : ∃ xs : List Int,shP (.sl 1 (.int .i64)) d = [.sl 1 2 (xs.map fun x => [sI x])] ∧ ∀ x ∈ xs,In64 x := by
 obtain ⟨xs,rfl,hx0⟩ := okd_sl h
 obtain ⟨xs,e,hx⟩ := map_shP (p := .int .i64) (e := fun x : Int => [sI x]) (Q := In64) (fun d hd => by
  obtain ⟨n,rfl,h1⟩ := okd_int hd
  exact ⟨n,rfl,h1⟩) xs hx0
 exact ⟨xs,by show [Sh.sl 1 2 (_)] = _; rw [e],hx⟩
section
variable {H : Type} {enc : TypeId × Value → H} {P : Program} {W : World} {base : Nat} {spare : Nat → Bool} {held : Bool}
end
end Go.Proofs.YtkmbcjnaaokilaaGreatDoor
namespace Go.Proofs.YtkmbcjnaaokilaaGreatDoor
set_option linter.unusedSimpArgs false
set_option linter.unusedVariables false
open Go.RowKit Go.Maps
theorem filter_contains (U : Nat → Bool) {B c : Nat} (h : c < B) : ((List.range B).filter U).contains c = U c := by
 rw [Bool.eq_iff_iff,List.contains_iff_mem,List.mem_filter]
 exact ⟨fun h => h.2,fun h2 => ⟨List.mem_range.2 h,h2⟩⟩
theorem usedL_contains {l : LayV} (f : Int → WordV) {c : Nat} (h : c < l.blocks.toNat) : (usedL l f).contains c = usedF l f c := filter_contains _ h
theorem usedL_len (l : LayV) (f : Int → WordV) : (usedL l f).length ≤ l.blocks.toNat := by
 unfold usedL; exact Nat.le_trans (List.length_filter_le _ _) (by simp)
theorem usedL_words {l : LayV} (hl : checkL l = 0) {N : Nat} (hN : fromL l 7 ≤ (N : Int)) (f : Int → WordV) : usedL l (wordF (wordsA N f)) = usedL l f := by
 unfold usedL
 exact List.filter_congr fun c hc => used_words hl hN f (by have := List.mem_range.1 hc; omega)
theorem usedL_set (l : LayV) (f : Int → WordV) {b : Nat} (hb : b < l.blocks.toNat) : usedL l (setB l f b) = withG (usedL l f) b false := by
 unfold usedL
 rw [with_range _ hb]
 exact List.filter_congr fun c _ => used_set l f b c
theorem plan_size {b : Int} (hb : 0 ≤ b) : fromL (planA 0 b) 7 ≤ 4096 := by
 obtain ⟨j,hj⟩ : ∃ j : Nat,b % 64 = (j : Int) ∧ j < 64 := ⟨(b % 64).toNat,by omega,by omega⟩
 unfold planA
 rw [hj.1]
 have : ∀ j : Nat,j < 64 → fromL ⟨1 + 0 % 4,8,1 + (j : Int)⟩ 7 ≤ 4096 := by decide +kernel
 exact this j hj.2
inductive AlStep (l : LayV) (ws : List WordV) (g : Bool) (m : Nat) : Prop
 | tn (h : g = false) (h1 : takeI (usedF l (wordF ws)) l.blocks.toNat m = -1) (X : Sol) (hX : soloA 100 (sol0 (.tk (takeM l m)) (wordF ws)) = X) (hXl : X.live = false) (hXb : blockA X.s = (0,9,true) ∧ X.f = wordF ws)
 | ts (h : g = false) (b : Nat) (hb : b < l.blocks.toNat) (h1 : takeI (usedF l (wordF ws)) l.blocks.toNat m = (b : Int)) (X : Sol) (hX : soloA 100 (sol0 (.tk (takeM l m)) (wordF ws)) = X) (hXl : X.live = false) (hXb : blockA X.s = ((b : Int),0,true) ∧ X.f = setB l (wordF ws) b)
 | gu (h : g = true) (h1 : usedF l (wordF ws) m = true) (X : Sol) (hX : soloA 100 (sol0 (.gv (giveA l m)) (wordF ws)) = X) (hXl : X.live = false) (hXb : blockA X.s = ((m : Int),0,true) ∧ X.f = clrB l (wordF ws) m)
 | gf (h : g = true) (h1 : usedF l (wordF ws) m = false) (X : Sol) (hX : soloA 100 (sol0 (.gv (giveA l m)) (wordF ws)) = X) (hXl : X.live = false) (hXb : blockA X.s = ((m : Int),13,true) ∧ X.f = wordF ws)
theorem takeU_lt {U : Nat → Bool} {B a b : Nat} (ha : a ≤ B) (h : takeU U B a = some b) : b < B := by
 unfold takeU at h
 split at h
 ·rename_i h1
  have := freeU_some h1
  cases h; omega
 ·have := freeU_some h
  omega
end Go.Proofs.YtkmbcjnaaokilaaGreatDoor
namespace Go.Proofs.YtkmbcjnaaokilaaGreatDoor
open Go.RowKit

def sc_containsInt : SC := (.seq (.ops [⟨some 4,none,.mv (.const (.bool false))⟩]) (.seq (.ops [⟨some 5,none,.mv (.tmp 0)⟩,⟨some 6,none,.mv (.tmp 1)⟩,⟨some 7,none,.call 76 [.tmp 5,.tmp 6]⟩,⟨some 8,none,.bin .geq (.tmp 7) (.const (.int .i64 0))⟩,⟨some 4,none,.mv (.tmp 8)⟩]) .ret))
def rv_containsInt : List RV := [.tmp 4]
theorem tr_containsInt : trFn Tryz.prog rfl Tryz.f56 = some (sc_containsInt,rv_containsInt) := by kernel_rfl
def sc_indexInt : SC := (.seq (.ops [⟨some 4,none,.mv (.const (.int .i64 0))⟩]) (.seq (.seq (.ops [⟨some 6,none,.mv (.tmp 0)⟩,⟨some 7,none,.len (.tmp 6)⟩,⟨some 8,none,.mv (.const (.int .i64 0))⟩]) (.block 0 (.loop (.seq (.ops [⟨some 9,none,.bin .lss (.tmp 8) (.tmp 7)⟩]) (.seq (.cond (.tmp 9) .skip (.exit 0)) (.seq (.block 1 (.seq (.ops [⟨some 10,none,.mv (.tmp 8)⟩,⟨some 5,none,.mv (.tmp 10)⟩]) (.seq (.ops [⟨some 11,none,.mv (.tmp 1)⟩,⟨some 12,none,.mv (.tmp 0)⟩,⟨some 13,none,.mv (.tmp 5)⟩,⟨some 14,none,.ixa (.tmp 12) (.tmp 13) 1⟩,⟨some 15,none,.ld (.tmp 14) none⟩,⟨some 16,none,.callv (.tmp 11) [.tmp 15]⟩]) (.cond (.tmp 16) (.seq (.ops [⟨some 17,none,.mv (.tmp 5)⟩,⟨some 4,none,.mv (.tmp 17)⟩]) .ret) .skip)))) (.ops [⟨some 18,none,.bin .add (.tmp 8) (.const (.int .i64 1))⟩,⟨some 8,none,.mv (.tmp 18)⟩]))))))) (.seq (.ops [⟨some 4,none,.mv (.const (.int .i64 (-1)))⟩]) .ret)))
def rv_indexInt : List RV := [.tmp 4]
theorem tr_indexInt : trFn Tryz.prog rfl Tryz.f76 = some (sc_indexInt,rv_indexInt) := by kernel_rfl
end Go.Proofs.YtkmbcjnaaokilaaGreatDoor
