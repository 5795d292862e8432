/-
  Layer 13 by shadows: the words that a layout starts with.
-/
import Derived.Test.YtkoibcblmgmdmaaGreatDoorK11
import Derived.Test.YtkoibcblmgmdmaaGreatDoorMC
namespace Go.Proofs.YtkoibcblmgmdmaaGreatDoor
set_option linter.unusedSimpArgs false
set_option linter.unusedVariables false
open Go.RowKit Go.Maps
def putV (ws : List WordV) (k : Nat) (v : Int) : List WordV := ws.set k { (ws[k]?.getD ⟨0, 0, 0⟩) with val := v }
theorem putV_len (ws : List WordV) (k : Nat) (v : Int) : (putV ws k v).length = ws.length := by unfold putV; simp
theorem putV_map {ws : List WordV} {k : Nat} {v : Int} {w : WordV} (h : ws[k]? = some w) : (putV ws k v).map eWord = (ws.map eWord).set k [sI v, sU w.ver, sU w.ref] := by
  unfold putV; rw [h, List.map_set]; rfl
def slotsV (l : LayV) (p : Nat) (ws : List WordV) : Nat → List WordV
  | 0 => ws
  | i + 1 => putV (slotsV l p ws i) (atL l p i 0).toNat 2
theorem slotsV_len (l : LayV) (p : Nat) (ws : List WordV) : ∀ i, (slotsV l p ws i).length = ws.length
  | 0 => rfl
  | i + 1 => by show (putV _ _ _).length = _; rw [putV_len, slotsV_len l p ws i]
def firstM (l : LayV) : List WordV := slotsV l 6 (slotsV l 4 (putV (List.replicate (fromL l 7).toNat ⟨0, 0, 0⟩) (atL l 0 0 1).toNat 1) l.threads.toNat) l.blocks.toNat
theorem from_mono {l : LayV} (h : RangeL l) : ∀ p q, fromL l p ≤ fromL l (p + q)
  | _, 0 => Int.le_refl _
  | p, q + 1 => by
    have h1 := from_mono h p q
    have h2 := (long_le h (p + q)).1
    have : fromL l (p + (q + 1)) = fromL l (p + q) + longL l (p + q) := rfl
    omega
theorem at_lt {l : LayV} (h : checkL l = 0) {p : Nat} (hp : p < 7) {i more : Int} (hi : 0 ≤ i ∧ i < manyL l p) (hm : 0 ≤ more ∧ more < sizeL p) : 0 ≤ atL l p i more ∧ atL l p i more < fromL l 7 := by
  obtain ⟨hr, _⟩ := checkL_zero h
  have e : atL l p i more = fromL l p + i * sizeL p + more := by unfold atL; rw [if_pos ⟨h, hi.1, hi.2⟩]
  rw [e]
  have h1 := (from_le hr p).1
  have h2 : fromL l (p + 1) ≤ fromL l 7 := by
    have := from_mono hr (p + 1) (6 - p)
    rwa [show p + 1 + (6 - p) = 7 by omega] at this
  have h3 : fromL l (p + 1) = fromL l p + longL l p := rfl
  have h4 : 0 ≤ i * sizeL p := Int.mul_nonneg hi.1 (size_le p).1
  have h5 : (i + 1) * sizeL p ≤ manyL l p * sizeL p := Int.mul_le_mul_of_nonneg_right (by omega) (size_le p).1
  rw [Int.add_mul, Int.one_mul] at h5
  have h6 : manyL l p * sizeL p ≤ longL l p := by
    unfold longL
    rw [if_neg (by omega)]
    omega
  omega
def FsInv (l : LayV) (ws : List WordV) (k : Nat) (S : St) : Prop :=
  ∃ i : Nat, (i : Int) ≤ l.threads ∧ k = l.threads.toNat - i ∧ S = ⟨[(1, .ptr 0 0 0), (3, .own 1), (4, sI ((i : Int) + 1))], [(0, .box 51 (eLay l)), (1, .row 66 3 ((slotsV l 4 ws i).map eWord))], 2⟩
def FbInv (l : LayV) (ws : List WordV) (k : Nat) (S : St) : Prop :=
  ∃ i : Nat, (i : Int) ≤ l.blocks ∧ k = l.blocks.toNat - i ∧ S = ⟨[(1, .ptr 0 0 0), (3, .own 1), (30, sI l.blocks), (31, sI (i : Int))], [(0, .box 51 (eLay l)), (1, .row 66 3 ((slotsV l 6 ws i).map eWord))], 2⟩
end Go.Proofs.YtkoibcblmgmdmaaGreatDoor
