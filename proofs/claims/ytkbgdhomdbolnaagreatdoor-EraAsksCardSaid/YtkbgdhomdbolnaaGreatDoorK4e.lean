/-
  Layer 4 by shadows: the example, the memory that a case describes.
-/
import Derived.Test.YtkbgdhomdbolnaaGreatDoorK4d
namespace Go.Proofs.YtkbgdhomdbolnaaGreatDoor
set_option linter.unusedSimpArgs false
set_option linter.unusedVariables false
open Go.RowKit Go.Maps

abbrev cCase (k : Int) (g : Nat) (ws : List WordV) (g2 : Nat) (ds : List DoV) : List Sh := [sI k, .sl 3 g (ws.map eWord), .sl 10 g2 (ds.map eDo)]

def w2 (v : Int) : WordV := ⟨v, 0, 0⟩
def x0 : MemM := (mnewM 2 [w2 0, w2 0]).1
def x1 : MemM := (mstoreM x0 1 0 (w2 7) false).1
def x2 : MemM := (mstoreM x1 1 1 (w2 1) true).1
noncomputable def x3 : MemM := (loadM x2 2 1 true 0).1
theorem memOk_x0 : MemOk x0 1 := memOk_new _ _
theorem memOk_x1 : MemOk x1 2 := memOk_store memOk_x0 _ _ _ _
theorem memOk_x2 : MemOk x2 3 := memOk_store memOk_x1 _ _ _ _
theorem memOk_x3 : MemOk x3 3 := memOk_load memOk_x2 _ _ _ _
theorem x_seen : vGet (seenM x3 2) 0 = 1 := by
  show vGet (vJoin (vWith (seenM x2 2) 1 (chooseF 2 (vGet (seenM x2 2) 1) 0)) (atM (histM x2 1) (chooseF 2 (vGet (seenM x2 2) 1) 0)).view) 0 = 1
  rw [vGet_join (viewOk_with (seen_ok memOk_x2 2) _ _) (at_ok memOk_x2 1 _)]
  rfl
theorem x_a : (loadM x3 2 0 false 1).2 = (w2 7, 0) := by
  have h : wrongM x3 2 0 = 0 := rfl
  unfold loadM
  rw [if_pos h, x_seen]
  rfl
theorem x_b : (loadM x3 2 0 false 5).2 = (w2 7, 0) := by
  have h : wrongM x3 2 0 = 0 := rfl
  unfold loadM
  rw [if_pos h, x_seen]
  rfl
theorem x_old : (loadM x2 2 0 false 1).2 = (w2 0, 0) := rfl
theorem x_fresh : (loadM x2 2 0 false 0).2 = (w2 7, 0) := rfl
theorem x_flag : (loadM x2 2 1 true 0).2 = (w2 1, 0) := rfl
theorem x_swap : (mswapM x2 2 1 (w2 0) (w2 5)).2 = (w2 1, false, 0) := rfl
theorem x_size : x2.views.length = 2 ∧ x2.places.length = 2 := ⟨rfl, rfl⟩

/-- The memory behind the first n operations. -/
noncomputable def runB (M : MemM) (ds : List DoV) : Nat → MemM
  | 0 => M
  | i + 1 => match ds[i]? with
    | some d => (do4M (runB M ds i) d).1
    | none => runB M ds i
theorem runB_succ {M : MemM} {ds : List DoV} {i : Nat} {d : DoV} (h : ds[i]? = some d) : runB M ds (i + 1) = (do4M (runB M ds i) d).1 := by rw [runB, h]
theorem memOk_run {M : MemM} {n : Nat} (h : MemOk M n) (ds : List DoV) : ∀ i, MemOk (runB M ds i) (n + i)
  | 0 => h
  | i + 1 => by
    unfold runB
    cases e : ds[i]? with
    | none => exact memOk_up (memOk_run h ds i) (by omega)
    | some d => exact memOk_do (memOk_run h ds i) d
noncomputable def begunM (k : Int) (ws : List WordV) (ds : List DoV) : MemM × Bool :=
  if (mnewM k ws).2 = 0 ∧ ws.length ≤ 8 ∧ ds.length ≤ 40 then (runB (mnewM k ws).1 ds ds.length, true) else ((mnewM k ws).1, false)
theorem memOk_begun (k : Int) (ws : List WordV) (ds : List DoV) : MemOk (begunM k ws ds).1 41 := by
  unfold begunM
  split
  · rename_i h
    exact memOk_up (memOk_run (memOk_new k ws) ds ds.length) (by omega)
  · exact memOk_up (memOk_new k ws) (by omega)
abbrev boxM (M : MemM) : Ob := .box 49 [.sl 1 0 (M.places.map ePlace), .sl 1 0 (M.views.map eV1)]
end Go.Proofs.YtkbgdhomdbolnaaGreatDoor
