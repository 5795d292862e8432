/-
  EraAsks, the plain law: the codes answer as the reference does.
-/
import Derived.Test.YtkbgdhomdbolnaaGreatDoorK13a
import Derived.Test.YtkbgdhomdbolnaaGreatDoorK13k
namespace Go.Proofs.YtkbgdhomdbolnaaGreatDoor
set_option linter.unusedSimpArgs false
set_option linter.unusedVariables false
open Go.RowKit Go.Maps

/-- A running code against the reference's state, behind the first step. -/
inductive RelE (k : KindE) : EraV → RefE → Prop
  | over {s r} (hs : s.over = true) (hr : r.fin = true) (ht : s.time = r.era) : RelE k s r
  | ann {s r} (w : k.what = 0) (e : s.era = k.era) (m : s.mine = k.mine) (o : s.over = false) (p : s.pos = .ann) (f : r.fin = false) (z : r.era = 0) (a : r.pt = 1) : RelE k s r
  | ann1 {s r} (w : k.what = 0) (e : s.era = k.era) (m : s.mine = k.mine) (o : s.over = false) (p : s.pos = .ann1) (f : r.fin = false) (z : r.era = 0) (a : r.pt = 2) (v : s.found = r.last.val) : RelE k s r
  | cmp {s r} (w : k.what = 0) (e : s.era = k.era) (m : s.mine = k.mine) (o : s.over = false) (p : s.pos = .cmp) (f : r.fin = false) (z : r.era = 0) (a : r.pt = 3) (v : s.found = r.last.val) : RelE k s r
  | leave {s r} (w : k.what = 1) (o : s.over = false) (p : s.pos = .leave2) (f : r.fin = false) (z : r.era = 0) (a : r.pt = 1) : RelE k s r
  | adv {s r} (w : k.what = 2) (e : s.era = k.era) (o : s.over = false) (p : s.pos = .raise) (f : r.fin = false) (z : r.era = 0) (a : r.pt = 1) (t : s.tried = false) : RelE k s r
  | adv2 {s r} (w : k.what = 2) (e : s.era = k.era) (o : s.over = false) (p : s.pos = .raise) (f : r.fin = false) (z : r.era = 0) (a : r.pt = 2) (t : s.tried = true) (v : s.found = IntKind.i64.wrap (r.last.val + 1)) : RelE k s r
theorem RelE.fin {k : KindE} {s : EraV} {r : RefE} (h : RelE k s r) : s.over = r.fin ∧ (if s.over = true then s.time else 0) = r.era := by
  cases h with
  | over hs hr ht => exact ⟨by rw [hs, hr], by rw [if_pos hs, ht]⟩
  | ann w e m o p f z a => exact ⟨by rw [o, f], by rw [o, z]; rfl⟩
  | ann1 w e m o p f z a v => exact ⟨by rw [o, f], by rw [o, z]; rfl⟩
  | cmp w e m o p f z a v => exact ⟨by rw [o, f], by rw [o, z]; rfl⟩
  | leave w o p f z a => exact ⟨by rw [o, f], by rw [o, z]; rfl⟩
  | adv w e o p f z a t => exact ⟨by rw [o, f], by rw [o, z]; rfl⟩
  | adv2 w e o p f z a t v => exact ⟨by rw [o, f], by rw [o, z]; rfl⟩
theorem RelE.step {k : KindE} {s : EraV} {r : RefE} (h : RelE k s r) (g : GotV) : (eraNext s g).2.1 = (refN k r g).2 ∧ (eraNext s g).2.2 = (refN k r g).1.fin ∧ RelE k (eraNext s g).1 (refN k r g).1 := by
  cases h with
  | over hs hr ht =>
    unfold eraNext refN
    rw [if_pos hs, if_pos hr]
    exact ⟨rfl, hr.symm, .over hs hr ht⟩
  | ann w e m o p f z a =>
    unfold eraNext refN eraDo
    rw [if_neg (by rw [o]; decide), if_neg (by rw [f]; decide), if_neg (by omega), if_neg (by omega), if_neg (by omega), if_neg (by omega), if_neg (fun h => by omega), p]
    exact ⟨by show (annE s g).2 = _; unfold annE; rw [m], o, .ann1 w e m o rfl rfl rfl rfl rfl⟩
  | ann1 w e m o p f z a v =>
    unfold eraNext refN eraDo
    rw [if_neg (by rw [o]; decide), if_neg (by rw [f]; decide), if_neg (by omega), if_neg (by omega), if_neg (by omega), if_pos a, p]
    exact ⟨by show (lookE s .cmp).2 = _; unfold lookE; rw [e], o, .cmp w e m o rfl rfl rfl rfl v⟩
  | cmp w e m o p f z a v =>
    unfold eraNext refN eraDo
    rw [if_neg (by rw [o]; decide), if_neg (by rw [f]; decide), if_neg (by omega), if_neg (by omega), if_neg (by omega), if_neg (by omega), p]
    show (cmpE s g).2 = _ ∧ (cmpE s g).1.over = _ ∧ RelE k (cmpE s g).1 _
    unfold cmpE
    by_cases h : g.word.val = s.found
    · rw [if_pos h, if_pos ⟨a, by rw [h, v]⟩]
      exact ⟨rfl, rfl, .over rfl rfl v⟩
    · rw [if_neg h, if_neg (fun h' => h (by rw [v]; exact h'.2))]
      exact ⟨by unfold annE; rw [m], o, .ann1 w e m o rfl rfl rfl rfl rfl⟩
  | leave w o p f z a =>
    unfold eraNext refN eraDo
    rw [if_neg (by rw [o]; decide), if_neg (by rw [f]; decide), if_pos w, if_neg (by omega), p]
    exact ⟨rfl, rfl, .over rfl rfl rfl⟩
  | adv w e o p f z a t =>
    unfold eraNext refN eraDo
    rw [if_neg (by rw [o]; decide), if_neg (by rw [f]; decide), if_neg (by omega), if_neg (by omega), if_pos w, if_neg (fun h => by omega), p]
    show (raiseE s g).2 = _ ∧ (raiseE s g).1.over = _ ∧ RelE k (raiseE s g).1 _
    unfold raiseE
    rw [if_neg (by rw [t]; simp)]
    exact ⟨by rw [e], o, .adv2 w e o rfl rfl rfl rfl rfl rfl⟩
  | adv2 w e o p f z a t v =>
    unfold eraNext refN eraDo
    rw [if_neg (by rw [o]; decide), if_neg (by rw [f]; decide), if_neg (by omega), if_neg (by omega), if_pos w, p]
    show (raiseE s g).2 = _ ∧ (raiseE s g).1.over = _ ∧ RelE k (raiseE s g).1 _
    unfold raiseE
    by_cases h : g.ok = true
    · rw [if_pos ⟨t, h⟩, if_pos ⟨a, h⟩]
      exact ⟨rfl, rfl, .over rfl rfl v⟩
    · rw [if_neg (fun h' => h h'.2), if_neg (fun h' => h h'.2)]
      exact ⟨by rw [e], o, .adv2 w e o rfl rfl rfl rfl rfl rfl⟩
end Go.Proofs.YtkbgdhomdbolnaaGreatDoor
