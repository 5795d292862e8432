/-
  AtomRuns: what its loops keep.
-/
import Derived.Test.YtenbagffdlljdaaK10o
namespace Go.Proofs.Ytenbagffdlljdaa
set_option linter.unusedSimpArgs false
set_option linter.unusedVariables false
open Go.RowKit Go.Maps
noncomputable abbrev Wr (r : RunV) (L : List OpV) (i : Nat) : WorldM atm := runI (begunW L r.w0 r.w1) isNo r.picks i
theorem great_no {r : RunV} (h : greatR r = false) : r.ops.length ≤ 3 ∧ 1 ≤ r.ops.length ∧ r.picks.length ≤ 120 := by
  have := of_decide_eq_false h
  omega
def ArInv (r : RunV) (L : List OpV) (k : Nat) (S : St) : Prop :=
  ∃ (i : Nat) (O : List (Nat × Ob)) (nx : Nat) (M : Ob) (cells : List Sh), i ≤ r.picks.length ∧ k = r.picks.length - i ∧ S = ⟨[(3, .ptr 1 0 0), (4, .sl 3 0 (L.map eOp)), (6, .own 2), (7, .own 3), (46, .sl 3 r.gp (r.picks.map ePick)), (47, sI r.picks.length), (48, sI i)], O, nx⟩ ∧
    CrF (Wr r L i) L M cells (6 * i) O nx
def BrInv (r : RunV) (L : List OpV) (cells : List Sh) (i nx a b m : Nat) (o : OpV) (x z : WordV) (k : Nat) (S : St) : Prop :=
  ∃ (j : Nat) (O : List (Nat × Ob)) (n : Nat), j ≤ L.length ∧ k = L.length - j ∧ S = ⟨[(3, .ptr 1 0 0), (4, .sl 3 0 (L.map eOp)), (6, .own 2), (7, .own 3), (10, .ptr (nx + 1) 0 0), (11, sB true), (12, sI m), (13, .ptr (nx + 2) 0 0), (14, .ptr a 0 0), (15, .ptr b 0 0), (46, .sl 3 r.gp (r.picks.map ePick)), (47, sI r.picks.length), (48, sI i), (97, .sl 3 0 (L.map eOp)), (98, sI L.length), (99, sI j)], O, n⟩ ∧
    BrF (Wr r L i) (Wr r L (i + 1)) L cells nx a b m o x z (6 * i + j) O n ∧ (m < j → mkA o.kind o.n x.val = x.val → MayHas O cells m x.val)
def CcInv (r : RunV) (L : List OpV) (M : Ob) (cells : List Sh) (i : Nat) (k : Nat) (S : St) : Prop :=
  ∃ (j : Nat) (O : List (Nat × Ob)) (n : Nat), j ≤ L.length ∧ k = L.length - j ∧ S = ⟨[(3, .ptr 1 0 0), (4, .sl 3 0 (L.map eOp)), (6, .own 2), (7, .own 3), (46, .sl 3 r.gp (r.picks.map ePick)), (47, sI r.picks.length), (48, sI i), (266, .sl 3 0 (L.map eOp)), (267, sI L.length), (268, sI j)], O, n⟩ ∧
    CrF (Wr r L (i + 1)) L M cells (6 * i + 3 + j) O n
inductive PkCase (r : RunV) (L : List OpV) (i : Nat) (cells : List Sh) (B : Nat) (O : List (Nat × Ob)) (n : Nat) : Prop
  | e (h : i = r.picks.length)
  | c (p : PickV) (hp : r.picks[i]? = some p) (hk : p.kind = 2) (hw : Wr r L (i + 1) = Wr r L i)
  | n1 (p : PickV) (hp : r.picks[i]? = some p) (hk : p.kind ≠ 2) (hs : (stepM (Wr r L i) p).2 = false) (hm : (Wr r L (i + 1)).m = (Wr r L i).m) (hov : ovL (Wr r L (i + 1)) = ovL (Wr r L i))
  | n2 (p : PickV) (hp : r.picks[i]? = some p) (hk : p.kind ≠ 2) (hs : (stepM (Wr r L i) p).2 = true) (hk0 : p.kind ≠ 0) (hov : ovL (Wr r L (i + 1)) = ovL (Wr r L i))
  | s (p : PickV) (m : Nat) (o : OpV) (s' : AtmV) (y y' : TaskM atm) (hp : r.picks[i]? = some p) (hk : p.kind ≠ 2) (hs : (stepM (Wr r L i) p).2 = true) (hR : RunStep L (Wr r L i) (Wr r L (i + 1)) p m o s' y y')
      (ho : (Wd (Wr r L (i + 1)).m o.loc = ⟨mkA o.kind o.n (Wd (Wr r L i).m o.loc).val, (Wd (Wr r L i).m o.loc).ver, (Wd (Wr r L i).m o.loc).ref⟩ ∧ mkA o.kind o.n (Wd (Wr r L i).m o.loc).val ≠ (Wd (Wr r L i).m o.loc).val ∧ s'.fin = true ∧ s'.answer = (Wd (Wr r L i).m o.loc).val) ∨
        (Wd (Wr r L (i + 1)).m o.loc = Wd (Wr r L i).m o.loc ∧ mkA o.kind o.n (Wd (Wr r L i).m o.loc).val = (Wd (Wr r L i).m o.loc).val ∧ s'.fin = true ∧ s'.answer = (Wd (Wr r L i).m o.loc).val) ∨ (Wd (Wr r L (i + 1)).m o.loc = Wd (Wr r L i).m o.loc ∧ s'.fin = false))
      (hml : m < cells.length)
      (hc : cells[m]? = some (Sh.v (.map none)) ∨ ∃ d N f, cells[m]? = some (Sh.own d) ∧ 4 ≤ d ∧ d < n ∧ getA O d = some (.map 2 N f) ∧ N ≤ B)
theorem pk_case {r : RunV} {L : List OpV} (hb : AtW L (begunW L r.w0 r.w1)) (i : Nat) (hi : i ≤ r.picks.length) {cells : List Sh} {B : Nat} {O : List (Nat × Ob)} {n : Nat} (hm : MayI B O n cells) (hcl : cells.length = L.length) : PkCase r L i cells B O n := by
  rcases Nat.lt_or_ge i r.picks.length with h | h
  · obtain ⟨p, hp⟩ : ∃ p, r.picks[i]? = some p := ⟨_, List.getElem?_eq_getElem h⟩
    by_cases hk : p.kind = 2
    · refine .c p hp hk ?_
      have := runI_succ (w := begunW L r.w0 r.w1) (q := isNo) hp
      rw [if_neg (show ¬ isNo p = true by simpa [isNo] using hk)] at this
      exact this
    · have hnx : Wr r L (i + 1) = (stepM (Wr r L i) p).1 := by
        have := runI_succ (w := begunW L r.w0 r.w1) (q := isNo) hp
        rw [if_pos (show isNo p = true by simpa [isNo] using hk)] at this
        exact this
      have hW : AtW L (Wr r L i) := run_keeps (I := AtW L) (fun w p hp h => (atW_step h p hp).1) _ (sel_no _ _) hb
      rcases (run_cases hW p hk).2 with ⟨h1, h2, h3, _⟩ | ⟨h1, h2, h3, _⟩ | ⟨h1, m, o, s', y, y', hR⟩
      · exact .n1 p hp hk h1 (by rw [hnx]; exact h2) (by rw [hnx]; exact h3)
      · exact .n2 p hp hk h1 h2 (by rw [hnx]; exact h3)
      · have hml : m < cells.length := by rw [hcl]; exact (List.getElem?_eq_some_iff.1 hR.op).1
        refine .s p m o s' y y' hp hk h1 (by rw [hnx]; exact hR) ?_ hml (mayI_at hm hml)
        rw [hnx]
        cases hR.out with
        | hit a1 a2 a3 a4 => exact .inl ⟨a1, a2, a3, a4⟩
        | same a1 a2 a3 a4 => exact .inr (.inl ⟨a1, a2, a3, a4⟩)
        | again a1 a2 => exact .inr (.inr ⟨a1, a2⟩)
  · exact .e (by omega)
theorem pk_next {r : RunV} {L : List OpV} {i : Nat} {p : PickV} (hp : r.picks[i]? = some p) (hk : p.kind ≠ 2) : Wr r L (i + 1) = (stepM (Wr r L i) p).1 := by
  have := runI_succ (w := begunW L r.w0 r.w1) (q := isNo) hp
  rw [if_pos (show isNo p = true by simpa [isNo] using hk)] at this
  exact this
theorem ok_r10DoR2 (o : OpV) (v : Int) (h : checkA o = 0) : Ok 31 [sI o.kind, sI o.n, sI v] (.tup [sI (mkA o.kind o.n v), sI v]) := by
  have := ok_r10DoR o v h
  rwa [doA_eq h] at this
theorem bid {nx n a b : Nat} (h : nx + 5 ≤ n) (ha : a < nx + 5) (hb : b < nx + 5) : ((n = nx + 1) = False) ∧ ((n = nx + 2) = False) ∧ ((n = a) = False) ∧ ((n = b) = False) ∧ ((nx + 1 = n) = False) ∧ ((nx + 2 = n) = False) ∧ ((a = n) = False) ∧ ((b = n) = False) ∧
    (∀ a : Nat, a + 0 = a) := by
  refine ⟨?_, ?_, ?_, ?_, ?_, ?_, ?_, ?_, fun _ => rfl⟩ <;> exact eq_false (by omega)
theorem dne {d nx a b : Nat} (h : d ≠ 1 ∧ d ≠ 2 ∧ d ≠ 3 ∧ d ≠ nx + 1 ∧ d ≠ nx + 2 ∧ d ≠ a ∧ d ≠ b) : ((d = nx + 1) = False) ∧ ((d = nx + 2) = False) ∧ ((d = a) = False) ∧ ((d = b) = False) ∧ ((nx + 1 = d) = False) ∧ ((nx + 2 = d) = False) ∧ ((a = d) = False) ∧ ((b = d) = False) := by
  refine ⟨?_, ?_, ?_, ?_, ?_, ?_, ?_, ?_⟩ <;> exact eq_false (by omega)
abbrev rgB (r : RunV) (L : List OpV) (nx m i : Nat) : List (Nat × Sh) := [(3, .ptr 1 0 0), (4, .sl 3 0 (L.map eOp)), (6, .own 2), (7, .own 3), (10, .ptr (nx + 1) 0 0), (11, sB true), (12, sI m), (13, .ptr (nx + 2) 0 0), (46, .sl 3 r.gp (r.picks.map ePick)), (47, sI r.picks.length), (48, sI i)]
abbrev rgR (w w' : WorldM atm) (nx : Nat) (o : OpV) (x z : WordV) : List (Nat × (Nat × Sh)) := [(80, 0, eWorld w), (81, 1, .ptr (nx + 2) 0 1), (82, 2, sI o.loc), (83, 3, .agg (eWord x)), (84, 4, eWorld w'), (85, 5, .ptr (nx + 2) 0 1), (86, 6, sI o.loc), (87, 7, .agg (eWord z))]
abbrev rgS (r : RunV) (L : List OpV) (nx m i a b : Nat) (O1 : List (Nat × Ob)) : St := ⟨[(3, .ptr 1 0 0), (4, .sl 3 0 (L.map eOp)), (6, .own 2), (7, .own 3), (10, .ptr (nx + 1) 0 0), (11, sB true), (12, sI m), (13, .ptr (nx + 2) 0 0), (14, .ptr a 0 0), (15, .ptr b 0 0), (46, .sl 3 r.gp (r.picks.map ePick)), (47, sI r.picks.length), (48, sI i)], O1, nx + 5⟩
theorem rg_fin {r : RunV} {L : List OpV} {w w' : WorldM atm} {nx m i : Nat} {o : OpV} {x z : WordV} {O : List (Nat × Ob)} {done : List Nat} {S : St} (h : RgA (rgB r L nx m i) (rgR w w' nx o x z) nx O w' o x z done S) (hall : ∀ i, i < 12 → done.contains i = true) :
    ∃ kp, ∃ O1 a b, (S.keep kp).sorted = rgS r L nx m i a b O1 ∧ RgE nx O w' o x z O1 a b := by
  obtain ⟨a, b, p1, p2, p3, hE⟩ := h.fin hall
  refine ⟨some ([3,4,6,7,10,11,12,13,14,15,46,47,48], none), srtO S.O, a, b, ?_, hE⟩
  have hT : keepT S.T [3,4,6,7,10,11,12,13,14,15,46,47,48] = (rgS r L nx m i a b (srtO S.O)).T := by
    simp only [keepT, h.base 3 _ rfl, h.base 4 _ rfl, h.base 6 _ rfl, h.base 7 _ rfl, h.base 10 _ rfl, h.base 11 _ rfl, h.base 12 _ rfl, h.base 13 _ rfl, h.base 46 _ rfl, h.base 47 _ rfl, h.base 48 _ rfl, p1, p2]
  show St.mk (keepT S.T _) (srtO S.O) S.n = _
  rw [hT, p3]
theorem rep_flat {α : Type} {a : α} (n : Nat) : (List.replicate n [a]).flatten = List.replicate n a := by
  induction n with
  | zero => rfl
  | succ n ih => rw [List.replicate_succ, List.flatten_cons, ih]; rfl
def castL (L : List OpV) : List Cst := if L = [] then [] else [.obx 2]
theorem castL_nil {L : List OpV} (h : L = []) : castL L = [] := if_pos h
theorem castL_cons {L : List OpV} (h : ¬ L = []) : castL L = [.obx 2] := if_neg h
theorem ar_nil {r : RunV} {L : List OpV} {x : Ob} (hL : L = []) (hov : ovL (Wr r L 0) = List.replicate L.length [sB false]) :
    ArInv r L r.picks.length ⟨[(3, .ptr 1 0 0), (4, .sl 3 0 (L.map eOp)), (6, .own 2), (7, .own 3), (46, .sl 3 r.gp (r.picks.map ePick)), (47, sI r.picks.length), (48, sI 0)], [(3, .row 4 1 (List.replicate L.length [sB false])), (2, .row 96 1 (List.replicate L.length [.v (.map none)])), (1, boxW (Wr r L 0)), (0, x)], 4⟩ := by
  refine ⟨0, _, 4, _, [], by omega, by omega, rfl, ⟨by omega, rfl, rfl, ?_, fun h => absurd hL h, by subst hL; rfl, mayI_nil 4 0 _⟩⟩
  rw [hov]; rfl
theorem ar_cons {r : RunV} {L : List OpV} {x : Ob} {n0 : Nat} (hn : L.length = n0 + 1) (hov : ovL (Wr r L 0) = List.replicate L.length [sB false]) :
    ArInv r L r.picks.length ⟨[(3, .ptr 1 0 0), (4, .sl 3 0 (L.map eOp)), (6, .own 2), (7, .own 3), (46, .sl 3 r.gp (r.picks.map ePick)), (47, sI r.picks.length), (48, sI 0)], [(2, .obx 96 (([Sh.v (.map none)] :: List.replicate n0 [Sh.v (.map none)]).flatten)), (3, .row 4 1 ([sB false] :: List.replicate n0 [sB false])), (1, boxW (Wr r L 0)), (0, x)], 4⟩ := by
  refine ⟨0, _, 4, _, List.replicate (n0 + 1) (.v (.map none)), by omega, by omega, rfl, ⟨by omega, rfl, rfl, ?_, fun _ => ?_, by simp [hn], mayI_nil 4 _ _⟩⟩
  · rw [hov, hn]; rfl
  · rw [← rep_flat (n0 + 1)]; rfl
inductive BcCase (L : List OpV) (cells : List Sh) (B : Nat) (O : List (Nat × Ob)) (n j m : Nat) (o : OpV) (w : WorldM atm) : Prop
  | e (h : j = L.length)
  | n (q : OpV) (hq : L[j]? = some q) (hjm : j ≠ m) (hc : cells[j]? = some (Sh.v (.map none)))
  | s (q : OpV) (hq : L[j]? = some q) (hjm : j ≠ m) (d N : Nat) (f : Int → Option Sh) (hc : cells[j]? = some (Sh.own d)) (hd4 : 4 ≤ d) (hdn : d < n) (hdg : getA O d = some (.map 2 N f)) (hdN : N ≤ B) (hql : (q.loc == o.loc) = false)
  | u (q : OpV) (hq : L[j]? = some q) (d N : Nat) (f : Int → Option Sh) (hc : cells[j]? = some (Sh.own d)) (hd4 : 4 ≤ d) (hdn : d < n) (hdg : getA O d = some (.map 2 N f)) (hdN : N ≤ B) (hql : (q.loc == o.loc) = true) (hmk : mkA q.kind q.n (Wd w.m q.loc).val = (Wd w.m q.loc).val)
  | v (q : OpV) (hq : L[j]? = some q) (d N : Nat) (f : Int → Option Sh) (hc : cells[j]? = some (Sh.own d)) (hd4 : 4 ≤ d) (hdn : d < n) (hdg : getA O d = some (.map 2 N f)) (hdN : N ≤ B) (hql : (q.loc == o.loc) = true) (hmk : mkA q.kind q.n (Wd w.m q.loc).val ≠ (Wd w.m q.loc).val)
theorem bc_case {L : List OpV} {cells : List Sh} {B : Nat} {O : List (Nat × Ob)} {n j m : Nat} {o : OpV} (w : WorldM atm) (hm : MayI B O n cells) (hcl : cells.length = L.length) (hj : j ≤ L.length) (ho : L[m]? = some o) (hown : ∃ d, cells[m]? = some (Sh.own d)) : BcCase L cells B O n j m o w := by
  rcases Nat.lt_or_ge j L.length with h | h
  · obtain ⟨q, hq⟩ : ∃ q, L[j]? = some q := ⟨_, List.getElem?_eq_getElem h⟩
    rcases mayI_at hm (i := j) (by omega) with hc | ⟨d, N, f, hc, h1, h2, h3, h4⟩
    · refine .n q hq (fun e => ?_) hc
      subst e
      obtain ⟨d, hd⟩ := hown
      rw [hc] at hd; cases hd
    · by_cases hl : q.loc = o.loc
      · by_cases hmk : mkA q.kind q.n (Wd w.m q.loc).val = (Wd w.m q.loc).val
        · exact .u q hq d N f hc h1 h2 h3 h4 (by simpa using hl) hmk
        · exact .v q hq d N f hc h1 h2 h3 h4 (by simpa using hl) hmk
      · refine .s q hq (fun e => ?_) d N f hc h1 h2 h3 h4 (by simpa using hl)
        subst e
        rw [hq] at ho; cases ho; exact hl rfl
  · exact .e (by omega)
inductive CcCase (L : List OpV) (M : Ob) (cells : List Sh) (B : Nat) (O : List (Nat × Ob)) (n j : Nat) (w : WorldM atm) : Prop
  | e (h : j = L.length)
  | n (q : OpV) (hq : L[j]? = some q) (hc : cells[j]? = some (Sh.v (.map none)))
  | o (q : OpV) (hq : L[j]? = some q) (d N : Nat) (f : Int → Option Sh) (hc : cells[j]? = some (Sh.own d)) (hd4 : 4 ≤ d) (hdn : d < n) (hdg : getA O d = some (.map 2 N f)) (hdN : N ≤ B) (y : TaskM atm) (hy : w.tasks[j]? = some y) (hyl : y.live = false)
  | u (q : OpV) (hq : L[j]? = some q) (d N : Nat) (f : Int → Option Sh) (hc : cells[j]? = some (Sh.own d)) (hd4 : 4 ≤ d) (hdn : d < n) (hdg : getA O d = some (.map 2 N f)) (hdN : N ≤ B) (y : TaskM atm) (hy : w.tasks[j]? = some y) (hyl : y.live = true) (hmk : mkA q.kind q.n (Wd w.m q.loc).val = (Wd w.m q.loc).val)
  | v (q : OpV) (hq : L[j]? = some q) (d N : Nat) (f : Int → Option Sh) (hc : cells[j]? = some (Sh.own d)) (hd4 : 4 ≤ d) (hdn : d < n) (hdg : getA O d = some (.map 2 N f)) (hdN : N ≤ B) (y : TaskM atm) (hy : w.tasks[j]? = some y) (hyl : y.live = true) (hmk : mkA q.kind q.n (Wd w.m q.loc).val ≠ (Wd w.m q.loc).val)
theorem cc_case {L : List OpV} {M : Ob} {cells : List Sh} {B : Nat} {O : List (Nat × Ob)} {n j : Nat} (w : WorldM atm) (hm : MayI B O n cells) (hcl : cells.length = L.length) (hj : j ≤ L.length) (hlen : w.tasks.length = L.length) : CcCase L M cells B O n j w := by
  rcases Nat.lt_or_ge j L.length with h | h
  · obtain ⟨q, hq⟩ : ∃ q, L[j]? = some q := ⟨_, List.getElem?_eq_getElem h⟩
    obtain ⟨y, hy⟩ : ∃ y, w.tasks[j]? = some y := ⟨_, List.getElem?_eq_getElem (by omega)⟩
    rcases mayI_at hm (i := j) (by omega) with hc | ⟨d, N, f, hc, h1, h2, h3, h4⟩
    · exact .n q hq hc
    · cases hl : y.live
      · exact .o q hq d N f hc h1 h2 h3 h4 y hy hl
      · by_cases hmk : mkA q.kind q.n (Wd w.m q.loc).val = (Wd w.m q.loc).val
        · exact .u q hq d N f hc h1 h2 h3 h4 y hy hl hmk
        · exact .v q hq d N f hc h1 h2 h3 h4 y hy hl hmk
  · exact .e (by omega)
end Go.Proofs.Ytenbagffdlljdaa
