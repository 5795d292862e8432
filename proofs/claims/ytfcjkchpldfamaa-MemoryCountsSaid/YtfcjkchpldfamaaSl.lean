/-
  Slices as lists: elements of k cells each, each read by R. Lemmas over any program.
-/
import Derived.Test.YtfcjkchpldfamaaBox
import Derived.ArgAppend
namespace Go.Proofs.Ytfcjkchpldfamaa
set_option linter.unusedSimpArgs false
set_option linter.unusedVariables false
open Go.RowKit

/-- How the cells of one element read. -/
abbrev Elt (α : Type) := Hp → List Value → α → Prop
def Mono {α : Type} (R : Elt α) : Prop := ∀ H H' cs x, Le H H' → R H cs x → R H' cs x

/-- The cells xs, k to an element, read as l. -/
def FlatR {α : Type} (k : Nat) (R : Elt α) (H : Hp) (xs : List Value) (l : List α) : Prop :=
  xs.length = l.length * k ∧ ∀ i x, l[i]? = some x → R H ((xs.drop (i * k)).take k) x

/-- The slice (a, n, c) reads as l; its cells lie in H. -/
def SlR {α : Type} (k : Nat) (R : Elt α) (H : Hp) (a : Option Addr) (n c : Nat) (l : List α) : Prop :=
  ∃ xs : List Value, l.length = n ∧ n ≤ c ∧ (a = none → c = 0) ∧ FlatR k R H xs l ∧ (∀ u ∈ xs, u.oneCell' = true) ∧
    ∀ j u, xs[j]? = some u → ∃ b o cells t fr, a = some ⟨b, o, none⟩ ∧ H b = some (.cells cells t fr) ∧ cells[o + j]? = some u

variable {α : Type} {k : Nat} {R : Elt α} {H H' : Hp} {a : Option Addr} {n c : Nat} {l : List α} {xs : List Value}

theorem FlatR.le (h : FlatR k R H xs l) (hm : Mono R) (g : Le H H') : FlatR k R H' xs l := ⟨h.1, fun i x hx => hm _ _ _ _ g (h.2 i x hx)⟩
theorem SlR.le (h : SlR k R H a n c l) (hm : Mono R) (g : Le H H') : SlR k R H' a n c l := by
  obtain ⟨xs, h1, h2, h3, h4, h5, h6⟩ := h
  refine ⟨xs, h1, h2, h3, h4.le hm g, h5, fun j u hu => ?_⟩
  obtain ⟨b, o, cells, t, fr, e1, e2, e3⟩ := h6 j u hu
  exact ⟨b, o, cells, t, fr, e1, g _ _ e2, e3⟩
theorem FlatR.nil : FlatR k R H [] ([] : List α) := ⟨by simp, fun i x h => by simp at h⟩
theorem FlatR.append {ys : List Value} {m : List α} (h : FlatR k R H xs l) (h' : FlatR k R H ys m) : FlatR k R H (xs ++ ys) (l ++ m) := by
  refine ⟨by simp [h.1, h'.1, Nat.add_mul], fun i x hx => ?_⟩
  rcases Nat.lt_or_ge i l.length with hi | hi
  · rw [List.getElem?_append_left hi] at hx
    have h1 := h.2 i x hx
    have h2 : i * k + k ≤ xs.length := by rw [h.1]; have := Nat.mul_le_mul_right k (show i + 1 ≤ l.length from hi); rw [Nat.add_mul] at this; omega
    rw [List.drop_append_of_le_length (by omega), List.take_append_of_le_length (by simp; omega)]
    exact h1
  · rw [List.getElem?_append_right hi] at hx
    have h1 := h'.2 _ x hx
    have h2 : i * k - xs.length = (i - l.length) * k := by rw [h.1, Nat.sub_mul]
    have h3 : xs.length ≤ i * k := by rw [h.1]; exact Nat.mul_le_mul_right k hi
    rw [List.drop_append, List.drop_of_length_le h3, List.nil_append, h2]
    exact h1
theorem FlatR.one {es : List Value} {x : α} (hl : es.length = k) (h : R H es x) : FlatR k R H es [x] :=
  ⟨by simp [hl], fun i y hy => by
    cases i with
    | zero => simp at hy; subst hy; simpa [← hl] using h
    | succ i => simp at hy⟩
theorem FlatR.take (h : FlatR k R H xs l) (m : Nat) : FlatR k R H (xs.take (m * k)) (l.take m) := by
  refine ⟨?_, fun i x hx => ?_⟩
  · rw [List.length_take, List.length_take, h.1]
    rcases Nat.le_total m l.length with hm | hm
    · rw [Nat.min_eq_left hm, Nat.min_eq_left (Nat.mul_le_mul_right k hm)]
    · rw [Nat.min_eq_right hm, Nat.min_eq_right (Nat.mul_le_mul_right k hm)]
  · rw [List.getElem?_take] at hx
    split at hx
    · rename_i hi
      have h1 := h.2 i x hx
      have h2 : i * k + k ≤ m * k := by have := Nat.mul_le_mul_right k (show i + 1 ≤ m from hi); rw [Nat.add_mul] at this; omega
      rw [List.drop_take, List.take_take, Nat.min_eq_left (by omega)]
      exact h1
    · cases hx
theorem FlatR.drop (h : FlatR k R H xs l) (m : Nat) : FlatR k R H (xs.drop (m * k)) (l.drop m) := by
  refine ⟨?_, fun i x hx => ?_⟩
  · rw [List.length_drop, List.length_drop, h.1, Nat.sub_mul]
  · rw [List.getElem?_drop] at hx
    have h1 := h.2 _ x hx
    rw [List.drop_drop]
    rw [Nat.add_mul] at h1
    exact h1

theorem SlR.len (h : SlR k R H a n c l) : l.length = n := h.choose_spec.1
theorem SlR.cap (h : SlR k R H a n c l) : n ≤ c := h.choose_spec.2.1
theorem SlR.nilcap (h : SlR k R H none n c l) : n = 0 ∧ c = 0 ∧ l = [] := by
  obtain ⟨xs, h1, h2, h3, _⟩ := h
  have := h3 rfl
  exact ⟨by omega, this, List.eq_nil_of_length_eq_zero (by omega)⟩
theorem SlR.nil (R : Elt α) (H : Hp) : SlR k R H none 0 0 ([] : List α) := ⟨[], rfl, Nat.le_refl _, fun _ => rfl, FlatR.nil, by simp, fun j u h => by simp at h⟩

/-- What lies at place i. -/
theorem SlR.at (h : SlR k R H a n c l) {i : Nat} {x : α} (hx : l[i]? = some x) (hk : 0 < k) :
    ∃ b o es, a = some ⟨b, o, none⟩ ∧ es.length = k ∧ R H es x ∧ (∃ ob, H b = some ob) ∧ ∀ w, Sub H w → ∀ j u, es[j]? = some u → w.cell? ⟨b, o + i * k + j, none⟩ = some u := by
  obtain ⟨xs, h1, h2, h3, h4, h5, h6⟩ := h
  have hi : i < l.length := (List.getElem?_eq_some_iff.1 hx).1
  have hlen : i * k + k ≤ xs.length := by rw [h4.1]; have := Nat.mul_le_mul_right k (show i + 1 ≤ l.length from hi); rw [Nat.add_mul] at this; omega
  obtain ⟨u0, hu0⟩ : ∃ u, xs[i * k]? = some u := ⟨xs[i * k]'(by omega), by simp⟩
  obtain ⟨b, o, cells, t, fr, e1, e2, e3⟩ := h6 _ u0 hu0
  refine ⟨b, o, (xs.drop (i * k)).take k, e1, by simp; omega, h4.2 i x hx, ⟨_, e2⟩, fun w hw j u hu => ?_⟩
  have hj : j < k := by have := (List.getElem?_eq_some_iff.1 hu).1; simp at this; omega
  rw [List.getElem?_take, if_pos hj, List.getElem?_drop] at hu
  obtain ⟨b', o', cells', t', fr', f1, f2, f3⟩ := h6 _ u hu
  rw [e1] at f1
  simp only [Option.some.injEq, Addr.mk.injEq] at f1
  obtain ⟨rfl, rfl, _⟩ := f1
  rw [e2] at f2
  simp only [Option.some.injEq, Obj.cells.injEq] at f2
  obtain ⟨rfl, _, _⟩ := f2
  have := hw _ _ e2
  rw [← Nat.add_assoc] at f3
  simp [World.cell?, this, f3]

/-- The cells of the whole. -/
theorem SlR.cells (h : SlR k R H a n c l) : ∃ xs : List Value, xs.length = n * k ∧ FlatR k R H xs l ∧ (∀ u ∈ xs, u.oneCell' = true) ∧ ∀ w, Sub H w → ∀ ad, a = some ad → ∀ j u, xs[j]? = some u → w.cell? (ad.add j) = some u := by
  obtain ⟨xs, h1, h2, h3, h4, h5, h6⟩ := h
  refine ⟨xs, by rw [h4.1, h1], h4, h5, fun w hw ad had j u hu => ?_⟩
  obtain ⟨b, o, cells, t, fr, e1, e2, e3⟩ := h6 j u hu
  rw [had] at e1
  cases e1
  rw [Addr.add_lit]
  have := hw _ _ e2
  simp [World.cell?, this, e3]

/-- A prefix, its capacity cut. -/
theorem SlR.clip (h : SlR k R H a n c l) (m c' : Nat) (hm : m ≤ n) (hc : m ≤ c') (hc' : c' ≤ c) : SlR k R H a m c' (l.take m) := by
  obtain ⟨xs, h1, h2, h3, h4, h5, h6⟩ := h
  refine ⟨xs.take (m * k), by simp; omega, hc, fun e => by have := h3 e; omega, h4.take m, fun u hu => h5 u (List.mem_of_mem_take hu), fun j u hu => ?_⟩
  rw [List.getElem?_take] at hu
  split at hu
  · exact h6 j u hu
  · cases hu

/-- A slice written out. -/
theorem SlR.lit {b : Nat} {cs : Array Value} {t : TypeId} {fr : Nat × Nat} (hH : H b = some (.cells cs t fr)) (hf : FlatR k R H cs.toList l) (h1 : ∀ u ∈ cs.toList, u.oneCell' = true) (hn : l.length = n) : SlR k R H (some ⟨b, 0, none⟩) n n l :=
  ⟨cs.toList, hn, Nat.le_refl _, fun e => (by cases e), hf, h1, fun j u hu => ⟨b, 0, cs, t, fr, rfl, hH, by simpa using hu⟩⟩

/-- What an append leaves, once nobody writes it any more. -/
theorem SlR.of_row {w : World} {base : Nat} {e : TypeId} {v : Value} (hown : w.ownsRow base e k v n xs) (hf : FlatR k R H xs l) (h1 : ∀ u ∈ xs, u.oneCell' = true) (hn : 0 < n) (hk : 0 < k) :
    ∃ g cp cur, v = .slice (some ⟨g, 0, none⟩) n cp ∧ w.heap[g]? = some (.cells cur e (0, 0)) ∧ base ≤ g ∧ ((∀ H', Le H H' → Mono R → H' g = some (.cells cur e (0, 0)) → SlR k R H' (some ⟨g, 0, none⟩) n cp l)) := by
  obtain ⟨hl, hv⟩ := hown
  rcases hv with ⟨_, h0⟩ | ⟨g, cp, cur, rfl, hb, hg, hn2, _, hsz, htk⟩
  · omega
  · refine ⟨g, cp, cur, rfl, hg, hb, fun H' hle hm hH' => ⟨xs, ?_, hn2, fun e => (by cases e), hf.le hm hle, h1, fun j u hu => ⟨g, 0, cur, e, (0, 0), rfl, hH', ?_⟩⟩⟩
    · have h2 := hf.1
      rw [hl] at h2
      exact (Nat.eq_of_mul_eq_mul_right hk h2).symm
    · rw [← htk] at hu
      rw [List.getElem?_take] at hu
      split at hu
      · simpa using hu
      · cases hu
/-- append(s, x..), s full: a new array, that nobody writes from then on. -/
theorem run_append_sl {P : Program} {w : World} (t ty e : TypeId) (i : TypeInfo) (z : Value) (bytes : Nat) (ht : P.underlying t = some (.slice e)) (hi : P.info? e = some i) (hz : i.zero = some z)
    (hsize : i.size = k) (hby : i.bytes = bytes) (hzs : z.cells.size = k) (hk : 0 < k) (hm : Mono R) (hs : Sub H w) (h : SlR k R H a n c l) {m c2 : Nat} {l2 : List α} {ys : List Value} (ad : Addr)
    (hf : FlatR k R H ys l2) (hlm : l2.length = m) (hy1 : ∀ u ∈ ys, u.oneCell' = true) (hyc : ∀ j u, ys[j]? = some u → w.cell? (ad.add j) = some u) (hfull : c < n + m) (b1 : n + m ≤ maxLen) (b2 : (n + m) * bytes ≤ 140737488355328) :
    ∃ v' w' H' a' n' c', (Builtin.append_ #[t, t] ty #[.slice a n c, .slice (some ad) m c2]).run P w = .ok v' w' ∧ v' = .slice a' n' c' ∧ Grow w H w' H' ∧ SlR k R H' a' n' c' (l ++ l2) := by
  have hn := h.len
  have fin : ∀ (v' : Value) (w' : World) (xs : List Value), FlatR k R H xs l → (∀ u ∈ xs, u.oneCell' = true) → w'.ownsRow w.heap.size e k v' (n + m) (xs ++ ys) → w.grownBy w' none →
      ∃ H' a' n' c', v' = .slice a' n' c' ∧ Grow w H w' H' ∧ SlR k R H' a' n' c' (l ++ l2) := fun v' w' xs hx hx1 hown hgrow => by
    have hm0 : 0 < n + m := by omega
    obtain ⟨g, cp, cur, rfl, hg, hb, hfin⟩ := SlR.of_row hown (hx.append hf) (fun u hu => by rcases List.mem_append.1 hu with h | h; exact hx1 u h; exact hy1 u h) hm0 hk
    have hg0 : H g = Option.none := hs.none hb
    refine ⟨H.add g _, _, _, _, rfl, ?_, hfin (H.add g (.cells cur e (0, 0))) (Hp.add_le hg0) hm (Hp.add_at _ _ _)⟩
    exact ((Grow.refl hs).grown hgrow (fun k e => by cases e)).add hg hb
  cases a with
  | none =>
    obtain ⟨rfl, rfl, rfl⟩ := h.nilcap
    obtain ⟨v', w', hrun, r1, r2, _⟩ := run_append_own (P := P) w w.heap.size t ty e i z k bytes ht hi hz hsize hby hzs hk (.slice none 0 0) 0 [] (World.ownsRow_nil w _ e k) ad m c2 ys (by rw [hf.1, hlm]) hyc hy1 b1 b2 (Nat.le_refl _)
    obtain ⟨H', a', n', c', e1, e2, e3⟩ := fin v' w' [] FlatR.nil (by simp) r1 r2
    exact ⟨v', w', H', a', n', c', hrun, e1, e2, e3⟩
  | some b =>
    obtain ⟨xs, hxl, hx, hx1, hxc⟩ := h.cells
    obtain ⟨v', w', hrun, r1, r2⟩ := run_append_arg_grows (P := P) w t ty e i z k bytes ht hi hz hsize hby hzs hk b n c xs hxl (hxc w hs b rfl) ad m c2 ys (by rw [hf.1, hlm]) hyc hfull b1 b2
    obtain ⟨H', a', n', c', e1, e2, e3⟩ := fin v' w' xs hx hx1 r1 r2
    exact ⟨v', w', H', a', n', c', hrun, e1, e2, e3⟩
structure SlV where
  a : Option Addr
  n : Nat
  c : Nat

/-- append(s, x..), s full, in a region that draws its order. -/
theorem agl_append {P : Program} {ops : Array Oper} {Q : Exit → Act → World → Prop} {n : Nat} {fl : List Nat} {a0 : Act} {w0 : World} {H0 : Hp} {Γ : List Rel} {o : Oper} {rest : List Oper}
    (L : List α) (x y : Operand) (t e : TypeId) (i : TypeInfo) (z : Value) (bytes : Nat) (hop : o.op = Op.call { callee := Callee.builtin Builtin.append, args := #[x, y], argTypes := #[t, t] }) (hfl : fl.contains Γ.length = false)
    (hg : ∀ a w H, Preds ops Γ o a w H → Region.wanted o (yielded ops a.tmps) = true)
    (ht : P.underlying t = some (.slice e)) (hi : P.info? e = some i) (hz : i.zero = some z) (hsize : i.size = k) (hby : i.bytes = bytes) (hzs : z.cells.size = k) (hk : 0 < k) (hm : Mono R)
    (h : ∀ a w H, Grow w0 H0 w H → Preds ops Γ o a w H → OutSame ops n a0 a → ∃ ao nn c l ad m c2 l2 ys, a.eval x = .slice ao nn c ∧ a.eval y = .slice (some ad) m c2 ∧ SlR k R H ao nn c l ∧ FlatR k R H ys l2 ∧ l2.length = m ∧
      (∀ u ∈ ys, u.oneCell' = true) ∧ (∀ j u, ys[j]? = some u → w.cell? (ad.add j) = some u) ∧ c < nn + m ∧ nn + m ≤ maxLen ∧ (nn + m) * bytes ≤ 140737488355328 ∧ l ++ l2 = L)
    (hr : AGL P ops Q n fl a0 w0 H0 (Γ ++ [exRel (fun s : SlV => .slice s.a s.n s.c) (fun s H' => SlR k R H' s.a s.n s.c L)]) rest) : AGL P ops Q n fl a0 w0 H0 Γ (o :: rest) := by
  refine agl_any _ (keeps_ex (fun s H H' g hs => hs.le hm g)) hfl hg (fun a w H hw hp ho => ?_) hr
  obtain ⟨ao, nn, c, l, ad, m, c2, l2, ys, ex, ey, h1, h2, h3, h4, h5, h6, h7, h8, rfl⟩ := h a w H hw hp ho
  obtain ⟨v', w', H', a', n', c', hrun, rfl, hgr, hsl⟩ := run_append_sl (P := P) (w := w) t o.type e i z bytes ht hi hz hsize hby hzs hk hm hw.sub h1 (c2 := c2) ad h2 h3 h4 h5 h6 h7 h8
  have e : (execOp a.eval o).run P w = .ok (.value (.slice a' n' c')) w' := by simp [execOp, hop, resolve, invoke, builtin, ex, ey, hrun, Result.andThen]
  unfold Oper.wp
  rw [e]
  exact ⟨_, H', rfl, hgr, ⟨a', n', c'⟩, rfl, hsl⟩
end Go.Proofs.Ytfcjkchpldfamaa


