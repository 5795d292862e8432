/-
  Shadows: what a value means, without the heap. Lemmas only.
-/
import Derived.Test.YtfcjkchpldfamaaDf
namespace Go.Proofs.Ytfcjkchpldfamaa
set_option linter.unusedSimpArgs false
set_option linter.unusedVariables false
open Go.RowKit

/-- What a value means. 'sl': a slice that nobody writes any more, k cells an element, g: what is known of its capacity (1: it is the length; 0: an empty one has none; 2: nothing); 'mp': such a map; 'fp': a pointer into such memory; 'own', 'ptr': a part of the caller's own memory. -/
inductive Sh where
  | v (x : Value)
  | agg (cs : List Sh)
  | tup (cs : List Sh)
  | sl (k : Nat) (g : Nat) (es : List (List Sh))
  | mp (kt : TypeId) (f : Int → Option Sh)
  | fn (f : Fn) (first cap : List Sh)
  | ifc (t : TypeId) (x : Sh)
  | fp (e : List Sh) (off : Nat)
  | own (i : Nat)
  | ptr (i idx off : Nat)
  | any

def Sh.one : Sh → Bool
  | .agg _ | .tup _ => false
  | .v _ | .sl .. | .mp .. | .fn .. | .ifc .. | .fp .. | .own _ | .ptr .. | .any => true
/-- No part of one's own memory. -/
def Sh.pure : Sh → Bool
  | .agg _ | .tup _ | .own _ | .ptr .. => false
  | .v _ | .sl .. | .mp .. | .fn .. | .ifc .. | .fp .. | .any => true

/-- Where one's own parts lie: the value that names the whole, the cells of an element, the block. -/
abbrev Env := Nat → Option (Value × Nat × Option Nat)
def E0 : Env := fun _ => none
def ELe (E E' : Env) : Prop := ∀ i p, E i = some p → E' i = some p

/-- What is known of a slice's capacity. -/
def CapOk (g n c : Nat) : Prop := (g = 1 → c = n) ∧ (g = 0 → n = 0 → c = 0)

mutual
inductive Rep (H : Hp) : Env → Sh → Value → Prop
  | v {E x} : x.oneCell' = true → Rep H E (.v x) x
  | agg {E cs vs} : RepL H E cs vs → (cs.all Sh.one) = true → Rep H E (.agg cs) (.agg vs.toArray)
  | tup {E cs vs} : RepL H E cs vs → Rep H E (.tup cs) (.tuple vs.toArray)
  | sl {E k full es a n c xs} : RepEs H k es xs → es.length = n → n ≤ c → c ≤ maxLen → CapOk full n c → (a = none → c = 0) →
      (∀ j u, xs[j]? = some u → ∃ b o cells t fr, a = some ⟨b, o, none⟩ ∧ H b = some (.cells cells t fr) ∧ cells[o + j]? = some u) → Rep H E (.sl k full es) (.slice a n c)
  | mpn {E kt f} : (∀ i, f i = none) → Rep H E (.mp kt f) (.map none)
  | mp {E kt f b o N F} : H b = some o → MapOf kt o N F → N ≤ 1000000 → (∀ i, f i = none ↔ F i = none) → (∀ i s u, f i = some s → F i = some u → Rep H E0 s u) → Rep H E (.mp kt f) (.map (some b))
  | fn {E f first cap vs us} : RepL H E0 first vs → RepL H E0 cap us → Rep H E (.fn f first cap) (.func f vs.toArray us.toArray)
  | ifc {E t x u} : Rep H E0 x u → Rep H E (.ifc t x) (.iface t u)
  | fp {E e off b o xs} : RepL H E0 e xs → (e.all Sh.one) = true →
      (∀ j u, xs[j]? = some u → ∃ cells t fr, H b = some (.cells cells t fr) ∧ cells[o + j]? = some u) → Rep H E (.fp e off) (.pointer (some ⟨b, o + off, none⟩))
  | own {E i u k b} : E i = some (u, k, b) → u.oneCell' = true → Rep H E (.own i) u
  | ptr {E i idx off u k b} : E i = some (u, k, some b) → Rep H E (.ptr i idx off) (.pointer (some ⟨b, idx * k + off, none⟩))
  | any {E u} : u.oneCell' = true → Rep H E .any u
inductive RepL (H : Hp) : Env → List Sh → List Value → Prop
  | nil {E} : RepL H E [] []
  | cons {E x u cs vs} : Rep H E x u → RepL H E cs vs → RepL H E (x :: cs) (u :: vs)
inductive RepEs (H : Hp) : Nat → List (List Sh) → List Value → Prop
  | nil {k} : RepEs H k [] []
  | cons {k e vs es xs} : RepL H E0 e vs → vs.length = k → (e.all Sh.one) = true → RepEs H k es xs → RepEs H k (e :: es) (vs ++ xs)
end

section
variable {H H' : Hp} {E E' : Env}

theorem E0_le (E : Env) : ELe E0 E := fun _ _ h => by cases h
theorem ELe.refl (E : Env) : ELe E E := fun _ _ h => h

theorem Rep.mono0 (hH : Le H H') {E x v} (h : Rep H E x v) : ∀ E', ELe E E' → Rep H' E' x v := by
  refine Rep.rec (motive_1 := fun E x v _ => ∀ E', ELe E E' → Rep H' E' x v) (motive_2 := fun E x v _ => ∀ E', ELe E E' → RepL H' E' x v) (motive_3 := fun k x v _ => RepEs H' k x v)
    ?_ ?_ ?_ ?_ ?_ ?_ ?_ ?_ ?_ ?_ ?_ ?_ ?_ ?_ ?_ ?_ h
  · intro E x h E' _; exact .v h
  · intro E cs vs _ h1 ih E' g; exact .agg (ih E' g) h1
  · intro E cs vs _ ih E' g; exact .tup (ih E' g)
  · intro E k full es a n c xs _ h1 h2 h3 h4 h5 h6 ih E' _
    exact .sl ih h1 h2 h3 h4 h5 (fun j u hu => by obtain ⟨b, o, cells, t, fr, e1, e2, e3⟩ := h6 j u hu; exact ⟨b, o, cells, t, fr, e1, hH _ _ e2, e3⟩)
  · intro E kt f h E' _; exact .mpn h
  · intro E kt f b o N F h1 h2 h3 h4 _ ih E' _; exact .mp (hH _ _ h1) h2 h3 h4 (fun i s u a b => ih i s u a b E0 (ELe.refl _))
  · intro E f first cap vs us _ _ ih1 ih2 E' _; exact .fn (ih1 E0 (ELe.refl _)) (ih2 E0 (ELe.refl _))
  · intro E t x u _ ih E' _; exact .ifc (ih E0 (ELe.refl _))
  · intro E e off b o xs _ h1 h2 ih E' _
    exact .fp (ih E0 (ELe.refl _)) h1 (fun j u hu => by obtain ⟨cells, t, fr, e2, e3⟩ := h2 j u hu; exact ⟨cells, t, fr, hH _ _ e2, e3⟩)
  · intro E i u k b h h1 E' g; exact .own (g _ _ h) h1
  · intro E i idx off u k b h E' g; exact .ptr (g _ _ h)
  · intro E u h E' _; exact .any h
  · intro E E' _; exact .nil
  · intro E x u cs vs _ _ ih1 ih2 E' g; exact .cons (ih1 E' g) (ih2 E' g)
  · intro k; exact .nil
  · intro k e vs es xs _ h1 h2 _ ih1 ih2; exact .cons (ih1 E0 (ELe.refl _)) h1 h2 ih2
theorem Rep.mono {x v} (h : Rep H E x v) (hH : Le H H') (g : ELe E E') : Rep H' E' x v := h.mono0 hH E' g
theorem RepL.mono {E E' : Env} (hH : Le H H') (g : ELe E E') : ∀ {cs vs}, RepL H E cs vs → RepL H' E' cs vs
  | _, _, .nil => .nil
  | _, _, .cons h t => .cons (h.mono hH g) (RepL.mono hH g t)
theorem RepEs.mono (hH : Le H H') {k} : ∀ {es xs}, RepEs H k es xs → RepEs H' k es xs
  | _, _, .nil => .nil
  | _, _, .cons h h1 h2 t => .cons (h.mono hH (ELe.refl _)) h1 h2 (RepEs.mono hH t)

/-- A pure shadow needs no environment. -/
theorem Rep.pure {x v} (h : Rep H E x v) (hp : x.pure = true) (E' : Env) : Rep H E' x v := by
  cases h with
  | v h => exact .v h
  | agg => cases hp
  | tup => cases hp
  | sl a b c d e f g => exact .sl a b c d e f g
  | mpn h => exact .mpn h
  | mp a b c d e => exact .mp a b c d e
  | fn a b => exact .fn a b
  | ifc a => exact .ifc a
  | fp a b c => exact .fp a b c
  | any h => exact .any h
  | own => cases hp
  | ptr => cases hp
theorem RepL.pure {E : Env} (E' : Env) : ∀ {cs vs}, RepL H E cs vs → cs.all Sh.pure = true → RepL H E' cs vs
  | _, _, .nil, _ => .nil
  | _, _, .cons h t, hp => by simp only [List.all_cons, Bool.and_eq_true] at hp; exact .cons (h.pure hp.1 E') (RepL.pure E' t hp.2)

theorem Rep.oneCell {x v} (h : Rep H E x v) (h1 : x.one = true) : v.oneCell' = true := by
  cases h with
  | v h => exact h
  | agg => cases h1
  | tup => cases h1
  | own _ h => exact h
  | any h => exact h
  | _ => rfl
theorem RepL.length {E} : ∀ {cs : List Sh} {vs : List Value}, RepL H E cs vs → cs.length = vs.length
  | _, _, .nil => rfl
  | _, _, .cons _ t => by simp [RepL.length t]
theorem RepL.one {E} : ∀ {cs : List Sh} {vs : List Value}, RepL H E cs vs → cs.all Sh.one = true → ∀ u ∈ vs, u.oneCell' = true
  | _, _, .nil, _ => by simp
  | _, _, .cons h t, ha => by
    simp only [List.all_cons, Bool.and_eq_true] at ha
    intro u hu
    rcases List.mem_cons.1 hu with rfl | hu
    · exact h.oneCell ha.1
    · exact RepL.one t ha.2 u hu
theorem RepL.get {E} : ∀ {cs : List Sh} {vs : List Value} {i : Nat} {x : Sh}, RepL H E cs vs → cs[i]? = some x → ∃ u, vs[i]? = some u ∧ Rep H E x u
  | _, _, _, _, .nil, h => by simp at h
  | _, _, 0, _, .cons h t, hx => by simp at hx; subst hx; exact ⟨_, rfl, h⟩
  | _, _, i + 1, _, .cons h t, hx => by simp at hx ⊢; exact RepL.get t hx
theorem RepL.append {E} : ∀ {cs cs' : List Sh} {vs vs' : List Value}, RepL H E cs vs → RepL H E cs' vs' → RepL H E (cs ++ cs') (vs ++ vs')
  | _, _, _, _, .nil, h => h
  | _, _, _, _, .cons h t, h' => .cons h (RepL.append t h')
theorem RepL.take {E} : ∀ {cs : List Sh} {vs : List Value} (n : Nat), RepL H E cs vs → RepL H E (cs.take n) (vs.take n)
  | _, _, 0, _ => by simp; exact .nil
  | _, _, n + 1, .nil => by simp; exact .nil
  | _, _, n + 1, .cons h t => by simp; exact .cons h (RepL.take n t)
theorem RepL.drop {E} : ∀ {cs : List Sh} {vs : List Value} (n : Nat), RepL H E cs vs → RepL H E (cs.drop n) (vs.drop n)
  | _, _, 0, h => by simpa using h
  | _, _, n + 1, .nil => by simp; exact .nil
  | _, _, n + 1, .cons h t => by simp; exact RepL.drop n t
theorem RepL.set {E} {x : Sh} {u : Value} (hx : Rep H E x u) : ∀ {cs : List Sh} {vs : List Value} (n : Nat), RepL H E cs vs → RepL H E (cs.set n x) (vs.set n u)
  | _, _, _, .nil => by simp; exact .nil
  | _, _, 0, .cons h t => by simp; exact .cons hx t
  | _, _, n + 1, .cons h t => by simp; exact .cons h (RepL.set hx n t)

theorem RepEs.length {k} : ∀ {es : List (List Sh)} {xs : List Value}, RepEs H k es xs → xs.length = es.length * k
  | _, _, .nil => by simp
  | _, _, .cons h h1 _ t => by simp [RepEs.length t, h1, Nat.add_mul, Nat.add_comm]
theorem RepEs.one {k} : ∀ {es : List (List Sh)} {xs : List Value}, RepEs H k es xs → ∀ u ∈ xs, u.oneCell' = true
  | _, _, .nil => by simp
  | _, _, .cons h h1 h2 t => by
    intro u hu
    rcases List.mem_append.1 hu with hu | hu
    · exact h.one h2 u hu
    · exact RepEs.one t u hu
theorem RepEs.get {k} : ∀ {es : List (List Sh)} {xs : List Value} {i : Nat} {e : List Sh}, RepEs H k es xs → es[i]? = some e →
    ∃ vs, vs.length = k ∧ RepL H E0 e vs ∧ e.all Sh.one = true ∧ ∀ j u, vs[j]? = some u → xs[i * k + j]? = some u
  | _, _, _, _, .nil, h => by simp at h
  | _, _, 0, _, .cons h h1 h2 t, hx => by
    simp at hx; subst hx
    refine ⟨_, h1, h, h2, fun j u hu => ?_⟩
    have := (List.getElem?_eq_some_iff.1 hu).1
    rw [List.getElem?_append_left (by omega)]; simpa using hu
  | _, _, i + 1, _, .cons (vs := vs0) h h1 h2 t, hx => by
    simp at hx
    obtain ⟨vs, a, b, c, d⟩ := RepEs.get t hx
    refine ⟨vs, a, b, c, fun j u hu => ?_⟩
    rw [List.getElem?_append_right (by rw [Nat.add_mul]; omega)]
    have := d j u hu
    rw [← this]; congr 1; rw [Nat.add_mul]; omega
theorem RepEs.append {k} : ∀ {es es' : List (List Sh)} {xs xs' : List Value}, RepEs H k es xs → RepEs H k es' xs' → RepEs H k (es ++ es') (xs ++ xs')
  | _, _, _, _, .nil, h => h
  | _, _, _, _, .cons h h1 h2 t, h' => by rw [List.append_assoc]; exact .cons h h1 h2 (RepEs.append t h')
theorem RepEs.take {k} : ∀ {es : List (List Sh)} {xs : List Value} (n : Nat), RepEs H k es xs → RepEs H k (es.take n) (xs.take (n * k))
  | _, _, 0, _ => by simp; exact .nil
  | _, _, n + 1, .nil => by simp; exact .nil
  | _, _, n + 1, .cons (vs := vs) (xs := xs) h h1 h2 t => by
    have e : (vs ++ xs).take ((n + 1) * k) = vs ++ xs.take (n * k) := by
      rw [List.take_append, h1, List.take_of_length_le (by rw [Nat.add_mul]; omega)]; congr 2; rw [Nat.add_mul]; omega
    rw [e, List.take_succ_cons]
    exact .cons h h1 h2 (RepEs.take n t)
theorem RepEs.drop {k} : ∀ {es : List (List Sh)} {xs : List Value} (n : Nat), RepEs H k es xs → RepEs H k (es.drop n) (xs.drop (n * k))
  | _, _, 0, h => by simpa using h
  | _, _, n + 1, .nil => by simp; exact .nil
  | _, _, n + 1, .cons (vs := vs) (xs := xs) h h1 h2 t => by
    have e : (vs ++ xs).drop ((n + 1) * k) = xs.drop (n * k) := by
      rw [List.drop_append, h1, List.drop_of_length_le (by rw [Nat.add_mul]; omega), List.nil_append]; congr 1; rw [Nat.add_mul]; omega
    rw [e, List.drop_succ_cons]
    exact RepEs.drop n t
theorem RepEs.one1 {k} {e : List Sh} {vs : List Value} (h : RepL H E0 e vs) (hl : vs.length = k) (h1 : e.all Sh.one = true) : RepEs H k [e] vs := by
  have := RepEs.cons h hl h1 (RepEs.nil (H := H) (k := k)); simpa using this
theorem RepEs.set {k} {e : List Sh} {vs : List Value} (h : RepL H E0 e vs) (hl : vs.length = k) (h1 : e.all Sh.one = true) :
    ∀ {es : List (List Sh)} {xs : List Value} (i : Nat), i < es.length → RepEs H k es xs → RepEs H k (es.set i e) (xs.take (i * k) ++ vs ++ xs.drop ((i + 1) * k))
  | es, xs, i, hi, hE => by
    have a := hE.take i
    have b := hE.drop (i + 1)
    rw [List.set_eq_take_append_cons_drop, if_pos hi]
    have := (a.append (RepEs.one1 h hl h1)).append b
    simpa using this
end
end Go.Proofs.Ytfcjkchpldfamaa
