/-
  The frame of every law's row: arguments opened by their types' flat shape, the post of 'true, and the arguments read as before'.
-/
import Derived.Test.YtfcjkchpldfamaaOpen
import Derived.WideKeyArgs
namespace Go.Proofs.Ytfcjkchpldfamaa
set_option linter.unusedSimpArgs false
set_option linter.unusedVariables false
open Go.ChangeShapes Go.WideShapes Go.ChangeAt Go.RowKit Go.Deep

inductive CellK where
  | int (k : IntKind)
  | bool

def CellK.fits : CellK → Value → Prop
  | .int k, v => ∃ n, v = .int k n ∧ (Lit.int k n).wf = true
  | .bool, v => ∃ b, v = .bool b
def Fits : List CellK → List Value → Prop
  | [], [] => True
  | k :: ks, v :: vs => k.fits v ∧ Fits ks vs
  | _, _ => False

theorem Fits.length : ∀ {ks : List CellK} {vs : List Value}, Fits ks vs → vs.length = ks.length
  | [], [], _ => rfl
  | _ :: _, _ :: _, h => by simp [Fits.length h.2]
theorem Fits.append : ∀ {ks : List CellK} {vs : List Value} {ks' : List CellK} {vs' : List Value}, Fits ks vs → Fits ks' vs' → Fits (ks ++ ks') (vs ++ vs')
  | [], [], _, _, _, h => h
  | _ :: _, _ :: _, _, _, h, h' => ⟨h.1, Fits.append h.2 h'⟩
theorem Fits.one : ∀ {ks : List CellK} {vs : List Value}, Fits ks vs → ∀ u ∈ vs, u.oneCell' = true
  | [], [], _ => by simp
  | k :: _, v :: _, h => by
    intro u hu
    rcases List.mem_cons.1 hu with rfl | hu
    · cases k with
      | int k => obtain ⟨n, rfl, _⟩ := h.1; rfl
      | bool => obtain ⟨b, rfl⟩ := h.1; rfl
    · exact Fits.one h.2 u hu

theorem Fits.int {k : IntKind} {ks : List CellK} : ∀ {vs : List Value}, Fits (.int k :: ks) vs → ∃ n vs', vs = .int k n :: vs' ∧ k.min ≤ n ∧ n ≤ k.max ∧ Fits ks vs'
  | v :: vs, ⟨⟨n, h, w⟩, h'⟩ => by
    simp only [Lit.wf, Bool.and_eq_true, decide_eq_true_eq] at w
    exact ⟨n, vs, by rw [h], w.1, w.2, h'⟩
theorem Fits.bool {ks : List CellK} : ∀ {vs : List Value}, Fits (.bool :: ks) vs → ∃ b vs', vs = .bool b :: vs' ∧ Fits ks vs'
  | v :: vs, ⟨⟨b, h⟩, h'⟩ => ⟨b, vs, by rw [h], h'⟩
theorem Fits.nil : ∀ {vs : List Value}, Fits [] vs → vs = []
  | [], _ => rfl

def flatFields (P : Program) (g : TypeId → Option (List CellK)) : List Field → Nat → Option (List CellK)
  | [], _ => some []
  | f :: fs, acc => if f.offset = acc then (g f.type).bind fun ks => if ks.length = P.cellsOf f.type then (flatFields P g fs (acc + ks.length)).map (ks ++ ·) else none else none
def flatK (P : Program) : Nat → TypeId → Option (List CellK)
  | 0 => fun _ => none
  | n + 1 => fun t => match P.underlying t with
    | some (.int k) => some [.int k]
    | some .bool => some [.bool]
    | some (.struct fs) => (flatFields P (flatK P n) fs.toList 0).bind fun ks => if ks.length = P.cellsOf t then some ks else none
    | _ => none

section
variable {H : Type} {enc : TypeId × Value → H} {P : Program} {W : World} {base : Nat} {spare : Nat → Bool} {held : Bool}

theorem flatFields_fits {m : Nat} {g : TypeId → Option (List CellK)} {cs : List Value} (hg : ∀ t ks vs x, g t = some ks → DataW.trod enc P W base spare held m t vs = some x → Fits ks vs) :
    ∀ (fs : List Field) (acc : Nat) (ks : List CellK) (xs : List (DataW H × List MemPlace)), flatFields P g fs acc = some ks → xs.length = fs.length →
      (∀ (i : Nat) (f : Field), fs[i]? = some f → DataW.trod enc P W base spare held m f.type ((cs.drop f.offset).take (P.cellsOf f.type)) = xs[i]?) → cs.length = acc + ks.length → Fits ks (cs.drop acc)
  | [], acc, ks, xs, h, _, _, hl => by
    simp only [flatFields, Option.some.injEq] at h
    subst h
    rw [List.drop_of_length_le (by simp at hl; omega)]
    exact trivial
  | f :: fs, acc, ks, xs, h, hx, hi, hl => by
    unfold flatFields at h
    split at h
    · rename_i ho
      cases hk : g f.type with
      | none => rw [hk] at h; cases h
      | some k1 =>
        rw [hk] at h
        simp only [Option.bind_some] at h
        split at h
        · rename_i hc
          cases hr : flatFields P g fs (acc + k1.length) with
          | none => rw [hr] at h; cases h
          | some k2 =>
            rw [hr] at h
            simp only [Option.map_some, Option.some.injEq] at h
            subst h
            match xs, hx with
            | x :: xs, hx =>
              have h0 := hi 0 f rfl
              rw [ho, ← hc] at h0
              have f1 := hg _ _ _ _ hk h0
              have f2 := flatFields_fits hg fs (acc + k1.length) k2 xs hr (by simpa using hx) (fun i f' hf => by have := hi (i + 1) f' (by simpa using hf); simpa using this) (by simp at hl; omega)
              have e : cs.drop acc = (cs.drop acc).take k1.length ++ cs.drop (acc + k1.length) := by rw [← List.drop_drop, List.take_append_drop]
              rw [e]
              exact f1.append f2
        · cases h
    · cases h

theorem flatK_fits : ∀ (m' : Nat) (t : TypeId) (ks : List CellK) (m : Nat) (vs : List Value) (x : DataW H × List MemPlace), flatK P m' t = some ks → DataW.trod enc P W base spare held m t vs = some x → Fits ks vs
  | 0, _, _, _, _, _, h, _ => by simp [flatK] at h
  | m' + 1, t, ks, m, vs, x, h, hx => by
    unfold flatK at h
    split at h
    · rename_i k hu
      cases h
      obtain ⟨n, rfl, _, hw⟩ := DataW.trod_int hu hx
      exact ⟨⟨n, rfl, hw⟩, trivial⟩
    · rename_i hu
      cases h
      obtain ⟨b, rfl, _⟩ := DataW.trod_bool hu hx
      exact ⟨⟨b, rfl⟩, trivial⟩
    · rename_i fs hu
      obtain ⟨xs, n, rfl, _, hl, hxl, hf⟩ := DataW.trod_struct hu hx
      cases hr : flatFields P (flatK P m') fs.toList 0 with
      | none => rw [hr] at h; cases h
      | some k1 =>
        rw [hr] at h
        simp only [Option.bind_some] at h
        split at h
        · rename_i hc
          cases h
          have := flatFields_fits (cs := vs) (fun t ks vs x h h' => flatK_fits m' t ks n vs x h h') fs.toList 0 ks xs hr (by simpa using hxl) (fun i f hi => hf i f (by simpa using hi)) (by omega)
          simpa using this
        · cases h
    · cases h

/-- A struct argument of flat cells. -/
theorem structOpen {t : TypeId} {fs : Array Field} {v : Value} {d : DataW H} {ps : List MemPlace} {r : Reach} {b0 m : Nat} {ks : List CellK} (hu : P.underlying t = some (.struct fs)) (hk : flatK P m t = some ks)
    (hval : Value.okWide P W r b0 t v) (hd : DataW.Trod enc P W base spare held t v d ps) : ∃ cs : List Value, v = .agg cs.toArray ∧ Fits ks cs := by
  obtain ⟨cs, rfl, _⟩ := okWide_struct hu hval
  obtain ⟨fuel, hf⟩ := hd
  exact ⟨cs.toList, by simp, flatK_fits m t ks fuel _ _ hk hf⟩

/-- A slice argument of flat structs. -/
theorem sliceOpen {α : Type} {R : Elt α} {t e : TypeId} {v : Value} {d : DataW H} {ps : List MemPlace} {r : Reach} {b0 m : Nat} {ks : List CellK} (hu : P.underlying t = some (.slice e)) (hC : P.cellsOf e = ks.length) (hk : flatK P m e = some ks)
    (hR : ∀ cs, Fits ks cs → ∃ x, R (allHp W) cs x)
    (hval : Value.okWide P W r b0 t v) (hd : DataW.Trod enc P W base spare held t v d ps) : ∃ s : SlV, ∃ l, v = .slice s.a s.n s.c ∧ SlR ks.length R (allHp W) s.a s.n s.c l ∧ s.c ≤ maxLen := by
  obtain ⟨a, n, c, rfl⟩ := okWide_slice hu hval
  obtain ⟨fuel, hf⟩ := hd
  obtain ⟨s, l, h1, h2, h3⟩ := slOpen (R := R) hu hC (fun n cs x hx hl => by
    have hF := flatK_fits m e ks n cs x hk hx
    exact ⟨hF.one, hR cs hF⟩) hf
  simp only [Value.cells, List.cons.injEq, and_true] at h1
  exact ⟨s, l, h1, h2, h3⟩

theorem args_stay {W' : World} (hl : laidOutB P = true) (hb : Below W.heap.size W W') {sp : Nat → Bool} : ∀ {ts : List TypeId} {vs : List Value} {ds : List (DataW H)} {ps : List MemPlace}, (ts.all fun t => P.readableRec t && decide (t < P.types.size)) = true →
    DataW.TrodAll enc P W 0 (fun _ => true) true ts vs ds ps → (∀ x ∈ ps, x.block < W.heap.size ∧ sp x.block = true) → DataW.TrodAll enc P W' 0 sp true ts vs ds ps
  | [], _, _, _, _, h, _ => by
    obtain ⟨rfl, rfl, rfl⟩ := trodAll_nil h
    exact rfl
  | t :: ts, _, _, _, ht, h, hp => by
    obtain ⟨v, vs, d, ds, p, q, rfl, rfl, rfl, h1, h2⟩ := trodAll_cons h
    simp only [List.all_cons, Bool.and_eq_true, decide_eq_true_eq] at ht
    exact ⟨p, q, WideElems.Trod_stays hl ht.1.1 ht.1.2 h1 (fun x hx => hb.same (hp x (by simp [hx])).1) (fun x hx => (hp x (by simp [hx])).2),
      args_stay hl hb ht.2 h2 (fun x hx => hp x (by simp [hx])), rfl⟩

theorem trodAll_len {w : World} : ∀ {ts : List TypeId} {vs : List Value} {ds : List (DataW H)} {ps : List MemPlace}, DataW.TrodAll enc P w base spare held ts vs ds ps → ds.length = ts.length
  | [], _, _, _, h => by
    obtain ⟨rfl, rfl, rfl⟩ := trodAll_nil h
    rfl
  | _ :: _, _, _, _, h => by
    obtain ⟨v, vs, d, ds, p, q, rfl, rfl, rfl, h1, h2⟩ := trodAll_cons h
    simp [trodAll_len h2]

/-- THE FRAME. -/
theorem lifted_of {C : Checked} {os : Os} {f : FuncId} {fn : Func} {s : ChangeSpec} {conds : List PathCond} {tb : TypeId}
    (own : ownKnob C.prog.godebug = none) (started : os.Started) (noInit : C.prog.inits.idxOf? f = none) (hfn : C.prog.funcs[f]? = some fn)
    (witness : ∃ (w : World) (tape : Tape) (i : Input), w.os = os ∧ (w.forCall tape i).Shaped C.prog ∧ i.vars = [] ∧ Input.okWide C.prog (w.forCall tape i) .any w.heap.size f i ∧
      s.pre6 enc C.prog fn conds false (w.forCall tape i).memory i.args ∧ ({} : Assume).holds C.prog (lone (Frame.enter C.prog f i.args .normal) [] (w.forCall tape i)))
    (hl : laidOutB C.prog = true) (hp : (fn.params.toList.all fun t => C.prog.readableRec t && decide (t < C.prog.types.size)) = true)
    (hr : fn.resultTypes = #[tb]) (htb : C.prog.underlying tb = some .bool) (hv : s.vars = [])
    (hs : ∀ ds, ds.length = fn.params.toList.length → (s.fn H ds).results = [.lit (.bool true)] ∧ (s.fn H ds).args = ds ∧ (s.fn H ds).vars = [])
    (walk : ∀ (W : World) (base : Nat) (args : Array Value) (ds : List (DataW H)) (p : List MemPlace),
      (∀ (j : Nat) t v, fn.params[j]? = some t → args[j]? = some v → Value.okWide C.prog W .any base t v) →
      DataW.TrodAll enc C.prog W 0 (fun _ => true) true fn.params.toList args.toList ds p → RetV C.prog f args W (.bool true)) :
    ReturnsInHanded {} C os f .any (s.pre6 enc C.prog fn conds false) (s.post enc C.prog fn false true false false) := by
  refine returnsInHanded_of_change (C := C) own started noInit hfn witness ?_
  intro W base args ds gs before hval hW hcnd _
  have hW' := hW
  obtain ⟨p, q, hA, hV, rfl, hfz, hnd⟩ := hW
  rw [hv] at hV
  obtain ⟨rfl, rfl⟩ := trodVars_none hV
  have hlen := trodAll_len hA
  obtain ⟨e1, e2, e3⟩ := hs ds hlen
  refine (walk W base args ds p hval hA).mono fun e W' ⟨he, hb⟩ => ?_
  subst he
  refine ⟨_, rfl, ds, [], p ++ [], [], p, [], hW', ?_, ?_, ?_, hb.frame _, fun h => by cases h⟩
  · rw [List.append_nil, e1, hr]
    exact trodAll_mk1 (shut_bool htb _)
  · rw [List.append_nil, e2]
    exact args_stay hl hb hp hA (fun x hx => ⟨hW'.lt x (by simp [hx]), by simpa using hW'.lt x (by simp [hx])⟩)
  · rw [List.append_nil, e3, hv]
    exact rfl
end
end Go.Proofs.Ytfcjkchpldfamaa
