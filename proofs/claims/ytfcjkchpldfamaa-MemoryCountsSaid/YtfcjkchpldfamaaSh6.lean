/-
  The shadow machine: operations that make values that nobody writes any more.
-/
import Derived.Test.YtfcjkchpldfamaaSh5
namespace Go.Proofs.Ytfcjkchpldfamaa
set_option linter.unusedSimpArgs false
set_option linter.unusedVariables false
open Go.RowKit Go.Maps

theorem fold_set : ∀ (l : List Value) (j0 off : Nat) (cs : Array Value), off + j0 + l.length ≤ cs.size →
    ((l.zipIdx j0).foldl (fun (cs : Array Value) (p : Value × Nat) => cs.setIfInBounds (off + p.2) p.1) cs).toList = cs.toList.take (off + j0) ++ l ++ cs.toList.drop (off + j0 + l.length)
  | [], j0, off, cs, h => by simp
  | v :: l, j0, off, cs, h => by
    simp only [List.zipIdx_cons, List.foldl_cons]
    simp only [List.length_cons] at h
    rw [fold_set l (j0 + 1) off _ (by simp; omega)]
    have e1 : ((cs.setIfInBounds (off + j0) v).toList.take (off + (j0 + 1))) = cs.toList.take (off + j0) ++ [v] := by
      simp only [Array.toList_setIfInBounds]
      rw [show off + (j0 + 1) = (off + j0) + 1 by omega, List.take_add_one, List.getElem?_set_self (by simp; omega), List.take_set_of_le (by omega)]; rfl
    have e2 : ((cs.setIfInBounds (off + j0) v).toList.drop (off + (j0 + 1) + l.length)) = cs.toList.drop (off + j0 + (v :: l).length) := by
      simp only [Array.toList_setIfInBounds]
      rw [List.drop_set_of_lt (by omega)]
      congr 1; simp; omega
    rw [e1, e2]; simp

theorem fill_cons {pl : Nat → Option (Nat × Nat)} {zc : Array Value} {i off : Nat} {v : Value} {rest : List (Nat × Value)} (hp : pl i = some (off, v.cells.size)) (hl : off + v.cells.size ≤ zc.size) :
    ∃ zc' : Array Value, Instr.fill pl zc ((i, v) :: rest) = Instr.fill pl zc' rest ∧ zc'.toList = zc.toList.take off ++ v.cells.toList ++ zc.toList.drop (off + v.cells.size) := by
  refine ⟨v.cells.zipIdx.foldl (fun cs (c, j) => cs.setIfInBounds (off + j) c) zc, ?_, ?_⟩
  · have h1 : ¬ (zc.size < off + v.cells.size) := by omega
    simp [Instr.fill, hp, h1]
  · have := fold_set v.cells.toList 0 off zc (by simpa using hl)
    rw [← Array.foldl_toList]
    simpa using this

section
variable {o : Oper} {S : St} {E : Env} {H : Hp} {B : Nat} {w : World}

theorem all_fill {p : Sh → Bool} {cs l : List Sh} {a b : Nat} (h : cs.all p = true) (h' : l.all p = true) : (cs.take a ++ l ++ cs.drop b).all p = true := by
  rw [List.all_eq_true] at *
  intro x hx
  rcases List.mem_append.1 hx with hx | hx
  · rcases List.mem_append.1 hx with hx | hx
    · exact h x (List.mem_of_mem_take hx)
    · exact h' x hx
  · exact h x (List.mem_of_mem_drop hx)

theorem fill_rep {pl : Nat → Option (Nat × Nat)} {a : Act} : ∀ (parts : List (Nat × Operand)) (ps : List (Nat × Nat × Operand)) (cs cs' : List Sh) (zc : Array Value), parts.mapM (fun p => (pl p.1).map fun q => (q.1, q.2, p.2)) = some ps →
    RepL H E cs zc.toList → cs.all Sh.one = true → fillS S cs ps = some cs' → OpdOk S E H a (ps.map (·.2.2)) → ∃ out, Instr.fill pl zc (parts.map fun p => (p.1, a.eval p.2)) = some out ∧ RepL H E cs' out.toList ∧ cs'.all Sh.one = true
  | [], ps, cs, cs', zc, hp, hr, h1, hf, _ => by
    simp at hp; subst hp
    simp only [fillS, Option.some.injEq] at hf; subst hf
    exact ⟨zc, rfl, hr, h1⟩
  | (i, x) :: parts, ps, cs, cs', zc, hp, hr, h1, hf, ho => by
    simp only [List.mapM_cons, Option.bind_eq_bind, Option.pure_def] at hp
    cases hpl : pl i with
    | none => simp [hpl] at hp
    | some q =>
      cases hrest : parts.mapM (fun p => (pl p.1).map fun q => (q.1, q.2, p.2)) with
      | none => rw [hrest] at hp; simp [hpl] at hp
      | some rest =>
        rw [hrest] at hp
        simp [hpl] at hp
        subst hp
        obtain ⟨off, sz⟩ := q
        simp only [fillS, Option.bind_eq_some_iff] at hf
        obtain ⟨s, hs, hf⟩ := hf
        split at hf
        · rename_i hc
          obtain ⟨c1, c2, c3⟩ := hc
          have hR := ho.get (y := s) (x := x) (by simp) hs
          have hC := cells_rep hR c3
          have hlen := hC.length
          have hzl := hr.length
          simp only [Array.length_toList] at hlen hzl
          obtain ⟨zc', f1, f2⟩ := fill_cons (pl := pl) (zc := zc) (i := i) (off := off) (v := a.eval x) (rest := parts.map fun p => (p.1, a.eval p.2)) (by rw [hpl, ← c1, hlen]) (by omega)
          have hR' : RepL H E (cs.take off ++ s.cells ++ cs.drop (off + sz)) zc'.toList := by
            rw [f2, ← hlen, c1]
            exact ((hr.take off).append hC).append (hr.drop _)
          obtain ⟨out, g1, g2, g3⟩ := fill_rep parts rest _ cs' zc' hrest hR' (all_fill h1 c3) hf (fun y hy => ho y (by simp at hy ⊢; exact .inr hy))
          exact ⟨out, by rw [List.map_cons, f1]; exact g1, g2, g3⟩
        · cases hf

theorem good_bld {t parts ps it z cs} {zs : List ZSh} {pl : Nat → Option (Nat × Nat)} (ho : o.op = .build t parts) (hit : Try.prog.info? t = some it) (hz : it.zero = some z) (hzs : z.cells.toList = zs.map ZSh.val)
    (hb : ∀ vals, Try.prog.built t vals = Instr.fill pl z.cells vals) (hp : parts.toList.mapM (fun p => (pl p.1).map fun q => (q.1, q.2, p.2)) = some ps) (hf : fillS S (zs.map ZSh.sh) ps = some cs) : Good o S E (ps.map (·.2.2)) (.agg cs) := good_same fun B a w H h1 h2 h3 => by
  obtain ⟨out, g1, g2, g3⟩ := fill_rep (H := H) (E := E) (a := a) parts.toList ps _ cs z.cells hp (by rw [hzs]; exact zs_rep H E zs) (zs_one zs) hf h3
  refine ⟨.agg out, ?_, by have := Rep.agg g2 g3; simpa using this⟩
  have := run_build (P := Try.prog) w t (parts.map fun (i, x) => (i, a.eval x)) out (by rw [hb]; simpa using g1)
  simp only [execOp, ho, Sem.run_bind, this, Result.andThen_ok]; rfl

theorem elems_rep (hO : Objs B S E w H) {a : Act} {k : Nat} : ∀ {xs : List Operand} {es}, OpdOk S E H a xs → S.elems k xs = some es →
    RepEs H k es ((xs.map a.eval).flatMap fun v => v.cells.toList) ∧ es.length = xs.length ∧ ∀ v ∈ xs.map a.eval, v.cells.size = k
  | [], _, _, h => by simp only [St.elems, Option.some.injEq] at h; subst h; exact ⟨.nil, rfl, by simp⟩
  | x :: l, _, ho, ha => by
    simp only [St.elems, Option.bind_eq_some_iff] at ha
    obtain ⟨y, ⟨z, hz, hy⟩, ha⟩ := ha
    split at ha
    · rename_i hc
      obtain ⟨c1, c2, c3⟩ := hc
      simp only [Option.map_eq_some_iff] at ha
      obtain ⟨l', hl, rfl⟩ := ha
      have hR := arg_rep hO (ho.get (by simp) hz) hy
      have hC := cells_rep hR c2
      have hlen := hC.length
      obtain ⟨i1, i2, i3⟩ := elems_rep hO (fun x hx => ho x (by simp [hx])) hl
      refine ⟨.cons hC (by rw [← hlen]; exact c1) c2 i1, by simp [i2], fun v hv => ?_⟩
      rcases List.mem_cons.1 hv with rfl | hv
      · simp at hlen; omega
      · exact i3 v hv
    · cases ha

theorem fill_seq {k : Nat} : ∀ (vals : List Value) (j : Nat) (zc : Array Value), (∀ v ∈ vals, v.cells.size = k) → zc.size = (j + vals.length) * k →
    ∃ out, Instr.fill (fun i => some (i * k, k)) zc (idxs j vals) = some out ∧ out.toList = zc.toList.take (j * k) ++ vals.flatMap fun v => v.cells.toList
  | [], j, zc, _, hz => ⟨zc, rfl, by simp at hz ⊢; rw [List.take_of_length_le (by simp [hz])]⟩
  | v :: vals, j, zc, hv, hz => by
    have hk := hv v (by simp)
    have hz' : zc.size = j * k + k + vals.length * k := by rw [hz]; simp [Nat.add_mul]; omega
    obtain ⟨zc', f1, f2⟩ := fill_cons (pl := fun i => some (i * k, k)) (zc := zc) (i := j) (off := j * k) (v := v) (rest := idxs (j + 1) vals) (by rw [hk]) (by omega)
    have hs : zc'.size = (j + 1 + vals.length) * k := by
      have := congrArg List.length f2
      simp [hk] at this
      rw [this, Nat.add_mul, Nat.add_mul]; omega
    obtain ⟨out, g1, g2⟩ := fill_seq vals (j + 1) zc' (fun u hu => hv u (by simp [hu])) hs
    refine ⟨out, by simp only [idxs]; rw [f1]; exact g1, ?_⟩
    rw [g2, f2]
    have : (j + 1) * k = j * k + k := by rw [Nat.add_mul]; omega
    rw [this, List.take_append_of_le_length (by simp [hk]; omega), List.take_of_length_le (by simp [hk]; omega)]
    simp

theorem idxs_map {α β : Type} (f : α → β) : ∀ (j : Nat) (l : List α), idxs j (l.map f) = (idxs j l).map fun p => (p.1, f p.2)
  | _, [] => rfl
  | j, x :: l => by simp [idxs, idxs_map f (j + 1) l]

/-- A new row that nobody writes from now on. -/
theorem rep_new {k : Nat} {es : List (List Sh)} {cells : Array Value} {e : TypeId} {n : Nat} {full : Nat} (hs : Sub H w) (h : RepEs H k es cells.toList) (hn : es.length = n) (hm : n ≤ maxLen) :
    Grow w H (w.alloc (.cells cells e)) (H.add w.heap.size (.cells cells e (0, 0))) ∧ Rep (H.add w.heap.size (.cells cells e (0, 0))) E (.sl k full es) (.slice (some ⟨w.heap.size, 0, none⟩) n n) := by
  refine ⟨((Grow.refl hs).alloc _).add (heap_alloc_new w _) (Nat.le_refl _), .sl (h.mono (Hp.add_le (hs.none (Nat.le_refl _)))) hn (Nat.le_refl _) hm ⟨fun _ => rfl, fun _ h => h⟩ (fun e => by cases e) (fun j u hu => ?_)⟩
  exact ⟨_, 0, _, _, _, rfl, Hp.add_at _ _ _, by simpa using hu⟩

theorem good_bsl {t e i z parts xs es} (ho : o.op = .buildSlice t xs.length parts) (hu : Try.prog.underlying t = some (.slice e)) (hi : Try.prog.info? e = some i) (hz : i.zero = some z) (hzs : z.cells.size = i.size) (hpos : 0 < i.size)
    (hp : parts.toList = idxs 0 xs) (hl : xs.length * i.size ≤ 16777216) (he : S.elems i.size xs = some es) : Good o S E xs (.sl i.size 0 es) := good_val fun B a w H h1 h2 h3 => by
  obtain ⟨r1, r2, r3⟩ := elems_rep h2 h3 he
  have h24 : ¬ (16777216 < xs.length * i.size) := by omega
  obtain ⟨zr, hzr⟩ : ∃ zr, zr = if xs.length * i.size = 0 then (#[] : Array Value) else z.cells := ⟨_, rfl⟩
  obtain ⟨out, g1, g2⟩ := fill_seq (k := i.size) (xs.map a.eval) 0 ((Array.range (xs.length * i.size)).map (zr[· % zr.size]!)) r3 (by simp)
  have hfill : Instr.fill (fun j => some (j * i.size, i.size)) ((Array.range (xs.length * i.size)).map (zr[· % zr.size]!)) (parts.map fun (i, x) => (i, a.eval x)).toList = some out := by
    rw [← g1, idxs_map]; simp [hp]
  have hE : RepEs H i.size es out.toList := by rw [g2]; simpa using r1
  have hlen : xs.length ≤ maxLen := by unfold maxLen; have := Nat.le_mul_of_pos_right xs.length hpos; omega
  obtain ⟨q1, q2⟩ := rep_new (E := E) (e := e) (full := 0) h1 hE r2 hlen
  refine ⟨.slice (some ⟨w.heap.size, 0, none⟩) xs.length xs.length, _, _, ?_, q1, q2⟩
  have h24' : ¬ (xs.length * i.size > 2 ^ 24) := by simpa using h24
  have hfill' : Instr.fill (fun j => some (j * i.size, i.size)) ((Array.range (xs.length * i.size)).map (zr[· % zr.size]!)) (parts.toList.map fun p => (p.1, a.eval p.2)) = some out := by simpa using hfill
  clear hfill g1
  by_cases h0 : xs.length * i.size = 0
  · rw [if_pos h0] at hzr
    subst hzr
    simp only [execOp, ho, Instr.buildSlice, Sem.run_bind, run_underlying hu, Result.andThen_ok, run_sizeOf hi, Sem.run_pure, if_neg h24', if_pos h0, Array.toList_map, hfill']
    rfl
  · rw [if_neg h0] at hzr
    subst hzr
    simp only [execOp, ho, Instr.buildSlice, Sem.run_bind, run_underlying hu, Result.andThen_ok, run_sizeOf hi, Sem.run_pure, if_neg h24', if_neg h0, Array.toList_map, hfill', run_zero hi hz]
    rfl
end
end Go.Proofs.Ytfcjkchpldfamaa
