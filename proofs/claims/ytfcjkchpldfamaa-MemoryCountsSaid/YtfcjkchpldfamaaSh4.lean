/-
  The shadow machine: the operations that write nothing of one's own are told rightly.
-/
import Derived.Test.YtfcjkchpldfamaaSh3
namespace Go.Proofs.Ytfcjkchpldfamaa
set_option linter.unusedSimpArgs false
set_option linter.unusedVariables false
open Go.RowKit Go.Maps

def aggB : TypeDesc → Bool
  | .struct _ | .array _ _ => true
  | _ => false
theorem run_isAgg {P : Program} {t d} (h : P.underlying t = some d) (w : World) : (isAgg t).run P w = .ok (aggB d) w := by
  cases d <;> simp [isAgg, run_underlying h, aggB]
theorem run_sizeOf {P : Program} {t i} (h : P.info? t = some i) (w : World) : (sizeOf t).run P w = .ok i.size w := by simp [sizeOf, typeInfo, h]
theorem run_zero {P : Program} {t i z} (h : P.info? t = some i) (hz : i.zero = some z) (w : World) : (zeroValue t).run P w = .ok z w := by simp [zeroValue, typeInfo, h, hz]

def idxs {α : Type} : Nat → List α → List (Nat × α)
  | _, [] => []
  | j, x :: l => (j, x) :: idxs (j + 1) l

inductive OpM : Op → SOp → Prop
  | mv {x} : OpM (.move x) (.mv x)
  | asg {x} : OpM (.assign x) (.mv x)
  | ldA {t x d i} : Try.prog.underlying t = some d → aggB d = true → Try.prog.info? t = some i → OpM (.load t x) (.ld x (some i.size))
  | ld1 {t x d} : Try.prog.underlying t = some d → aggB d = false → OpM (.load t x) (.ld x none)
  | fa {s x j fs f i} : Try.prog.underlying s = some (.struct fs) → fs[j]? = some f → Try.prog.info? f.type = some i → i.size ≠ 0 → OpM (.fieldAddr s x j) (.fa x f.offset)
  | fldA {s x j fs f i d} : Try.prog.underlying s = some (.struct fs) → fs[j]? = some f → Try.prog.info? f.type = some i → Try.prog.underlying f.type = some d → aggB d = true → OpM (.field s x j) (.fld x f.offset (some i.size))
  | fld1 {s x j fs f d} : Try.prog.underlying s = some (.struct fs) → fs[j]? = some f → Try.prog.underlying f.type = some d → aggB d = false → OpM (.field s x j) (.fld x f.offset none)
  | ixa {t x j e i} : Try.prog.underlying t = some (.slice e) → Try.prog.info? e = some i → 0 < i.size → OpM (.indexAddr t x j) (.ixa x j i.size)
  | ixp {t x j e i n} : Try.prog.underlying t = some (.array n e) → Try.prog.info? e = some i → OpM (.indexAddr t x j) (.ixp x j i.size n)
  | bld {t parts zs ps it z} {pl : Nat → Option (Nat × Nat)} : Try.prog.info? t = some it → it.zero = some z → z.cells.toList = zs.map ZSh.val → (∀ vals, Try.prog.built t vals = Instr.fill pl z.cells vals) →
      parts.toList.mapM (fun p => (pl p.1).map fun q => (q.1, q.2, p.2)) = some ps → OpM (.build t parts) (.bld zs ps)
  | bsl {t e i z parts xs} : Try.prog.underlying t = some (.slice e) → Try.prog.info? e = some i → i.zero = some z → z.cells.size = i.size → 0 < i.size → parts.toList = idxs 0 xs → xs.length * i.size ≤ 16777216 → OpM (.buildSlice t xs.length parts) (.bsl i.size xs)
  | slc {t e i x lo hi mx} : Try.prog.underlying t = some (.slice e) → Try.prog.info? e = some i → OpM (.slice t x lo hi mx) (.slc i.size x lo hi mx)
  | len {t e x} : Try.prog.underlying t = some (.slice e) → OpM (.call ⟨.builtin .len, #[x], #[t]⟩) (.len x)
  | lenm {t kt e x} : Try.prog.underlying t = some (.map kt e) → Try.prog.underlying kt = some (.int .i64) → OpM (.call ⟨.builtin .len, #[x], #[t]⟩) (.lenm kt x)
  | lkp {t kt e i m key ok} {z : ZSh} : Try.prog.underlying t = some (.map kt e) → Try.prog.underlying kt = some (.int .i64) → Try.prog.info? e = some i → i.zero = some z.val → OpM (.lookup t m key ok) (.lkp kt m key z ok)
  | ext {x i} : OpM (.extract x i) (.ext x i)
  | bin {op t x y t2} : OpM (.binOp op t x y t2) (.bin op x y)
  | eqv {t x y t2} : OpM (.binOp .eql t x y t2) (.eqv false t x y)
  | neqv {t x y t2} : OpM (.binOp .neq t x y t2) (.eqv true t x y)
  | not {t x} : OpM (.unOp .not t x) (.not x)
  | cnv {src dst x d k} : Try.prog.underlying src = some d → Try.prog.underlying dst = some (.int k) → OpM (.convert src dst x) (.cnv k x)
  | call {f fn args tys} : Try.prog.funcs[f]? = some fn → fn.body.isSome = true → (fn.name == "runtime.NumGoroutine") = false → OpM (.call ⟨.value (.func f), args, tys⟩) (.call f args.toList)
  | callv {t args tys} : OpM (.call ⟨.value (.tmp t), args, tys⟩) (.callv (.tmp t) args.toList)
  | mkf {f first cap} : OpM (.makeFunc f first cap) (.mkf f first.toList cap.toList)
  | mki {t x d} : Try.prog.underlying t = some d → (∀ ms, d ≠ .interface ms) → OpM (.makeInterface t x) (.mki t x)
  | pick {c a b} : OpM (.pick c a b) (.pick c a b)
  | max {x y tys} : OpM (.call ⟨.builtin .max, #[x, y], tys⟩) (.mm true x y)
  | min {x y tys} : OpM (.call ⟨.builtin .min, #[x, y], tys⟩) (.mm false x y)
  | nck {x} : OpM (.nilCheck x) (.nck x)
  | mks {t e i z n zs} : Try.prog.underlying t = some (.slice e) → Try.prog.info? e = some i → i.zero = some z → z.cells.toList = zs.map ZSh.val → z.cells.size = i.size → 0 < i.size → OpM (.makeSlice t n n) (.mks n e i.size i.bytes zs)
  | mkm {t kt e} : Try.prog.underlying t = some (.map kt e) → Try.prog.underlying kt = some (.int .i64) → OpM (.makeMap t none) (.mkm t kt)
  | app {t e i z x y} : Try.prog.underlying t = some (.slice e) → Try.prog.info? e = some i → i.zero = some z → z.cells.size = i.size → 0 < i.size → OpM (.call ⟨.builtin .append, #[x, y], #[t, t]⟩) (.app x y e i.size i.bytes)
  | alc {t i z zs} : Try.prog.info? t = some i → i.zero = some z → z.cells.toList = zs.map ZSh.val → OpM (.alloc t) (.alc t zs)
  | box {t x} : OpM (.box t x) (.box t x)
  | st {t i x y} : Try.prog.info? t = some i → OpM (.store t x y) (.st i.size x y)
  | cpy {t e i x y t2} : Try.prog.underlying t = some (.slice e) → Try.prog.info? e = some i → OpM (.call ⟨.builtin .copy, #[x, y], #[t, t2]⟩) (.cpy x y i.size)
  | mup {t kt e m key x} : Try.prog.underlying t = some (.map kt e) → Try.prog.underlying kt = some (.int .i64) → OpM (.mapUpdate t m key x) (.mup kt m key x)
  | del {t kt e m key} : Try.prog.underlying t = some (.map kt e) → Try.prog.underlying kt = some (.int .i64) → OpM (.call ⟨.builtin .delete, #[m, key], #[t, kt]⟩) (.del kt m key)
  | rng {t kt e x} : Try.prog.underlying t = some (.map kt e) → Try.prog.underlying kt = some (.int .i64) → OpM (.range t x) (.rng kt x)
  | nxt {x} : OpM (.next x false) (.nxt x)
  | ent {x} : OpM (.entry x) (.ent x)

def SOp.opds : SOp → List Operand
  | .mv x | .ld x _ | .fa x _ | .fld x _ _ | .len x | .lenm _ x | .ext x _ | .not x | .cnv _ x | .mki _ x | .nck x | .mks x _ _ _ _ | .box _ x => [x]
  | .ixa x i _ | .ixp x i _ _ | .lkp _ x i _ _ | .bin _ x i | .eqv _ _ x i | .mm _ x i | .app x i _ _ _ | .st _ x i | .cpy x i _ => [x, i]
  | .bld _ ps => ps.map (·.2.2)
  | .bsl _ xs | .call _ xs => xs
  | .slc _ x lo hi mx => x :: (lo.toList ++ hi.toList ++ mx.toList)
  | .callv x xs => x :: xs
  | .mkf _ a b => a ++ b
  | .pick c a b => [c, a, b]
  | .mup _ m k x => [m, k, x]
  | .del _ m k => [m, k]
  | .rng _ x | .nxt x | .ent x => [x]
  | .mkm _ _ | .alc _ _ => []

/-- The operation, wherever the context fits, comes to a value that s shadows. -/
def Good (o : Oper) (S : St) (E : Env) (xs : List Operand) (s : Sh) : Prop :=
  ∀ (B : Nat) (a : Act) (w : World) (H : Hp), Sub H w → Objs B S E w H → OpdOk S E H a xs → o.wp Try.prog a w (fun a' w' => ∃ v H', a' = a.put o.dst v ∧ Grow w H w' H' ∧ Rep H' E s v) NoQ

theorem good_val {o S E xs s} (h : ∀ B a w H, Sub H w → Objs B S E w H → OpdOk S E H a xs → ∃ v w' H', (execOp a.eval o).run Try.prog w = .ok (.value v) w' ∧ Grow w H w' H' ∧ Rep H' E s v) : Good o S E xs s := by
  intro B a w H h1 h2 h3
  obtain ⟨v, w', H', e, g, r⟩ := h B a w H h1 h2 h3
  unfold Oper.wp
  rw [e]
  exact ⟨v, H', rfl, g, r⟩
/-- .. and turns nothing. -/
theorem good_same {o S E xs s} (h : ∀ B a w H, Sub H w → Objs B S E w H → OpdOk S E H a xs → ∃ v, (execOp a.eval o).run Try.prog w = .ok (.value v) w ∧ Rep H E s v) : Good o S E xs s :=
  good_val fun B a w H h1 h2 h3 => by obtain ⟨v, e, r⟩ := h B a w H h1 h2 h3; exact ⟨v, w, H, e, Grow.refl h1, r⟩

section
variable {o : Oper} {S : St} {E : Env}

theorem run_load_at {P : Program} {w : World} {t : TypeId} {d : TypeDesc} {b o' off : Nat} {vs : List Value} (hu : P.underlying t = some d) (hat : ∀ j v, vs[j]? = some v → w.cell? ⟨b, o' + j, none⟩ = some v) :
    (∀ i, aggB d = true → P.info? t = some i → off + i.size ≤ vs.length → (Instr.loadAt t (.pointer (some ⟨b, o' + off, none⟩))).run P w = .ok (.agg ((vs.drop off).take i.size).toArray) w) ∧
    (∀ u, aggB d = false → vs[off]? = some u → (Instr.loadAt t (.pointer (some ⟨b, o' + off, none⟩))).run P w = .ok u w) := by
  constructor
  · intro i ha hi hl
    have hlen : ((vs.drop off).take i.size).length = i.size := by simp; omega
    have := run_loadCells_list (P := P) w ⟨b, o' + off, none⟩ ((vs.drop off).take i.size) (fun j v hv => by
      rw [Addr.add_lit, Nat.add_assoc]
      rw [List.getElem?_take] at hv
      split at hv
      · rw [List.getElem?_drop] at hv; exact hat _ _ hv
      · cases hv)
    rw [hlen] at this
    simp [Instr.loadAt, Instr.sureAddr, loadVar, run_isAgg hu, ha, run_sizeOf hi, this]
  · intro u ha hv
    have := hat _ _ hv
    simp [Instr.loadAt, Instr.sureAddr, loadVar, run_isAgg hu, ha, load, Sem.run, this]

theorem run_part {P : Program} {w : World} {t : TypeId} {d : TypeDesc} {off : Nat} {vs : List Value} (hu : P.underlying t = some d) :
    (∀ i, aggB d = true → P.info? t = some i → off + i.size ≤ vs.length → (part t vs.toArray off).run P w = .ok (.agg ((vs.drop off).take i.size).toArray) w) ∧
    (∀ u, aggB d = false → vs[off]? = some u → (part t vs.toArray off).run P w = .ok u w) := by
  constructor
  · intro i ha hi hl
    simp [part, run_isAgg hu, ha, run_sizeOf hi, List.extract_eq_take_drop]
  · intro u ha hv
    simp [part, run_isAgg hu, ha, hv]

theorem good_mv {x s} (ho : o.op = .move x ∨ o.op = .assign x) (h : S.opd x = some s) : Good o S E [x] s := good_same fun B a w H h1 h2 h3 => by
  refine ⟨a.eval x, ?_, h3.get (by simp) h⟩
  rcases ho with ho | ho <;> simp [execOp, ho]

theorem good_ld {t x d s cs off ag k} (ho : o.op = .load t x) (hu : Try.prog.underlying t = some d) (hag : (aggB d = true ∧ ∃ i, Try.prog.info? t = some i ∧ ag = some i.size) ∨ (aggB d = false ∧ ag = none))
    (h : S.opd x = some s) (ha : S.at s = some (cs, off)) (hk : cut cs off ag k) : ∃ r, k r ∧ Good o S E [x] r := by
  have : ∃ r, k r ∧ match ag with | some n => off + n ≤ cs.length ∧ r = .agg ((cs.drop off).take n) | none => cs[off]? = some r := by
    unfold cut at hk
    cases ag with
    | some n => exact ⟨_, hk.2, hk.1, rfl⟩
    | none => obtain ⟨x, hx, hk⟩ := oB_elim hk; exact ⟨x, hk, hx⟩
  obtain ⟨r, hr, hm⟩ := this
  refine ⟨r, hr, good_same fun B a w H h1 h2 h3 => ?_⟩
  obtain ⟨b, o', vs, hv, hR, h1c, hat⟩ := at_rep h2 h1 (h3.get (by simp) h) ha
  obtain ⟨l1, l2⟩ := run_load_at (P := Try.prog) (off := off) hu hat
  rcases hag with ⟨hd, i, hi, rfl⟩ | ⟨hd, rfl⟩
  · obtain ⟨hl, rfl⟩ := hm
    refine ⟨_, by simp [execOp, ho, hv, l1 i hd hi (by rw [← hR.length]; exact hl)], .agg ((hR.drop off).take _) ?_⟩
    rw [List.all_eq_true] at h1c ⊢
    intro x hx
    exact h1c x (List.mem_of_mem_drop (List.mem_of_mem_take hx))
  · obtain ⟨u, hu', hru⟩ := hR.get hm
    exact ⟨u, by simp [execOp, ho, hv, l2 u hd hu'], hru⟩

theorem good_fa {t x j fs f i s s'} (ho : o.op = .fieldAddr t x j) (hu : Try.prog.underlying t = some (.struct fs)) (hf : fs[j]? = some f) (hi : Try.prog.info? f.type = some i) (hz : i.size ≠ 0)
    (h : S.opd x = some s) (hs : (∃ i idx o, s = .ptr i idx o ∧ s' = .ptr i idx (o + f.offset)) ∨ (∃ e o, s = .fp e o ∧ s' = .fp e (o + f.offset))) : Good o S E [x] s' := good_same fun B a w H h1 h2 h3 => by
  have hr := h3.get (by simp) h
  have hrun : ∀ b o', a.eval x = .pointer (some ⟨b, o', none⟩) → (execOp a.eval o).run Try.prog w = .ok (.value (.pointer (some ⟨b, o' + f.offset, none⟩))) w := fun b o' e => by
    simp [execOp, ho, e, Instr.fieldAt, run_underlying hu, hf, Instr.sureAddr, fieldPlace, run_sizeOf hi, hz, Addr.add_lit]
  rcases hs with ⟨i', idx, o', rfl, rfl⟩ | ⟨e, o', rfl, rfl⟩
  · generalize hq : a.eval x = q at hr
    cases hr with
    | ptr h => exact ⟨_, hrun _ _ hq, by rw [Nat.add_assoc]; exact .ptr h⟩
  · generalize hq : a.eval x = q at hr
    cases hr with
    | fp b1 b2 b3 => exact ⟨_, hrun _ _ hq, by rw [Nat.add_assoc]; exact .fp b1 b2 b3⟩

theorem good_fld {t x j fs f d cs ag k} (ho : o.op = .field t x j) (hu : Try.prog.underlying t = some (.struct fs)) (hf : fs[j]? = some f) (hd : Try.prog.underlying f.type = some d)
    (hag : (aggB d = true ∧ ∃ i, Try.prog.info? f.type = some i ∧ ag = some i.size) ∨ (aggB d = false ∧ ag = none)) (h : S.opd x = some (.agg cs)) (hk : cut cs f.offset ag k) : ∃ r, k r ∧ Good o S E [x] r := by
  have : ∃ r, k r ∧ match ag with | some n => f.offset + n ≤ cs.length ∧ r = .agg ((cs.drop f.offset).take n) | none => cs[f.offset]? = some r := by
    unfold cut at hk
    cases ag with
    | some n => exact ⟨_, hk.2, hk.1, rfl⟩
    | none => obtain ⟨x, hx, hk⟩ := oB_elim hk; exact ⟨x, hk, hx⟩
  obtain ⟨r, hr, hm⟩ := this
  refine ⟨r, hr, good_same fun B a w H h1 h2 h3 => ?_⟩
  have hR := h3.get (by simp) h
  generalize hq : a.eval x = q at hR
  cases hR with
  | agg hR h1c =>
    rename_i vs
    obtain ⟨l1, l2⟩ := run_part (P := Try.prog) (w := w) (off := f.offset) (vs := vs) hd
    rcases hag with ⟨hd', i, hi, rfl⟩ | ⟨hd', rfl⟩
    · obtain ⟨hl, rfl⟩ := hm
      refine ⟨_, by simp [execOp, ho, hq, Instr.field, run_underlying hu, hf, asAgg, l1 i hd' hi (by rw [← hR.length]; exact hl)], .agg ((hR.drop f.offset).take _) ?_⟩
      rw [List.all_eq_true] at h1c ⊢
      intro x hx
      exact h1c x (List.mem_of_mem_drop (List.mem_of_mem_take hx))
    · obtain ⟨u, hu', hru⟩ := hR.get hm
      exact ⟨u, by simp [execOp, ho, hq, Instr.field, run_underlying hu, hf, asAgg, l2 u hd' hu'], hru⟩

theorem good_ixa1 {t x j e i kf n es el} (ho : o.op = .indexAddr t x j) (hu : Try.prog.underlying t = some (.slice e)) (hi : Try.prog.info? e = some i) (hpos : 0 < i.size) {full : Nat}
    (h : S.opd x = some (.sl i.size full es)) (hj : S.opd j = some (.v (.int kf n))) (h0 : 0 ≤ n) (he : es[n.toNat]? = some el) : Good o S E [x, j] (.fp el 0) := good_same fun B a w H h1 h2 h3 => by
  have hR := h3.get (by simp) h
  have hJ := h3.get (by simp) hj
  generalize hq : a.eval x = q at hR
  generalize hqj : a.eval j = qj at hJ
  cases hJ
  cases hR with
  | sl hE hn hc hm hf ha hat =>
    rename_i ao len cap xs
    have hlt := (List.getElem?_eq_some_iff.1 he).1
    obtain ⟨vs, c1, c2, c3, c4⟩ := hE.get he
    cases ao with
    | none => have := ha rfl; omega
    | some ad =>
      obtain ⟨u0, hu0⟩ : ∃ u, vs[0]? = some u := ⟨vs[0]'(by omega), by simp⟩
      obtain ⟨b, o', cells, t', fr, e1, e2, e3⟩ := hat _ _ (c4 0 u0 hu0)
      cases e1
      refine ⟨.pointer (some ⟨b, o' + n.toNat * i.size + 0, none⟩), ?_, .fp c2 c3 (fun j' u hu' => ?_)⟩
      · simp [execOp, ho, hq, hqj, Instr.indexAt, run_underlying hu, asIntOf, run_sizeOf hi, h0, show n < (len : Int) from by omega, Addr.add_lit]
      · obtain ⟨b', o'', cells', t'', fr', f1, f2, f3⟩ := hat _ _ (c4 j' u hu')
        cases f1
        exact ⟨cells', t'', fr', f2, by rw [Nat.add_assoc]; exact f3⟩
end
end Go.Proofs.Ytfcjkchpldfamaa
