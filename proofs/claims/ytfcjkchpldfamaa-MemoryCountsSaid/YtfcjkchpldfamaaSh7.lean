/-
  The shadow machine: slicing, make, append; all told rightly.
-/
import Derived.Test.YtfcjkchpldfamaaSh6
namespace Go.Proofs.Ytfcjkchpldfamaa
set_option linter.unusedSimpArgs false
set_option linter.unusedVariables false
open Go.RowKit Go.Maps

set_option maxRecDepth 100000 in
theorem run_make_sh {P : Program} (w : World) (t e : TypeId) (i : TypeInfo) (z : Value) (k : Nat) (ht : P.underlying t = some (.slice e)) (hi : P.info? e = some i) (hz : i.zero = some z) (hk : i.size = k)
    (kl kc : IntKind) (n : Nat) (h63 : (n : Int) ≤ 9223372036854775807) (hb : n * i.bytes ≤ 140737488355328) :
    (Instr.makeSlice t (.int kl n) (.int kc n)).run P w = .ok (.slice (some ⟨w.heap.size, 0, none⟩) n n) (w.alloc (.cells ((Array.range (n * k)).map (fun j => z.cells[j % z.cells.size]!)) e)) := by
  have wl : IntKind.i64.wrap (n : Int) = n := by rw [IntKind.wrap_i64]; omega
  have hb' : (i.bytes : Int) * n ≤ 140737488355328 := by rw [Int.mul_comm, ← Int.natCast_mul]; omega
  have n1 : ¬ ((n : Int) < 0) := by omega
  have n2 : ¬ (281474976710656 < (i.bytes : Int) * n) := by omega
  have n5 : ¬ (140737488355328 < n * i.bytes) := by omega
  subst hk
  by_cases hn : n * i.size = 0
  · simp [Instr.makeSlice, run_underlying ht, asInt, asIntOf, typeInfo, hi, sizeOf, wl, n1, n2, n5, hn, newRow, askRoom, roomBytes]
    rw [show Array.range 0 = (#[] : Array Nat) from by decide]; simp
  · simp [Instr.makeSlice, run_underlying ht, asInt, asIntOf, typeInfo, hi, sizeOf, zeroValue, hz, wl, n1, n2, n5, hn, newRow, askRoom, roomBytes]

section
variable {o : Oper} {S : St} {E : Env} {H : Hp} {B : Nat} {w : World}

theorem RepEs.of_chunks {k : Nat} {e : List Sh} {vs : List Value} (hr : RepL H E0 e vs) (hl : vs.length = k) (h1 : e.all Sh.one = true) :
    ∀ (n : Nat) (xs : List Value), xs.length = n * k → (∀ i, i < n → (xs.drop (i * k)).take k = vs) → RepEs H k (List.replicate n e) xs
  | 0, xs, hx, _ => by simp at hx; subst hx; exact .nil
  | n + 1, xs, hx, h => by
    have h0 := h 0 (by omega)
    simp at h0
    have hx' : xs.length = n * k + k := by rw [hx, Nat.add_mul]; omega
    have ih := RepEs.of_chunks hr hl h1 n (xs.drop k) (by simp; omega) (fun i hi => by
      have := h (i + 1) (by omega)
      rw [List.drop_drop]; rw [Nat.add_mul] at this
      rw [← this]; congr 2; omega)
    have e : xs = vs ++ xs.drop k := by rw [← h0, List.take_append_drop]
    rw [e, List.replicate_succ]
    exact .cons hr hl h1 ih

theorem zeros_rep {k n : Nat} {zc : Array Value} {zs : List ZSh} (hz : zc.toList = zs.map ZSh.val) (hk : zc.size = k) (hpos : 0 < k) :
    RepEs H k (List.replicate n (zs.map ZSh.sh)) ((Array.range (n * k)).map (fun j => zc[j % zc.size]!)).toList := by
  refine RepEs.of_chunks (zs_rep H E0 zs) (by rw [← hz]; simpa using hk) (zs_one zs) n _ (by simp) (fun i hi => ?_)
  rw [← hz]
  have hlen := Nat.mul_le_mul_right k (show i + 1 ≤ n from hi)
  rw [Nat.add_mul, Nat.one_mul] at hlen
  apply List.ext_getElem
  · simp; omega
  · intro j h1 h2
    simp at h1 h2
    have : (i * k + j) % k = j := by rw [Nat.add_comm, Nat.add_mul_mod_self_right]; exact Nat.mod_eq_of_lt (by omega)
    simp [hk, this, h2, getElem!_pos, hk ▸ h2]

theorem good_mks {t e i z n m kf} {zs : List ZSh} (ho : o.op = .makeSlice t n n) (hu : Try.prog.underlying t = some (.slice e)) (hi : Try.prog.info? e = some i) (hz : i.zero = some z) (hzs : z.cells.toList = zs.map ZSh.val) (hsz : z.cells.size = i.size) (hpos : 0 < i.size)
    (hn : S.opd n = some (.v (.int kf m))) (h0 : 0 ≤ m) (h1' : m ≤ 1000000) (hb : m.toNat * i.bytes ≤ 140737488355328) : Good o S E [n] (.sl i.size 0 (List.replicate m.toNat (zs.map ZSh.sh))) := good_val fun B a w H h1 h2 h3 => by
  have hR := h3.get (by simp) hn
  generalize hq : a.eval n = q at hR
  cases hR
  obtain ⟨N, rfl⟩ := Int.eq_ofNat_of_zero_le h0
  simp only [Int.toNat_natCast] at hb ⊢
  obtain ⟨q1, q2⟩ := rep_new (E := E) (e := e) (full := 0) h1 (zeros_rep (n := N) hzs hsz hpos) (by simp) (show N ≤ maxLen by unfold maxLen; omega)
  have hrun := run_make_sh (P := Try.prog) w t e i z i.size hu hi hz rfl kf kf N (by omega) hb
  exact ⟨.slice (some ⟨w.heap.size, 0, none⟩) N N, _, _, by simp [execOp, ho, hq, hrun], q1, q2⟩

theorem good_mkm {t kt : TypeId} (ho : o.op = .makeMap t none) : Good o S E [] (.mp kt fun _ => none) := good_val fun B a w H h1 h2 h3 => by
  refine ⟨.map (some w.heap.size), w.alloc (.map #[] 0), H.add w.heap.size (.map #[] 0), by simp [execOp, ho, run_makeMap], ((Grow.refl h1).alloc _).add (heap_alloc_new w _) (Nat.le_refl _), ?_⟩
  exact .mp (Hp.add_at _ _ _) MapOf.made (by omega) (fun i => by simp) (fun i s u h => by cases h)

theorem CapOk.full {g n c : Nat} (h : CapOk g n c) {es : List (List Sh)} (hg : g = 1 ∨ (g = 0 ∧ es = [])) (hn : es.length = n := by rfl) : c = n := by
  rcases hg with rfl | ⟨rfl, rfl⟩
  · exact h.1 rfl
  · simp at hn; subst hn; exact h.2 rfl rfl
/-- The cells of a slice that nobody writes. -/
theorem sl_cells {k full es a n c} (hs : Sub H w) (h : Rep H E (.sl k full es) (.slice a n c)) :
    ∃ xs, RepEs H k es xs ∧ es.length = n ∧ n ≤ c ∧ c ≤ maxLen ∧ CapOk full n c ∧ (a = none → c = 0) ∧ ∀ ad, a = some ad → ∀ j u, xs[j]? = some u → w.cell? (ad.add j) = some u := by
  cases h with
  | sl h1 h2 h3 h3' h4 h5 h6 =>
    refine ⟨_, h1, h2, h3, h3', h4, h5, fun ad e j u hu => ?_⟩
    subst e
    obtain ⟨b, o, cells, t, fr, e1, e2, e3⟩ := h6 j u hu
    cases e1
    rw [Addr.add_lit]
    simp [World.cell?, hs _ _ e2, e3]

/-- append(s, x..), s full. -/
theorem run_append_sh {P : Program} {k : Nat} (t ty e : TypeId) (i : TypeInfo) (z : Value) (ht : P.underlying t = some (.slice e)) (hi : P.info? e = some i) (hz : i.zero = some z) (hzs : z.cells.size = i.size) (hpos : 0 < i.size)
    {a1 : Option Addr} {n c : Nat} {xs : List Value} (hxl : xs.length = n * i.size) (hx1 : ∀ u ∈ xs, u.oneCell' = true) (hc : c = n) (ha : a1 = none → c = 0) (hxc : ∀ ad, a1 = some ad → ∀ j u, xs[j]? = some u → w.cell? (ad.add j) = some u)
    {ad : Addr} {m c2 : Nat} {ys : List Value} (hyl : ys.length = m * i.size) (hy1 : ∀ u ∈ ys, u.oneCell' = true) (hyc : ∀ j u, ys[j]? = some u → w.cell? (ad.add j) = some u) (hm : 0 < m) (b1 : n + m ≤ maxLen) (b2 : (n + m) * i.bytes ≤ 140737488355328) :
    ∃ v' w', (Builtin.append_ #[t, t] ty #[.slice a1 n c, .slice (some ad) m c2]).run P w = .ok v' w' ∧ w'.ownsRow w.heap.size e i.size v' (n + m) (xs ++ ys) ∧ w.grownBy w' none := by
  cases a1 with
  | none =>
    have hc0 := ha rfl
    have hn0 : n = 0 := by omega
    subst hn0; subst hc0
    have hxs : xs = [] := List.eq_nil_of_length_eq_zero (by simpa using hxl)
    subst hxs
    obtain ⟨v', w', hrun, r1, r2, _⟩ := run_append_own (P := P) w w.heap.size t ty e i z i.size i.bytes ht hi hz rfl rfl hzs hpos (.slice none 0 0) 0 [] (World.ownsRow_nil w _ e _) ad m c2 ys hyl hyc hy1 b1 b2 (Nat.le_refl _)
    exact ⟨v', w', hrun, r1, r2⟩
  | some b =>
    obtain ⟨v', w', hrun, r1, r2⟩ := run_append_arg_grows (P := P) w t ty e i z i.size i.bytes ht hi hz rfl rfl hzs hpos b n c xs hxl (hxc b rfl) ad m c2 ys hyl hyc (by omega) b1 b2
    exact ⟨v', w', hrun, r1, r2⟩

theorem good_app {t e i z x y xs ys k2 f2} (ho : o.op = .call ⟨.builtin .append, #[x, y], #[t, t]⟩) (ht : Try.prog.underlying t = some (.slice e)) (hi : Try.prog.info? e = some i) (hz : i.zero = some z) (hzs : z.cells.size = i.size) (hpos : 0 < i.size)
    {g1 : Nat} (hx : S.opd x = some (.sl i.size g1 xs)) (hg1 : g1 = 1 ∨ (g1 = 0 ∧ xs = [])) (hy : S.opd y = some (.sl k2 f2 ys)) (hk2 : k2 = i.size) (hm : xs = [] ∨ 0 < ys.length) (b1 : xs.length + ys.length ≤ 1000000) (b2 : (xs.length + ys.length) * i.bytes ≤ 140737488355328) : Good o S E [x, y] (.sl i.size 0 (xs ++ ys)) := good_val fun B a w H h1 h2 h3 => by
  subst hk2
  have hX := h3.get (by simp) hx
  have hY := h3.get (by simp) hy
  generalize hqx : a.eval x = qx at hX
  generalize hqy : a.eval y = qy at hY
  obtain ⟨a1, n, c, rfl⟩ : ∃ a n c, qx = .slice a n c := by cases hX; exact ⟨_, _, _, rfl⟩
  obtain ⟨a2, m, c2, rfl⟩ : ∃ a n c, qy = .slice a n c := by cases hY; exact ⟨_, _, _, rfl⟩
  obtain ⟨us, p1, p2, p3, _, p4, p5, p6⟩ := sl_cells h1 hX
  obtain ⟨vs, q1, q2, q3, _, q4, q5, q6⟩ := sl_cells h1 hY
  subst p2; subst q2
  by_cases hm' : 0 < ys.length
  case neg =>
    have he : xs = [] := hm.resolve_right hm'
    have hy0 : ys = [] := List.eq_nil_of_length_eq_zero (by omega)
    subst he; subst hy0
    have hc := p4.full hg1
    simp only [List.length_nil] at hc hqx hqy
    subst hc
    have hrun : (Builtin.append_ #[t, t] o.type #[.slice a1 0 0, .slice a2 0 c2]).run Try.prog w = .ok (.slice a1 0 0) w := by
      have hl : ∀ (x : Addr), (loadCells x 0).run Try.prog w = .ok #[] w := fun x => by simpa using run_loadCells_list (P := Try.prog) w x [] (by simp)
      cases a1 <;> cases a2 <;> simp [Builtin.append_, run_underlying ht, run_sizeOf hi, Builtin.lenOf, Builtin.firstCells, hl, storeCells]
    exact ⟨.slice a1 0 0, w, H, by simp [execOp, ho, resolve, hqx, hqy, invoke, builtin, hrun], Grow.refl h1, .sl .nil rfl (Nat.le_refl _) (Nat.zero_le _) ⟨fun _ => rfl, fun _ _ => rfl⟩ (fun _ => rfl) (fun j u hu => by simp at hu)⟩
  cases a2 with
  | none => have := q5 rfl; omega
  | some ad =>
    have hml : xs.length + ys.length ≤ maxLen := by unfold maxLen; omega
    obtain ⟨v', w', hrun, r1, r2⟩ := run_append_sh (P := Try.prog) (w := w) (k := i.size) t o.type e i z ht hi hz hzs hpos (c2 := c2) p1.length p1.one (p4.full hg1) p5 p6 q1.length q1.one (q6 ad rfl) hm' hml b2
    obtain ⟨hl, hv⟩ := r1
    rcases hv with ⟨_, h0⟩ | ⟨g, cp, cur, rfl, hb, hg, hn2, hcm, hsz, htk⟩
    · omega
    · have hg0 : H g = none := h1.none hb
      refine ⟨.slice (some ⟨g, 0, none⟩) (xs.length + ys.length) cp, w', H.add g (.cells cur e (0, 0)), ?_, ((Grow.refl h1).grown r2 (fun k e => by cases e)).add hg hb, ?_⟩
      · simp [execOp, ho, resolve, hqx, hqy, invoke, builtin, hrun]
      · refine .sl ((p1.append q1).mono (Hp.add_le hg0)) (by simp) hn2 hcm ⟨(fun h => (by cases h)), (fun _ h => (by omega))⟩ (fun h => by cases h) (fun j u hu => ⟨g, 0, cur, e, (0, 0), rfl, Hp.add_at _ _ _, ?_⟩)
        rw [← htk, List.getElem?_take] at hu
        split at hu
        · simpa using hu
        · cases hu

theorem intOf_spec {a : Act} {x : Operand} {n : Int} {xs : List Operand} (h3 : OpdOk S E H a xs) (hx : x ∈ xs) (h : ((S.opd x).bind fun j => match j with | .v (.int _ n) => some n | _ => none) = some n) : ∃ kf, a.eval x = .int kf n := by
  obtain ⟨y, hy, h⟩ := Option.bind_eq_some_iff.1 h
  have hR := h3.get hx hy
  cases y with
  | v q =>
    cases q with
    | int kf m => simp at h; subst h; generalize hq : a.eval x = q at hR; cases hR; exact ⟨kf, rfl⟩
    | _ => simp at h
  | _ => simp at h

theorem good_slc {t e i x lo hi' mx full es l h} (ho : o.op = .slice t x lo hi' mx) (ht : Try.prog.underlying t = some (.slice e)) (hi : Try.prog.info? e = some i) (hx : S.opd x = some (.sl i.size full es))
    (hl : S.optInt 0 lo = some l)
    (hh : S.optInt es.length hi' = some h)
    (c1 : 0 ≤ l) (c2 : l ≤ h) (c3 : h ≤ es.length) {f2 : Nat}
    (hm : (mx = none ∧ f2 = slG full lo hi') ∨ ∃ om, mx = some om ∧ ((S.opd om).bind fun j => match j with | .v (.int _ n) => some n | _ => none) = some h ∧ hi'.isSome = true ∧ f2 = 1) :
    Good o S E (x :: (lo.toList ++ hi'.toList ++ mx.toList)) (.sl i.size f2 ((es.take h.toNat).drop l.toNat)) := good_same fun B a w H h1 h2 h3 => by
  have hX := h3.get (by simp) hx
  generalize hqx : a.eval x = qx at hX
  cases hX with
  | sl hE hn hc hcm hf ha hat =>
    rename_i ao n c xs
    subst hn
    obtain ⟨L, rfl⟩ := Int.eq_ofNat_of_zero_le c1
    obtain ⟨Hh, rfl⟩ := Int.eq_ofNat_of_zero_le (show 0 ≤ h by omega)
    have c2' : L ≤ Hh := by omega
    have c3' : Hh ≤ es.length := by omega
    simp only [Int.toNat_natCast]
    -- the greatest index
    obtain ⟨M, hM1, hM2, hMf, hb⟩ : ∃ M, Hh ≤ M ∧ M ≤ c ∧ CapOk f2 (Hh - L) (M - L) ∧
        (Instr.sliceBounds true es.length c (lo.map a.eval) (hi'.map a.eval) (mx.map a.eval)).run Try.prog w = .ok (L, Hh, M) w := by
      have hlo : (lo = none ∧ L = 0) ∨ ∃ ol kf, lo = some ol ∧ a.eval ol = .int kf L := by
        cases lo with
        | none => simp [St.optInt] at hl; exact .inl ⟨rfl, by omega⟩
        | some ol => obtain ⟨kf, e⟩ := intOf_spec h3 (x := ol) (by simp) hl; exact .inr ⟨ol, kf, rfl, e⟩
      have k1 : L ≤ Hh := by omega
      have k2 : Hh ≤ c := by omega
      rcases hm with ⟨rfl, rfl⟩ | ⟨om, rfl, hmm, hs, rfl⟩
      · refine ⟨c, by omega, Nat.le_refl _, ?_, ?_⟩
        · cases hi' with
          | some oh => exact ⟨fun h => by simp [slG] at h, fun h => by simp [slG] at h⟩
          | none =>
            simp [St.optInt] at hh
            obtain rfl : es.length = Hh := by omega
            unfold slG
            simp only
            split
            · rename_i hg
              exact ⟨fun _ => by have := hf.1 hg; omega, fun h => by cases h⟩
            · rcases hlo with ⟨rfl, rfl⟩ | ⟨ol, kl, rfl, el⟩
              · simpa using hf
              · exact ⟨fun h => (by cases h), fun h => (by cases h)⟩
        · cases hi' with
          | none =>
            simp [St.optInt] at hh
            obtain rfl : es.length = Hh := by omega
            rcases hlo with ⟨rfl, rfl⟩ | ⟨ol, kl, rfl, el⟩
            · simp [Instr.sliceBounds]
            · simp [Instr.sliceBounds, el, Instr.sliceBound, asIntOf, k1]
          | some oh =>
            obtain ⟨kf, e⟩ := intOf_spec h3 (x := oh) (by simp) hh
            rcases hlo with ⟨rfl, rfl⟩ | ⟨ol, kl, rfl, el⟩
            · simp [Instr.sliceBounds, e, Instr.sliceBound, asIntOf, k2]
            · simp [Instr.sliceBounds, e, el, Instr.sliceBound, asIntOf, k1, k2]
      · refine ⟨Hh, Nat.le_refl _, by omega, ⟨fun _ => rfl, fun h => by cases h⟩, ?_⟩
        obtain ⟨kf, e⟩ := intOf_spec h3 (x := om) (by simp) hmm
        cases hi' with
        | none => cases hs
        | some oh =>
          obtain ⟨kf2, e2⟩ := intOf_spec h3 (x := oh) (by simp) hh
          rcases hlo with ⟨rfl, rfl⟩ | ⟨ol, kl, rfl, el⟩
          · simp [Instr.sliceBounds, e, e2, Instr.sliceBound, asIntOf, k2]
          · simp [Instr.sliceBounds, e, e2, el, Instr.sliceBound, asIntOf, k1, k2]
    refine ⟨.slice (if M = L then ao else ao.map (·.add (L * i.size))) (Hh - L) (M - L), ?_, ?_⟩
    · simp only [execOp, ho, hqx, Instr.sliceAt, Sem.run_bind, run_underlying ht, Result.andThen_ok, Instr.slice, hb, run_sizeOf hi, Sem.run_pure]
    · refine .sl ((hE.take Hh).drop L) (by simp; omega) (by omega) (by omega) hMf (fun hnone => ?_) (fun j u hu => ?_)
      · cases ao with
        | none => have := ha rfl; omega
        | some ad => split at hnone <;> cases hnone
      · rw [List.getElem?_drop, List.getElem?_take] at hu
        split at hu
        · rename_i hlt
          obtain ⟨b, o', cells, t', fr, e1, e2, e3⟩ := hat _ u hu
          subst e1
          have hne : M ≠ L := fun e => by
            subst e
            have : Hh = M := by omega
            subst this
            omega
          exact ⟨b, o' + L * i.size, cells, t', fr, by rw [if_neg hne]; simp [Addr.add_lit], e2, by rw [Nat.add_assoc]; exact e3⟩
        · cases hu
end
end Go.Proofs.Ytfcjkchpldfamaa
