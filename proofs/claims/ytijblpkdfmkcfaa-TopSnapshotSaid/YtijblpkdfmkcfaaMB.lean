/-
  The shadow machine: slicing, make, append; all told rightly.
  The shadow machine: every operation that writes nothing of one's own is told rightly.
  The shadow machine: what holds between a shadow state and a running function; one's own memory written, handed over.
  The shadow machine: what is handed over; the operations that write one's own memory are told rightly.
  The shadow machine: the operations that write one's own memory are told rightly.
  The shadow machine: make, append, copy, maps, in one's own memory; all operations told rightly.
  The shadow machine: going through a map that nobody writes any more.
  The shadow machine: lists of operations that are gone through in their order.
  The shadow machine: lists, guards, regions that draw their order.
  The shadow machine: the front of a region that draws its order.
  The shadow machine: a region whose orders are all gone through.
-/
import Derived.Test.YtijblpkdfmkcfaaMA
namespace Go.Proofs.Ytijblpkdfmkcfaa
set_option linter.unusedSimpArgs false
set_option linter.unusedVariables false
open Go.RowKit Go.Maps

set_option maxRecDepth 100000 in
theorem run_make_sh {P : Program} (w : World) (t e : TypeId) (i : TypeInfo) (z : Value) (k : Nat) (ht : P.underlying t = some (.slice e)) (hi : P.info? e = some i) (hz : i.zero = some z) (hk : i.size = k)
    (kl kc : IntKind) (n : Nat) (h63 : (n : Int) ≤ 9223372036854775807) (hb : n * i.bytes ≤ 140737488355328) :
    (Instr.makeSlice t (.int kl n) (.int kc n)).run P w = .ok (.slice (some ⟨w.heap.size, 0, none⟩) n n) (w.alloc (.cells ((Array.range (n * k)).map (fun j => z.cells[j % z.cells.size]!)) e)) := by
  have wl : IntKind.i64.wrap (n : Int) = n := by rw [IntKind.wrap_i64]; omega
  have hb' : (i.bytes : Int) * n ≤ 140737488355328 := by rw [Int.mul_comm, ← Int.natCast_mul]; omega
  have n1 : ¬ ((n : Int) < 0) := by omega
  have n2 : ¬ (281474976710656 < (i.bytes : Int) * n) := by omega
  have n5 : ¬ (140737488355328 < n * i.bytes) := by omega
  subst hk
  by_cases hn : n * i.size = 0
  · simp [Instr.makeSlice, run_underlying ht, asInt, asIntOf, typeInfo, hi, sizeOf, wl, n1, n2, n5, hn, newRow, askRoom, roomBytes]
    rw [show Array.range 0 = (#[] : Array Nat) from by decide]; simp
  · simp [Instr.makeSlice, run_underlying ht, asInt, asIntOf, typeInfo, hi, sizeOf, zeroValue, hz, wl, n1, n2, n5, hn, newRow, askRoom, roomBytes]

section
variable {o : Oper} {S : St} {E : Env} {H : Hp} {B : Nat} {w : World}

theorem RepEs.of_chunks {k : Nat} {e : List Sh} {vs : List Value} (hr : RepL H E0 e vs) (hl : vs.length = k) (h1 : e.all Sh.one = true) :
    ∀ (n : Nat) (xs : List Value), xs.length = n * k → (∀ i, i < n → (xs.drop (i * k)).take k = vs) → RepEs H k (List.replicate n e) xs
  | 0, xs, hx, _ => by simp at hx; subst hx; exact .nil
  | n + 1, xs, hx, h => by
    have h0 := h 0 (by omega)
    simp at h0
    have hx' : xs.length = n * k + k := by rw [hx, Nat.add_mul]; omega
    have ih := RepEs.of_chunks hr hl h1 n (xs.drop k) (by simp; omega) (fun i hi => by
      have := h (i + 1) (by omega)
      rw [List.drop_drop]; rw [Nat.add_mul] at this
      rw [← this]; congr 2; omega)
    have e : xs = vs ++ xs.drop k := by rw [← h0, List.take_append_drop]
    rw [e, List.replicate_succ]
    exact .cons hr hl h1 ih

theorem zeros_rep {k n : Nat} {zc : Array Value} {zs : List ZSh} (hz : zc.toList = zs.map ZSh.val) (hk : zc.size = k) (hpos : 0 < k) :
    RepEs H k (List.replicate n (zs.map ZSh.sh)) ((Array.range (n * k)).map (fun j => zc[j % zc.size]!)).toList := by
  refine RepEs.of_chunks (zs_rep H E0 zs) (by rw [← hz]; simpa using hk) (zs_one zs) n _ (by simp) (fun i hi => ?_)
  rw [← hz]
  have hlen := Nat.mul_le_mul_right k (show i + 1 ≤ n from hi)
  rw [Nat.add_mul, Nat.one_mul] at hlen
  apply List.ext_getElem
  · simp; omega
  · intro j h1 h2
    simp at h1 h2
    have : (i * k + j) % k = j := by rw [Nat.add_comm, Nat.add_mul_mod_self_right]; exact Nat.mod_eq_of_lt (by omega)
    simp [hk, this, h2, getElem!_pos, hk ▸ h2]

theorem good_mks {t e i z n m kf} {zs : List ZSh} (ho : o.op = .makeSlice t n n) (hu : Try.prog.underlying t = some (.slice e)) (hi : Try.prog.info? e = some i) (hz : i.zero = some z) (hzs : z.cells.toList = zs.map ZSh.val) (hsz : z.cells.size = i.size) (hpos : 0 < i.size)
    (hn : S.opd n = some (.v (.int kf m))) (h0 : 0 ≤ m) (h1' : m ≤ 1000000) (hb : m.toNat * i.bytes ≤ 140737488355328) : Good o S E [n] (.sl i.size 0 (List.replicate m.toNat (zs.map ZSh.sh))) := good_val fun B a w H h1 h2 h3 => by
  have hR := h3.get (by simp) hn
  generalize hq : a.eval n = q at hR
  cases hR
  obtain ⟨N, rfl⟩ := Int.eq_ofNat_of_zero_le h0
  simp only [Int.toNat_natCast] at hb ⊢
  obtain ⟨q1, q2⟩ := rep_new (E := E) (e := e) (full := 0) h1 (zeros_rep (n := N) hzs hsz hpos) (by simp) (show N ≤ maxLen by unfold maxLen; omega)
  have hrun := run_make_sh (P := Try.prog) w t e i z i.size hu hi hz rfl kf kf N (by omega) hb
  exact ⟨.slice (some ⟨w.heap.size, 0, none⟩) N N, _, _, by simp [execOp, ho, hq, hrun], q1, q2⟩

theorem good_mkm {t kt : TypeId} (ho : o.op = .makeMap t none) : Good o S E [] (.mp kt fun _ => none) := good_val fun B a w H h1 h2 h3 => by
  refine ⟨.map (some w.heap.size), w.alloc (.map #[] 0), H.add w.heap.size (.map #[] 0), by simp [execOp, ho, run_makeMap], ((Grow.refl h1).alloc _).add (heap_alloc_new w _) (Nat.le_refl _), ?_⟩
  exact .mp (Hp.add_at _ _ _) MapOf.made (by omega) (fun i => by simp) (fun i s u h => by cases h)

theorem CapOk.full {g n c : Nat} (h : CapOk g n c) {es : List (List Sh)} (hg : g = 1 ∨ (g = 0 ∧ es = [])) (hn : es.length = n := by rfl) : c = n := by
  rcases hg with rfl | ⟨rfl, rfl⟩
  · exact h.1 rfl
  · simp at hn; subst hn; exact h.2 rfl rfl
/-- The cells of a slice that nobody writes. -/
theorem sl_cells {k full es a n c} (hs : Sub H w) (h : Rep H E (.sl k full es) (.slice a n c)) :
    ∃ xs, RepEs H k es xs ∧ es.length = n ∧ n ≤ c ∧ c ≤ maxLen ∧ CapOk full n c ∧ (a = none → c = 0) ∧ ∀ ad, a = some ad → ∀ j u, xs[j]? = some u → w.cell? (ad.add j) = some u := by
  cases h with
  | sl h1 h2 h3 h3' h4 h5 h6 =>
    refine ⟨_, h1, h2, h3, h3', h4, h5, fun ad e j u hu => ?_⟩
    subst e
    obtain ⟨b, o, cells, t, fr, e1, e2, e3⟩ := h6 j u hu
    cases e1
    rw [Addr.add_lit]
    simp [World.cell?, hs _ _ e2, e3]

/-- append(s, x..), s full. -/
theorem run_append_sh {P : Program} {k : Nat} (t ty e : TypeId) (i : TypeInfo) (z : Value) (ht : P.underlying t = some (.slice e)) (hi : P.info? e = some i) (hz : i.zero = some z) (hzs : z.cells.size = i.size) (hpos : 0 < i.size)
    {a1 : Option Addr} {n c : Nat} {xs : List Value} (hxl : xs.length = n * i.size) (hx1 : ∀ u ∈ xs, u.oneCell' = true) (hc : c = n) (ha : a1 = none → c = 0) (hxc : ∀ ad, a1 = some ad → ∀ j u, xs[j]? = some u → w.cell? (ad.add j) = some u)
    {ad : Addr} {m c2 : Nat} {ys : List Value} (hyl : ys.length = m * i.size) (hy1 : ∀ u ∈ ys, u.oneCell' = true) (hyc : ∀ j u, ys[j]? = some u → w.cell? (ad.add j) = some u) (hm : 0 < m) (b1 : n + m ≤ maxLen) (b2 : (n + m) * i.bytes ≤ 140737488355328) :
    ∃ v' w', (Builtin.append_ #[t, t] ty #[.slice a1 n c, .slice (some ad) m c2]).run P w = .ok v' w' ∧ w'.ownsRow w.heap.size e i.size v' (n + m) (xs ++ ys) ∧ w.grownBy w' none := by
  cases a1 with
  | none =>
    have hc0 := ha rfl
    have hn0 : n = 0 := by omega
    subst hn0; subst hc0
    have hxs : xs = [] := List.eq_nil_of_length_eq_zero (by simpa using hxl)
    subst hxs
    obtain ⟨v', w', hrun, r1, r2, _⟩ := run_append_own (P := P) w w.heap.size t ty e i z i.size i.bytes ht hi hz rfl rfl hzs hpos (.slice none 0 0) 0 [] (World.ownsRow_nil w _ e _) ad m c2 ys hyl hyc hy1 b1 b2 (Nat.le_refl _)
    exact ⟨v', w', hrun, r1, r2⟩
  | some b =>
    obtain ⟨v', w', hrun, r1, r2⟩ := run_append_arg_grows (P := P) w t ty e i z i.size i.bytes ht hi hz rfl rfl hzs hpos b n c xs hxl (hxc b rfl) ad m c2 ys hyl hyc (by omega) b1 b2
    exact ⟨v', w', hrun, r1, r2⟩

theorem good_app {t e i z x y xs ys k2 f2} (ho : o.op = .call ⟨.builtin .append, #[x, y], #[t, t]⟩) (ht : Try.prog.underlying t = some (.slice e)) (hi : Try.prog.info? e = some i) (hz : i.zero = some z) (hzs : z.cells.size = i.size) (hpos : 0 < i.size)
    {g1 : Nat} (hx : S.opd x = some (.sl i.size g1 xs)) (hg1 : g1 = 1 ∨ (g1 = 0 ∧ xs = [])) (hy : S.opd y = some (.sl k2 f2 ys)) (hk2 : k2 = i.size) (hm : xs = [] ∨ 0 < ys.length) (b1 : xs.length + ys.length ≤ 140737488355328) (b2 : (xs.length + ys.length) * i.bytes ≤ 140737488355328) : Good o S E [x, y] (.sl i.size 0 (xs ++ ys)) := good_val fun B a w H h1 h2 h3 => by
  subst hk2
  have hX := h3.get (by simp) hx
  have hY := h3.get (by simp) hy
  generalize hqx : a.eval x = qx at hX
  generalize hqy : a.eval y = qy at hY
  obtain ⟨a1, n, c, rfl⟩ : ∃ a n c, qx = .slice a n c := by cases hX; exact ⟨_, _, _, rfl⟩
  obtain ⟨a2, m, c2, rfl⟩ : ∃ a n c, qy = .slice a n c := by cases hY; exact ⟨_, _, _, rfl⟩
  obtain ⟨us, p1, p2, p3, _, p4, p5, p6⟩ := sl_cells h1 hX
  obtain ⟨vs, q1, q2, q3, _, q4, q5, q6⟩ := sl_cells h1 hY
  subst p2; subst q2
  by_cases hm' : 0 < ys.length
  case neg =>
    have he : xs = [] := hm.resolve_right hm'
    have hy0 : ys = [] := List.eq_nil_of_length_eq_zero (by omega)
    subst he; subst hy0
    have hc := p4.full hg1
    simp only [List.length_nil] at hc hqx hqy
    subst hc
    have hrun : (Builtin.append_ #[t, t] o.type #[.slice a1 0 0, .slice a2 0 c2]).run Try.prog w = .ok (.slice a1 0 0) w := by
      have hl : ∀ (x : Addr), (loadCells x 0).run Try.prog w = .ok #[] w := fun x => by simpa using run_loadCells_list (P := Try.prog) w x [] (by simp)
      cases a1 <;> cases a2 <;> simp [Builtin.append_, run_underlying ht, run_sizeOf hi, Builtin.lenOf, Builtin.firstCells, hl, storeCells]
    exact ⟨.slice a1 0 0, w, H, by simp [execOp, ho, resolve, hqx, hqy, invoke, builtin, hrun], Grow.refl h1, .sl .nil rfl (Nat.le_refl _) (Nat.zero_le _) ⟨fun _ => rfl, fun _ _ => rfl⟩ (fun _ => rfl) (fun j u hu => by simp at hu)⟩
  cases a2 with
  | none => have := q5 rfl; omega
  | some ad =>
    have hml : xs.length + ys.length ≤ maxLen := by unfold maxLen; omega
    obtain ⟨v', w', hrun, r1, r2⟩ := run_append_sh (P := Try.prog) (w := w) (k := i.size) t o.type e i z ht hi hz hzs hpos (c2 := c2) p1.length p1.one (p4.full hg1) p5 p6 q1.length q1.one (q6 ad rfl) hm' hml b2
    obtain ⟨hl, hv⟩ := r1
    rcases hv with ⟨_, h0⟩ | ⟨g, cp, cur, rfl, hb, hg, hn2, hcm, hsz, htk⟩
    · omega
    · have hg0 : H g = none := h1.none hb
      refine ⟨.slice (some ⟨g, 0, none⟩) (xs.length + ys.length) cp, w', H.add g (.cells cur e (0, 0)), ?_, ((Grow.refl h1).grown r2 (fun k e => by cases e)).add hg hb, ?_⟩
      · simp [execOp, ho, resolve, hqx, hqy, invoke, builtin, hrun]
      · refine .sl ((p1.append q1).mono (Hp.add_le hg0)) (by simp) hn2 hcm ⟨(fun h => (by cases h)), (fun _ h => (by omega))⟩ (fun h => by cases h) (fun j u hu => ⟨g, 0, cur, e, (0, 0), rfl, Hp.add_at _ _ _, ?_⟩)
        rw [← htk, List.getElem?_take] at hu
        split at hu
        · simpa using hu
        · cases hu

theorem intOf_spec {a : Act} {x : Operand} {n : Int} {xs : List Operand} (h3 : OpdOk S E H a xs) (hx : x ∈ xs) (h : ((S.opd x).bind fun j => match j with | .v (.int _ n) => some n | _ => none) = some n) : ∃ kf, a.eval x = .int kf n := by
  obtain ⟨y, hy, h⟩ := Option.bind_eq_some_iff.1 h
  have hR := h3.get hx hy
  cases y with
  | v q =>
    cases q with
    | int kf m => simp at h; subst h; generalize hq : a.eval x = q at hR; cases hR; exact ⟨kf, rfl⟩
    | _ => simp at h
  | _ => simp at h

theorem good_slc {t e i x lo hi' mx full es l h} (ho : o.op = .slice t x lo hi' mx) (ht : Try.prog.underlying t = some (.slice e)) (hi : Try.prog.info? e = some i) (hx : S.opd x = some (.sl i.size full es))
    (hl : S.optInt 0 lo = some l)
    (hh : S.optInt es.length hi' = some h)
    (c1 : 0 ≤ l) (c2 : l ≤ h) (c3 : h ≤ es.length) {f2 : Nat}
    (hm : (mx = none ∧ f2 = slG full lo hi') ∨ ∃ om, mx = some om ∧ ((S.opd om).bind fun j => match j with | .v (.int _ n) => some n | _ => none) = some h ∧ hi'.isSome = true ∧ f2 = 1) :
    Good o S E (x :: (lo.toList ++ hi'.toList ++ mx.toList)) (.sl i.size f2 ((es.take h.toNat).drop l.toNat)) := good_same fun B a w H h1 h2 h3 => by
  have hX := h3.get (by simp) hx
  generalize hqx : a.eval x = qx at hX
  cases hX with
  | sl hE hn hc hcm hf ha hat =>
    rename_i ao n c xs
    subst hn
    obtain ⟨L, rfl⟩ := Int.eq_ofNat_of_zero_le c1
    obtain ⟨Hh, rfl⟩ := Int.eq_ofNat_of_zero_le (show 0 ≤ h by omega)
    have c2' : L ≤ Hh := by omega
    have c3' : Hh ≤ es.length := by omega
    simp only [Int.toNat_natCast]
    -- the greatest index
    obtain ⟨M, hM1, hM2, hMf, hb⟩ : ∃ M, Hh ≤ M ∧ M ≤ c ∧ CapOk f2 (Hh - L) (M - L) ∧
        (Instr.sliceBounds true es.length c (lo.map a.eval) (hi'.map a.eval) (mx.map a.eval)).run Try.prog w = .ok (L, Hh, M) w := by
      have hlo : (lo = none ∧ L = 0) ∨ ∃ ol kf, lo = some ol ∧ a.eval ol = .int kf L := by
        cases lo with
        | none => simp [St.optInt] at hl; exact .inl ⟨rfl, by omega⟩
        | some ol => obtain ⟨kf, e⟩ := intOf_spec h3 (x := ol) (by simp) hl; exact .inr ⟨ol, kf, rfl, e⟩
      have k1 : L ≤ Hh := by omega
      have k2 : Hh ≤ c := by omega
      rcases hm with ⟨rfl, rfl⟩ | ⟨om, rfl, hmm, hs, rfl⟩
      · refine ⟨c, by omega, Nat.le_refl _, ?_, ?_⟩
        · cases hi' with
          | some oh => exact ⟨fun h => by simp [slG] at h, fun h => by simp [slG] at h⟩
          | none =>
            simp [St.optInt] at hh
            obtain rfl : es.length = Hh := by omega
            unfold slG
            simp only
            split
            · rename_i hg
              exact ⟨fun _ => by have := hf.1 hg; omega, fun h => by cases h⟩
            · rcases hlo with ⟨rfl, rfl⟩ | ⟨ol, kl, rfl, el⟩
              · simpa using hf
              · exact ⟨fun h => (by cases h), fun h => (by cases h)⟩
        · cases hi' with
          | none =>
            simp [St.optInt] at hh
            obtain rfl : es.length = Hh := by omega
            rcases hlo with ⟨rfl, rfl⟩ | ⟨ol, kl, rfl, el⟩
            · simp [Instr.sliceBounds]
            · simp [Instr.sliceBounds, el, Instr.sliceBound, asIntOf, k1]
          | some oh =>
            obtain ⟨kf, e⟩ := intOf_spec h3 (x := oh) (by simp) hh
            rcases hlo with ⟨rfl, rfl⟩ | ⟨ol, kl, rfl, el⟩
            · simp [Instr.sliceBounds, e, Instr.sliceBound, asIntOf, k2]
            · simp [Instr.sliceBounds, e, el, Instr.sliceBound, asIntOf, k1, k2]
      · refine ⟨Hh, Nat.le_refl _, by omega, ⟨fun _ => rfl, fun h => by cases h⟩, ?_⟩
        obtain ⟨kf, e⟩ := intOf_spec h3 (x := om) (by simp) hmm
        cases hi' with
        | none => cases hs
        | some oh =>
          obtain ⟨kf2, e2⟩ := intOf_spec h3 (x := oh) (by simp) hh
          rcases hlo with ⟨rfl, rfl⟩ | ⟨ol, kl, rfl, el⟩
          · simp [Instr.sliceBounds, e, e2, Instr.sliceBound, asIntOf, k2]
          · simp [Instr.sliceBounds, e, e2, el, Instr.sliceBound, asIntOf, k1, k2]
    refine ⟨.slice (if M = L then ao else ao.map (·.add (L * i.size))) (Hh - L) (M - L), ?_, ?_⟩
    · simp only [execOp, ho, hqx, Instr.sliceAt, Sem.run_bind, run_underlying ht, Result.andThen_ok, Instr.slice, hb, run_sizeOf hi, Sem.run_pure]
    · refine .sl ((hE.take Hh).drop L) (by simp; omega) (by omega) (by omega) hMf (fun hnone => ?_) (fun j u hu => ?_)
      · cases ao with
        | none => have := ha rfl; omega
        | some ad => split at hnone <;> cases hnone
      · rw [List.getElem?_drop, List.getElem?_take] at hu
        split at hu
        · rename_i hlt
          obtain ⟨b, o', cells, t', fr, e1, e2, e3⟩ := hat _ u hu
          subst e1
          have hne : M ≠ L := fun e => by
            subst e
            have : Hh = M := by omega
            subst this
            omega
          exact ⟨b, o' + L * i.size, cells, t', fr, by rw [if_neg hne]; simp [Addr.add_lit], e2, by rw [Nat.add_assoc]; exact e3⟩
        · cases hu
end
end Go.Proofs.Ytijblpkdfmkcfaa
namespace Go.Proofs.Ytijblpkdfmkcfaa
set_option linter.unusedSimpArgs false
set_option linter.unusedVariables false
open Go.RowKit Go.Maps

theorem evA_sound {o : Oper} {S : St} {E : Env} {op : Op} {so : SOp} {k : Sh → Prop} (ho : o.op = op) (hm : OpM op so) (h : evA so S k) : ∃ s, k s ∧ Good o S E so.opds s := by
  cases hm with
  | mv => obtain ⟨s, hs, hk⟩ := oB_elim h; exact ⟨s, hk, good_mv (.inl ho) hs⟩
  | asg => obtain ⟨s, hs, hk⟩ := oB_elim h; exact ⟨s, hk, good_mv (.inr ho) hs⟩
  | ldA h1 h2 h3 =>
    obtain ⟨s, hs, h⟩ := oB_elim h
    obtain ⟨⟨cs, off⟩, ha, h⟩ := oB_elim h
    exact good_ld ho h1 (.inl ⟨h2, _, h3, rfl⟩) hs ha h
  | ld1 h1 h2 =>
    obtain ⟨s, hs, h⟩ := oB_elim h
    obtain ⟨⟨cs, off⟩, ha, h⟩ := oB_elim h
    exact good_ld ho h1 (.inr ⟨h2, rfl⟩) hs ha h
  | fa h1 h2 h3 h4 =>
    obtain ⟨s, hs, h⟩ := oB_elim h
    cases s with
    | ptr i idx o' => exact ⟨_, h, good_fa ho h1 h2 h3 h4 hs (.inl ⟨_, _, _, rfl, rfl⟩)⟩
    | fp e o' => exact ⟨_, h, good_fa ho h1 h2 h3 h4 hs (.inr ⟨_, _, rfl, rfl⟩)⟩
    | _ => exact h.elim
  | fldA h1 h2 h3 h4 h5 =>
    obtain ⟨s, hs, h⟩ := oB_elim h
    cases s with
    | agg cs => exact good_fld ho h1 h2 h4 (.inl ⟨h5, _, h3, rfl⟩) hs h
    | _ => exact h.elim
  | fld1 h1 h2 h4 h5 =>
    obtain ⟨s, hs, h⟩ := oB_elim h
    cases s with
    | agg cs => exact good_fld ho h1 h2 h4 (.inr ⟨h5, rfl⟩) hs h
    | _ => exact h.elim
  | ixa h1 h2 h3 =>
    obtain ⟨s, hs, h⟩ := oB_elim h
    obtain ⟨j, hj, h⟩ := oB_elim h
    cases s with
    | sl k' full es =>
      cases j with
      | v q =>
        cases q with
        | int kf n =>
          obtain ⟨rfl, h0, h⟩ := h
          obtain ⟨e, he, h⟩ := oB_elim h
          exact ⟨_, h, good_ixa1 ho h1 h2 h3 hs hj h0 he⟩
        | _ => exact h.elim
      | _ => exact h.elim
    | own ri =>
      cases j with
      | v q =>
        cases q with
        | int kf n =>
          simp only at h
          split at h
          · rename_i et k' es hg
            obtain ⟨rfl, h0, hl, h⟩ := h
            exact ⟨_, h, good_ixa2 ho h1 h2 hs hg hj h0 hl⟩
          · rename_i et cs hg
            obtain ⟨hk1, h0, hl, h⟩ := h
            exact ⟨_, h, good_ixa3 ho h1 h2 hk1 hs hg hj h0 hl⟩
          · exact h.elim
        | _ => exact h.elim
      | _ => exact h.elim
    | _ => exact h.elim
  | ixp h1 h2 =>
    obtain ⟨s, hs, h⟩ := oB_elim h
    obtain ⟨j, hj, h⟩ := oB_elim h
    cases s with
    | ptr i idx o' =>
      cases j with
      | v q =>
        cases q with
        | int kf n => obtain ⟨h0, hl, h⟩ := h; exact ⟨_, h, good_ixp ho h1 h2 hs hj h0 hl (.inl ⟨_, _, _, rfl, rfl⟩)⟩
        | _ => exact h.elim
      | _ => exact h.elim
    | fp e o' =>
      cases j with
      | v q =>
        cases q with
        | int kf n => obtain ⟨h0, hl, h⟩ := h; exact ⟨_, h, good_ixp ho h1 h2 hs hj h0 hl (.inr ⟨_, _, rfl, rfl⟩)⟩
        | _ => exact h.elim
      | _ => exact h.elim
    | _ => exact h.elim
  | bld h1 h2 h3 h4 h5 => obtain ⟨cs, hc, h⟩ := oB_elim h; exact ⟨_, h, good_bld ho h1 h2 h3 h4 h5 hc⟩
  | bso => exact h.elim
  | bsl h1 h2 h3 h4 h5 h6 h7 => obtain ⟨cs, hc, _, h⟩ := oB_elim h; exact ⟨_, h, good_bsl ho h1 h2 h3 h4 h5 h6 h7 hc⟩
  | @slc t e i x lo hi mx h1 h2 =>
    obtain ⟨s, hs, h⟩ := oB_elim h
    cases s with
    | sl kk full es =>
      obtain ⟨rfl, h⟩ := h
      obtain ⟨l, hl, h⟩ := oB_elim h
      obtain ⟨hh, hhh, h⟩ := oB_elim h
      obtain ⟨c1, c2, c3, h⟩ := h
      cases mx with
      | none => exact ⟨_, h, good_slc ho h1 h2 hs hl hhh c1 c2 c3 (.inl ⟨rfl, rfl⟩)⟩
      | some om =>
        obtain ⟨j, hj, h⟩ := oB_elim h
        cases j with
        | v q =>
          cases q with
          | int kf n =>
            obtain ⟨rfl, e2, h⟩ := h
            exact ⟨_, h, good_slc ho h1 h2 hs hl hhh c1 c2 c3 (.inr ⟨om, rfl, by simp [hj], e2, rfl⟩)⟩
          | _ => exact h.elim
        | _ => exact h.elim
    | _ => exact h.elim
  | len h1 =>
    obtain ⟨s, hs, h⟩ := oB_elim h
    cases s with
    | sl kk full es => exact ⟨_, h, good_len ho h1 hs (.inl ⟨_, _, _, rfl, rfl⟩)⟩
    | own i =>
      simp only at h
      split at h
      · rename_i et k' es hg; exact ⟨_, h, good_len ho h1 hs (.inr (.inl ⟨_, _, _, _, rfl, hg, rfl⟩))⟩
      · rename_i et cs hg; exact ⟨_, h, good_len ho h1 hs (.inr (.inr ⟨_, _, _, rfl, hg, rfl⟩))⟩
      · exact h.elim
    | _ => exact h.elim
  | lkp h1 h2 h3 h4 =>
    obtain ⟨s, hs, h⟩ := oB_elim h
    obtain ⟨j, hj, h⟩ := oB_elim h
    cases s with
    | mp kt' f =>
      cases j with
      | v q =>
        cases q with
        | int kf n =>
          cases kf with
          | i64 => obtain ⟨rfl, n1, n2, h⟩ := h; exact ⟨_, h, good_lkp ho h1 h2 h3 h4 hs hj n1 n2⟩
          | _ => exact h.elim
        | _ => exact h.elim
      | _ => exact h.elim
    | own ri =>
      cases j with
      | v q =>
        cases q with
        | int kf n =>
          cases kf with
          | i64 =>
            simp only at h
            split at h
            · rename_i kt' M f hg
              obtain ⟨rfl, n1, n2, h⟩ := h
              exact ⟨_, h, good_lkp2 ho h1 h2 h3 h4 hs hg hj n1 n2⟩
            · rename_i q kt' M f hg
              obtain ⟨rfl, n1, n2, h⟩ := h
              exact ⟨_, h, good_lkp3 ho h1 h2 h3 h4 hs hg hj n1 n2⟩
            · exact h.elim
          | _ => exact h.elim
        | _ => exact h.elim
      | _ => exact h.elim
    | _ => exact h.elim
  | ext =>
    obtain ⟨s, hs, h⟩ := oB_elim h
    cases s with
    | tup cs => obtain ⟨r, hr, h⟩ := oB_elim h; exact ⟨_, h, good_ext ho hs hr⟩
    | _ => exact h.elim
  | bin =>
    obtain ⟨s, hs, h⟩ := oB_elim h
    obtain ⟨j, hj, h⟩ := oB_elim h
    cases s with
    | v p =>
      cases j with
      | v q =>
        cases p with
        | int k1 x1 =>
          cases q with
          | int k2 y1 => obtain ⟨rfl, h⟩ := h; obtain ⟨r, hr, h⟩ := oB_elim h; exact ⟨_, h, good_bin ho hs hj hr⟩
          | _ => exact h.elim
        | _ => exact h.elim
      | _ => cases p <;> exact h.elim
    | _ => exact h.elim
  | eqv =>
    obtain ⟨s, hs, h⟩ := oB_elim h
    obtain ⟨j, hj, b, hb, h⟩ := oB_elim h
    exact ⟨_, h, good_eqv (neg := false) ho hs hj hb⟩
  | neqv =>
    obtain ⟨s, hs, h⟩ := oB_elim h
    obtain ⟨j, hj, b, hb, h⟩ := oB_elim h
    exact ⟨_, h, good_eqv (neg := true) ho hs hj hb⟩
  | not =>
    obtain ⟨s, hs, h⟩ := oB_elim h
    cases s with
    | v q => cases q with
      | bool b => exact ⟨_, h, good_not ho hs⟩
      | _ => exact h.elim
    | _ => exact h.elim
  | cnv h1 h2 =>
    obtain ⟨s, hs, h⟩ := oB_elim h
    cases s with
    | v q => cases q with
      | int kf n => exact ⟨_, h, good_cnv ho h1 h2 hs⟩
      | _ => exact h.elim
    | _ => exact h.elim
  | call h1 h2 h3 =>
    obtain ⟨l, hl, r, hr, h⟩ := oB_elim h
    exact ⟨_, h, good_call ho (callFunc_enter h1 h2 h3) hl hr⟩
  | gen =>
    obtain ⟨l, hl, r, hr, h⟩ := oB_elim h
    exact ⟨_, h, good_gen ho hl hr⟩
  | callv =>
    obtain ⟨s, hs, h⟩ := oB_elim h
    obtain ⟨l, hl, h⟩ := oB_elim h
    cases s with
    | fn f first cap =>
      cases f with
      | func f => obtain ⟨hE, r, hr, h⟩ := h; exact ⟨_, h, good_callv ho hs hE hl hr⟩
      | method name =>
        cases first with
        | nil => exact h.elim
        | cons y first =>
          cases y with
          | ifc t s => obtain ⟨f, hm, hE, r, hr, h⟩ := h; exact ⟨_, h, good_callm ho hs hm hE hl hr⟩
          | _ => exact h.elim
      | _ => exact h.elim
    | _ => exact h.elim
  | mkf =>
    obtain ⟨a, ha, h⟩ := oB_elim h
    obtain ⟨b, hb, h⟩ := oB_elim h
    exact ⟨_, h, good_mkf ho ha hb⟩
  | mki h1 h2 => obtain ⟨s, hs, h⟩ := oB_elim h; exact ⟨_, h, good_mki ho h1 h2 hs⟩
  | pick =>
    obtain ⟨s, hs, h⟩ := oB_elim h
    cases s with
    | v q => cases q with
      | bool b => obtain ⟨r, hr, h⟩ := oB_elim h; obtain ⟨h1, h2⟩ := pickO_spec hr; exact ⟨_, h, good_pick ho hs h1 h2⟩
      | _ => exact h.elim
    | _ => exact h.elim
  | max =>
    obtain ⟨s, hs, h⟩ := oB_elim h
    obtain ⟨j, hj, h⟩ := oB_elim h
    cases s with
    | v p =>
      cases j with
      | v q =>
        cases p with
        | int k1 x1 =>
          cases q with
          | int k2 y1 => obtain ⟨rfl, h⟩ := h; exact ⟨_, h, good_mm (mx := true) ho hs hj⟩
          | _ => exact h.elim
        | _ => exact h.elim
      | _ => cases p <;> exact h.elim
    | _ => exact h.elim
  | min =>
    obtain ⟨s, hs, h⟩ := oB_elim h
    obtain ⟨j, hj, h⟩ := oB_elim h
    cases s with
    | v p =>
      cases j with
      | v q =>
        cases p with
        | int k1 x1 =>
          cases q with
          | int k2 y1 => obtain ⟨rfl, h⟩ := h; exact ⟨_, h, good_mm (mx := false) ho hs hj⟩
          | _ => exact h.elim
        | _ => exact h.elim
      | _ => cases p <;> exact h.elim
    | _ => exact h.elim
  | nck =>
    obtain ⟨s, hs, h⟩ := oB_elim h
    cases s with
    | ptr i idx o' => exact ⟨_, h, good_nck ho hs (.inl ⟨_, _, _, rfl⟩)⟩
    | fp e o' => exact ⟨_, h, good_nck ho hs (.inr (.inl ⟨_, _, rfl⟩))⟩
    | fn f a b => cases f with
      | func f => exact ⟨_, h, good_nck ho hs (.inr (.inr (.inl ⟨_, _, _, rfl⟩)))⟩
      | _ => exact h.elim
    | ifc t y => exact ⟨_, h, good_nck ho hs (.inr (.inr (.inr ⟨_, _, rfl⟩)))⟩
    | _ => exact h.elim
  | mks h1 h2 h3 h4 h5 h6 =>
    obtain ⟨s, hs, h⟩ := oB_elim h
    cases s with
    | v q => cases q with
      | int kf m => obtain ⟨a1, a2, a3, h⟩ := h; exact ⟨_, h, good_mks ho h1 h2 h3 h4 h5 h6 hs a1 a2 a3⟩
      | _ => exact h.elim
    | _ => exact h.elim
  | mkm h1 h2 => exact ⟨_, h, good_mkm ho⟩
  | app h1 h2 h3 h4 h5 =>
    obtain ⟨s, hs, h⟩ := oB_elim h
    obtain ⟨j, hj, h⟩ := oB_elim h
    cases s with
    | sl k1 full xs =>
      cases j with
      | sl k2 f2 ys => obtain ⟨rfl, rfl, bg, b0, b1, b2, h⟩ := h; exact ⟨_, h, good_app ho h1 h2 h3 h4 h5 hs bg hj rfl b0 b1 b2⟩
      | _ => exact h.elim
    | _ => exact h.elim
  | _ => exact h.elim
end Go.Proofs.Ytijblpkdfmkcfaa
namespace Go.Proofs.Ytijblpkdfmkcfaa
set_option linter.unusedSimpArgs false
set_option linter.unusedVariables false
open Go.RowKit Go.Maps

section
variable {N : Nat} {w0 w w' : World} {H0 H H' : Hp} {S : St} {E : Env} {a : Act}

theorem Sim.sub (h : Sim N w0 H0 S E a w H) : Sub H w := h.grow.sub
theorem Sim.opds (h : Sim N w0 H0 S E a w H) (xs : List Operand) : OpdOk S E H a xs := fun x _ y hy => opd_of h.sub.glob h.ob (fun t y _ ht => h.tm t y ht) hy
theorem eval_put_self {a : Act} {d : Nat} {v : Value} (h : d < a.tmps.size) : (a.put (some d) v).eval (.tmp d) = v := by simp [Act.put, Act.eval, h]
theorem eval_put_other {a : Act} {d t : Nat} {v : Value} (h : d ≠ t) : (a.put (some d) v).eval (.tmp t) = a.eval (.tmp t) := by simp [Act.put, Act.eval, Array.getElem?_setIfInBounds_ne h]
theorem put_size {a : Act} {d : Option Nat} {v : Value} : (a.put d v).tmps.size = a.tmps.size := by cases d <;> simp [Act.put]
theorem put_defers {a : Act} {d : Option Nat} {v : Value} : (a.put d v).defers = a.defers := by cases d <;> simp [Act.put]

/-- A slot gets a value. -/
theorem Sim.put (h : Sim N w0 H0 S E a w H) {d : Option Nat} {s : Sh} {v : Value} (hr : Rep H E s v) (hd : ∀ t, d = some t → t < N) : Sim N w0 H0 (S.put? d s) E (a.put d v) w H := by
  cases d with
  | none => exact h
  | some d =>
    refine ⟨h.grow, fun t x hx => ?_, h.ob, h.ap, h.fr, by rw [put_size]; exact h.sz, by rw [put_defers]; exact h.df⟩
    simp only [St.put?, St.put, getA_put] at hx
    split at hx
    · rename_i e; cases hx; subst e
      rw [eval_put_self (by rw [h.sz]; exact hd _ rfl)]; exact hr
    · rename_i e; rw [eval_put_other e]; exact h.tm t x hx
theorem Sim.grown (h : Sim N w0 H0 S E a w H) (g : Grow w H w' H') : Sim N w0 H0 S E a w' H' :=
  ⟨h.grow.trans g, fun t x hx => (h.tm t x hx).mono (g.le h.sub) (ELe.refl _), h.ob.grow g h.sub, h.ap, h.fr, h.sz, h.df⟩
theorem getA_del_some {α : Type} {l : List (Nat × α)} {i j : Nat} {x : α} (h : getA (delA l i) j = some x) : getA l j = some x ∧ i ≠ j := by
  by_cases e : i = j
  · subst e; rw [getA_delA_self] at h; cases h
  · rw [getA_delA_other l e] at h; exact ⟨h, e⟩
/-- A slot is forgotten. -/
theorem Sim.skip (h : Sim N w0 H0 S E a w H) {d : Nat} {v : Value} : Sim N w0 H0 ⟨delA S.T d, S.O, S.n⟩ E (a.put (some d) v) w H := by
  refine ⟨h.grow, fun t x hx => ?_, h.ob, h.ap, h.fr, by rw [put_size]; exact h.sz, by rw [put_defers]; exact h.df⟩
  obtain ⟨hx, e⟩ := getA_del_some hx
  rw [eval_put_other e]; exact h.tm t x hx
/-- Less is known. -/
theorem Sim.less (h : Sim N w0 H0 S E a w H) {S' : St} (hT : ∀ t x, getA S'.T t = some x → getA S.T t = some x) (hO : ∀ i o, getA S'.O i = some o → getA S.O i = some o) (hn : S'.n = S.n) : Sim N w0 H0 S' E a w H :=
  ⟨h.grow, fun t x hx => h.tm t x (hT t x hx), fun i o ho => h.ob i o (hO i o ho), fun i j hij ⟨o, ho, hl⟩ ⟨o', ho', hl'⟩ => h.ap i j hij ⟨o, hO _ _ ho, hl⟩ ⟨o', hO _ _ ho', hl'⟩, fun i hi => h.fr i (by rw [← hn]; exact hi), h.sz, h.df⟩

def Env.set (E : Env) (i : Nat) (p : Value × Nat × Option Nat) : Env := fun j => if j = i then some p else E j
theorem Env.set_self (E : Env) (i : Nat) (p : Value × Nat × Option Nat) : E.set i p i = some p := if_pos rfl
theorem Env.set_le {E : Env} {i : Nat} (p : Value × Nat × Option Nat) (h : E i = none) : ELe E (E.set i p) := fun j q hj => by
  unfold Env.set; rw [if_neg (fun e => by subst e; rw [h] at hj; cases hj)]; exact hj
theorem ObRep.env {B H E E' w i o} (h : ObRep B H E w i o) (g : ELe E E') : ObRep B H E' w i o := by
  cases o with
  | box t cs => obtain ⟨b, vs, h1, h2, h3, h4, h5, h6⟩ := h; exact ⟨b, vs, g _ _ h1, h2, h3, h4, h5.mono (fun _ _ h => h) g, h6⟩
  | row e k es => obtain ⟨u, ob, xs, h1, h⟩ := h; exact ⟨u, ob, xs, g _ _ h1, h⟩
  | map kt N f => obtain ⟨b, o, F, h1, h⟩ := h; exact ⟨b, o, F, g _ _ h1, h⟩
  | iter f left cnt cur => obtain ⟨r, ob, h1, h⟩ := h; exact ⟨r, ob, g _ _ h1, h⟩
  | frz x => obtain ⟨u, k, b, h1, h⟩ := h; exact ⟨u, k, b, g _ _ h1, h⟩
  | obx e cs => obtain ⟨b, cap, cur, h1, h2, h3, h4, h5, h6, h7⟩ := h; exact ⟨b, cap, cur, g _ _ h1, h2, h3, h4, h5, h6.mono (fun _ _ h => h) g, h7⟩
  | gh J => obtain ⟨⟨p, hp⟩, h1, h2⟩ := h; exact ⟨⟨p, g _ _ hp⟩, h2 _ _ _ _ (Le.refl _) g h1, h2⟩
  | mpr q kt N f => obtain ⟨es, F, h1, h⟩ := h; exact ⟨es, F, g _ _ h1, h⟩
  | itm q kt left cnt cur => obtain ⟨r, ob, h1, h⟩ := h; exact ⟨r, ob, g _ _ h1, h⟩

/-- A new part of one's own memory. -/
theorem Sim.new (h : Sim N w0 H0 S E a w H) {o : Ob} {p : Value × Nat × Option Nat} (ho : ObRep w0.heap.size H (E.set S.n p) w S.n o)
    (hfresh : ∀ b, p.2.2 = some b → ∀ i, lives S i → ∀ u k, E i = some (u, k, some b) → False) : Sim N w0 H0 (S.newO o) (E.set S.n p) a w H := by
  have hg := Env.set_le p (h.fr S.n (Nat.le_refl _))
  have hlt : ∀ i o, getA S.O i = some o → i ≠ S.n := fun i o ho e => by
    subst e
    have hn := h.fr S.n (Nat.le_refl _)
    have := h.ob _ _ ho
    cases o with
    | box t cs => obtain ⟨b, vs, h1, _⟩ := this; rw [hn] at h1; cases h1
    | row e k es => obtain ⟨u, ob, xs, h1, _⟩ := this; rw [hn] at h1; cases h1
    | map kt N f => obtain ⟨b, o, F, h1, _⟩ := this; rw [hn] at h1; cases h1
    | iter f left cnt cur => obtain ⟨r, ob, h1, _⟩ := this; rw [hn] at h1; cases h1
    | frz x => obtain ⟨u, k, b, h1, _⟩ := this; rw [hn] at h1; cases h1
    | obx e cs => obtain ⟨b, cap, cur, h1, _⟩ := this; rw [hn] at h1; cases h1
    | gh J => obtain ⟨⟨p, h1⟩, _⟩ := this; rw [hn] at h1; cases h1
    | mpr q kt N f => obtain ⟨es, F, h1, _⟩ := this; rw [hn] at h1; cases h1
    | itm q kt left cnt cur => obtain ⟨r, ob, h1, _⟩ := this; rw [hn] at h1; cases h1
  have hget : ∀ i o', getA (S.newO o).O i = some o' → (i = S.n ∧ o' = o) ∨ (i ≠ S.n ∧ getA S.O i = some o') := fun i o' hi => by
    simp only [St.newO, getA] at hi
    split at hi
    · rename_i e; cases hi; exact .inl ⟨e.symm, rfl⟩
    · rename_i e; exact .inr ⟨fun e' => e e'.symm, hi⟩
  refine ⟨h.grow, fun t x hx => (h.tm t x hx).mono (fun _ _ h => h) hg, fun i o' hi => ?_, ?_, fun i hi => ?_, h.sz, h.df⟩
  · rcases hget i o' hi with ⟨rfl, rfl⟩ | ⟨_, hi⟩
    · exact ho
    · exact (h.ob i o' hi).env hg
  · rintro i j hij ⟨o1, ho1, hl1⟩ ⟨o2, ho2, hl2⟩ b u k u' k' e1 e2
    rcases hget i o1 ho1 with ⟨rfl, rfl⟩ | ⟨n1, g1⟩ <;> rcases hget j o2 ho2 with ⟨rfl, rfl⟩ | ⟨n2, g2⟩
    · exact hij rfl
    · rw [Env.set_self] at e1
      unfold Env.set at e2; rw [if_neg n2] at e2
      cases e1
      exact hfresh b rfl j ⟨o2, g2, hl2⟩ _ _ e2
    · rw [Env.set_self] at e2
      unfold Env.set at e1; rw [if_neg n1] at e1
      cases e2
      exact hfresh b rfl i ⟨o1, g1, hl1⟩ _ _ e1
    · unfold Env.set at e1 e2; rw [if_neg n1] at e1; rw [if_neg n2] at e2
      exact h.ap i j hij ⟨o1, g1, hl1⟩ ⟨o2, g2, hl2⟩ b u k u' k' e1 e2
  · unfold Env.set
    simp only [St.newO] at hi
    rw [if_neg (by omega)]
    exact h.fr i (by omega)

/-- Where a live part lies, nothing frozen lies. -/
theorem Sim.live_lt (h : Sim N w0 H0 S E a w H) {i b : Nat} (hl : lives S i) {u k} (hE : E i = some (u, k, some b)) : w0.heap.size ≤ b ∧ H b = none ∧ b < w.heap.size := by
  obtain ⟨o, ho, hlv⟩ := hl
  have := h.ob _ _ ho
  cases o with
  | box t cs => obtain ⟨b', vs, h1, h2, h3, h4, _⟩ := this; rw [hE] at h1; cases h1; exact ⟨h2, h3, (Array.getElem?_eq_some_iff.1 h4).1⟩
  | row e k' es =>
    obtain ⟨u', ob, xs, h1, _, _, h3⟩ := this
    rw [hE] at h1; cases h1
    rcases h3 with ⟨_, h, _⟩ | ⟨g, cap, cur, a1, a2, a3, a4, a5, _⟩
    · cases h
    · cases a1; exact ⟨a3, a4, (Array.getElem?_eq_some_iff.1 a5).1⟩
  | map kt N f => obtain ⟨b', o, F, h1, h2, h3, h4, _⟩ := this; rw [hE] at h1; cases h1; exact ⟨h2, h3, (Array.getElem?_eq_some_iff.1 h4).1⟩
  | iter f left cnt cur => obtain ⟨r, ob, h1, h2, h3, h4, _⟩ := this; rw [hE] at h1; cases h1; exact ⟨h2, h3, (Array.getElem?_eq_some_iff.1 h4).1⟩
  | frz x => cases hlv
  | obx e cs => obtain ⟨b', cap, cur, h1, h2, h3, h4, _⟩ := this; rw [hE] at h1; cases h1; exact ⟨h2, h3, (Array.getElem?_eq_some_iff.1 h4).1⟩
  | gh J => cases hlv
  | mpr q kt N f => obtain ⟨es, F, h1, h2, h3, h4, _⟩ := this; rw [hE] at h1; cases h1; exact ⟨h2, h3, (Array.getElem?_eq_some_iff.1 h4).1⟩
  | itm q kt left cnt cur => obtain ⟨r, ob, h1, h2, h3, h4, _⟩ := this; rw [hE] at h1; cases h1; exact ⟨h2, h3, (Array.getElem?_eq_some_iff.1 h4).1⟩

/-- A new variable. -/
theorem Sim.newBox (h : Sim N w0 H0 S E a w H) {t : TypeId} {cs : List Sh} {vs : List Value} (hc : RepL H E cs vs) (h1 : cs.all Sh.one = true) {d : Option Nat} (hd : ∀ t, d = some t → t < N) :
    ∃ E', Sim N w0 H0 ((S.newO (.box t cs)).put? d (.ptr S.n 0 0)) E' (a.put d (.pointer (some ⟨w.heap.size, 0, none⟩))) (w.alloc (.cells vs.toArray t)) H := by
  have hg : Grow w H (w.alloc (.cells vs.toArray t)) H := (Grow.refl h.sub).alloc _
  have hr := h.grown hg
  let p : Value × Nat × Option Nat := (.pointer (some ⟨w.heap.size, 0, none⟩), 0, some w.heap.size)
  have hn := h.fr S.n (Nat.le_refl _)
  have hR : Sim N w0 H0 (S.newO (.box t cs)) (E.set S.n p) a (w.alloc (.cells vs.toArray t)) H := by
    refine hr.new ⟨w.heap.size, vs, Env.set_self _ _ _, h.grow.below.size, h.sub.none (Nat.le_refl _), heap_alloc_new w _, hc.mono (fun _ _ h => h) (Env.set_le p hn), h1⟩ ?_
    intro b hb i hl u k hE
    cases hb
    exact absurd (h.live_lt hl hE).2.2 (by omega)
  refine ⟨_, hR.put ?_ hd⟩
  have := Rep.ptr (H := H) (E := E.set S.n p) (i := S.n) (idx := 0) (off := 0) (Env.set_self E S.n p)
  simpa using this

/-- What another part's block is made of does not matter to this part. -/
theorem ObRep.keep {B : Nat} {i b : Nat} {o : Ob} (h : ObRep B H E w i o) (hne : o.live = true → ∀ u k, E i ≠ some (u, k, some b)) (hs : ∀ k, k < w.heap.size → k ≠ b → w'.heap[k]? = w.heap[k]?) : ObRep B H E w' i o := by
  cases o with
  | box t cs =>
    obtain ⟨b', vs, h1, h2, h3, h4, h5, h6⟩ := h
    exact ⟨b', vs, h1, h2, h3, (hs b' (Array.getElem?_eq_some_iff.1 h4).1 (fun e => by subst e; exact hne rfl _ _ h1)).trans h4, h5, h6⟩
  | row e k es =>
    obtain ⟨u, ob, xs, h1, hk, h2, h3⟩ := h
    refine ⟨u, ob, xs, h1, hk, h2, h3.imp id ?_⟩
    rintro ⟨g', cap, cur, a1, a2, a3, a4, a5, a6⟩
    subst a1
    exact ⟨g', cap, cur, rfl, a2, a3, a4, (hs g' (Array.getElem?_eq_some_iff.1 a5).1 (fun e => by subst e; exact hne rfl _ _ h1)).trans a5, a6⟩
  | map kt N f =>
    obtain ⟨b', o, F, h1, h2, h3, h4, h5⟩ := h
    exact ⟨b', o, F, h1, h2, h3, (hs b' (Array.getElem?_eq_some_iff.1 h4).1 (fun e => by subst e; exact hne rfl _ _ h1)).trans h4, h5⟩
  | iter f left cnt cur =>
    obtain ⟨r, ob, h1, h2, h3, h4, h5⟩ := h
    exact ⟨r, ob, h1, h2, h3, (hs r (Array.getElem?_eq_some_iff.1 h4).1 (fun e => by subst e; exact hne rfl _ _ h1)).trans h4, h5⟩
  | frz x => exact h
  | obx e cs =>
    obtain ⟨b', cap, cur, h1, h2, h3, h4, h5⟩ := h
    exact ⟨b', cap, cur, h1, h2, h3, (hs b' (Array.getElem?_eq_some_iff.1 h4).1 (fun e => by subst e; exact hne rfl _ _ h1)).trans h4, h5⟩
  | gh J => exact h
  | mpr q kt N f =>
    obtain ⟨es, F, h1, h2, h3, h4, h5⟩ := h
    exact ⟨es, F, h1, h2, h3, (hs q.b (Array.getElem?_eq_some_iff.1 h4).1 (fun e => by subst e; exact hne rfl _ _ h1)).trans h4, h5⟩
  | itm q kt left cnt cur =>
    obtain ⟨r, ob, h1, h2, h3, h4, h5⟩ := h
    exact ⟨r, ob, h1, h2, h3, (hs r (Array.getElem?_eq_some_iff.1 h4).1 (fun e => by subst e; exact hne rfl _ _ h1)).trans h4, h5⟩

/-- A part is written. -/
theorem Sim.upd (h : Sim N w0 H0 S E a w H) {i b : Nat} {o' : Ob} {u : Value} {k : Nat} (hi : lives S i) (hE : E i = some (u, k, some b))
    (hs : ∀ k, k < w.heap.size → k ≠ b → w'.heap[k]? = w.heap[k]?) (hsz : w.heap.size ≤ w'.heap.size) (hos : w'.os = w.os) (htp : w'.tape = w.tape) (hout : w'.output = w.output)
    (ho' : ObRep w0.heap.size H E w' i o') (hl' : o'.live = true) : Sim N w0 H0 (S.setO i o') E a w' H := by
  obtain ⟨l1, l2, l3⟩ := h.live_lt hi hE
  have hget : ∀ j o, getA (S.setO i o').O j = some o → (j = i ∧ o = o') ∨ (i ≠ j ∧ getA S.O j = some o) := fun j o hj => by
    simp only [St.setO, getA_put] at hj
    split at hj
    · rename_i e; cases hj; exact .inl ⟨e.symm, rfl⟩
    · rename_i e; exact .inr ⟨e, hj⟩
  refine ⟨⟨⟨hos.trans h.grow.below.os, htp.trans h.grow.below.tape, hout.trans h.grow.below.output, Nat.le_trans h.grow.below.size hsz, fun k hk => ?_⟩, ⟨fun k o hk => ?_, h.grow.sub.glob⟩, h.grow.old⟩, h.tm, fun j o hj => ?_, ?_, h.fr, h.sz, h.df⟩
  · exact (hs k (Nat.lt_of_lt_of_le hk h.grow.below.size) (by omega)).trans (h.grow.below.block k hk)
  · have := h.sub.lt hk
    exact (hs k this (fun e => by subst e; rw [l2] at hk; cases hk)).trans (h.sub k o hk)
  · rcases hget j o hj with ⟨rfl, rfl⟩ | ⟨e, hj⟩
    · exact ho'
    · exact (h.ob j o hj).keep (fun hl u' k' e' => h.ap i j e hi ⟨o, hj, hl⟩ b _ _ _ _ hE e') hs
  · rintro j1 j2 hj ⟨o1, ho1, hl1⟩ ⟨o2, ho2, hl2⟩ b' u1 k1 u2 k2 e1 e2
    rcases hget j1 o1 ho1 with ⟨rfl, rfl⟩ | ⟨n1, g1⟩ <;> rcases hget j2 o2 ho2 with ⟨rfl, rfl⟩ | ⟨n2, g2⟩
    · exact hj rfl
    · exact h.ap _ _ hj hi ⟨o2, g2, hl2⟩ b' _ _ _ _ e1 e2
    · exact h.ap _ _ hj ⟨o1, g1, hl1⟩ hi b' _ _ _ _ e1 e2
    · exact h.ap _ _ hj ⟨o1, g1, hl1⟩ ⟨o2, g2, hl2⟩ b' _ _ _ _ e1 e2
end
end Go.Proofs.Ytijblpkdfmkcfaa
namespace Go.Proofs.Ytijblpkdfmkcfaa
set_option linter.unusedSimpArgs false
set_option linter.unusedVariables false
open Go.RowKit Go.Maps

section
variable {N : Nat} {w0 w w' : World} {H0 H H' : Hp} {S : St} {E : Env} {a : Act}

/-- A part is handed over: its block, if it has one, is frozen. -/
theorem Sim.frz (h : Sim N w0 H0 S E a w H) {i : Nat} {u : Value} {k : Nat} {ob : Option Nat} {x : Sh} (hl : lives S i) (hE : E i = some (u, k, ob)) (hx : x.pure = true)
    (hfp : ∀ e, x = .fp e 0 → k = 0 ∧ ∃ b0, ob = some b0 ∧ u = .pointer (some ⟨b0, 0, none⟩))
    (hr : match ob with | none => Rep H E0 x u | some b => ∃ o, w.heap[b]? = some o ∧ Rep (H.add b o) E0 x u) : ∃ H', Le H H' ∧ Sim N w0 H0 (S.setO i (.frz x)) E a w H' := by
  have hget : ∀ j o, getA (S.setO i (.frz x)).O j = some o → (j = i ∧ o = .frz x) ∨ (i ≠ j ∧ getA S.O j = some o) := fun j o hj => by
    simp only [St.setO, getA_put] at hj
    split at hj
    · rename_i e; cases hj; exact .inl ⟨e.symm, rfl⟩
    · rename_i e; exact .inr ⟨e, hj⟩
  have hap : ∀ j1 j2, j1 ≠ j2 → lives (S.setO i (.frz x)) j1 → lives (S.setO i (.frz x)) j2 → ∀ b u k u' k', E j1 = some (u, k, some b) → E j2 = some (u', k', some b) → False := by
    rintro j1 j2 hj ⟨o1, ho1, hl1⟩ ⟨o2, ho2, hl2⟩ b u k u' k' e1 e2
    rcases hget j1 o1 ho1 with ⟨rfl, rfl⟩ | ⟨n1, g1⟩
    · cases hl1
    rcases hget j2 o2 ho2 with ⟨rfl, rfl⟩ | ⟨n2, g2⟩
    · cases hl2
    exact h.ap _ _ hj ⟨o1, g1, hl1⟩ ⟨o2, g2, hl2⟩ b _ _ _ _ e1 e2
  cases ob with
  | none =>
    refine ⟨H, Le.refl _, h.grow, h.tm, fun j o hj => ?_, hap, h.fr, h.sz, h.df⟩
    rcases hget j o hj with ⟨rfl, rfl⟩ | ⟨_, hj⟩
    · exact ⟨u, k, none, hE, hr, hx, hfp⟩
    · exact h.ob j o hj
  | some b =>
    obtain ⟨o, ho, hr⟩ := hr
    obtain ⟨l1, l2, l3⟩ := h.live_lt hl hE
    have hle : Le H (H.add b o) := Hp.add_le l2
    refine ⟨H.add b o, hle, h.grow.add ho l1, fun t y hy => (h.tm t y hy).mono hle (ELe.refl _), fun j o' hj => ?_, hap, h.fr, h.sz, h.df⟩
    rcases hget j o' hj with ⟨rfl, rfl⟩ | ⟨hne, hj⟩
    · exact ⟨u, k, some b, hE, hr, hx, hfp⟩
    · have hO := h.ob j o' hj
      have hno : o'.live = true → ∀ u k, E j ≠ some (u, k, some b) := fun hlv u' k' e' => h.ap i j hne hl ⟨o', hj, hlv⟩ b _ _ _ _ hE e'
      have hkeep : ∀ g, g ≠ b → H.add b o g = H g := fun g hg => by unfold Hp.add; rw [if_neg hg]
      cases o' with
      | box t cs =>
        obtain ⟨b', vs, h1, h2, h3, h4, h5, h6⟩ := hO
        exact ⟨b', vs, h1, h2, (hkeep b' (fun e => by subst e; exact hno rfl _ _ h1)).trans h3, h4, h5.mono hle (ELe.refl _), h6⟩
      | row e k' es =>
        obtain ⟨u', ob', xs, h1, hk, h2, h3⟩ := hO
        refine ⟨u', ob', xs, h1, hk, h2.mono hle, h3.imp id ?_⟩
        rintro ⟨g', cap, cur, a1, a2, a3, a4, a5⟩
        subst a1
        exact ⟨g', cap, cur, rfl, a2, a3, (hkeep g' (fun e => by subst e; exact hno rfl _ _ h1)).trans a4, a5⟩
      | map kt N f =>
        obtain ⟨b', o2, F, h1, h2, h3, h4, h5, h6, h7, h8⟩ := hO
        exact ⟨b', o2, F, h1, h2, (hkeep b' (fun e => by subst e; exact hno rfl _ _ h1)).trans h3, h4, h5, h6, h7, fun j s u a b => (h8 j s u a b).mono hle (ELe.refl _)⟩
      | iter f left cnt cur =>
        obtain ⟨r, ob2, h1, h2, h3, h4, h5, h6⟩ := hO
        exact ⟨r, ob2, h1, h2, (hkeep r (fun e => by subst e; exact hno rfl _ _ h1)).trans h3, h4, h5.le hle, fun j s e => (h6 j s e).le hle⟩
      | frz y => obtain ⟨u', k', b', h1, h2, h3, h4⟩ := hO; exact ⟨u', k', b', h1, h2.mono hle (ELe.refl _), h3, h4⟩
      | obx e cs =>
        obtain ⟨b', cap, cur, h1, h2, h3, h4, h5, h6, h7⟩ := hO
        exact ⟨b', cap, cur, h1, h2, (hkeep b' (fun e => by subst e; exact hno rfl _ _ h1)).trans h3, h4, h5, h6.mono hle (ELe.refl _), h7⟩
      | gh J => exact ⟨hO.1, hO.2.2 _ _ _ _ hle (ELe.refl _) hO.2.1, hO.2.2⟩
      | mpr q kt N f =>
        obtain ⟨es, F, h1, h2, h3, h4, h4', h5, h6, h7, h8⟩ := hO
        exact ⟨es, F, h1, h2, (hkeep q.b (fun e => by subst e; exact hno rfl _ _ h1)).trans h3, h4, h4', h5, h6, h7, fun j s u a b => (h8 j s u a b).mono hle (ELe.refl _)⟩
      | itm q kt left cnt cur =>
        obtain ⟨r, ob2, h1, h2, h3, h4, h5⟩ := hO
        exact ⟨r, ob2, h1, h2, (hkeep r (fun e => by subst e; exact hno rfl _ _ h1)).trans h3, h4, h5⟩

theorem Sim.frzRow (h : Sim N w0 H0 S E a w H) (i : Nat) : ∃ H', Le H H' ∧ Sim N w0 H0 (S.frzRow i) E a w H' := by
  unfold St.frzRow
  split
  · rename_i e k es hg
    obtain ⟨u, ob, xs, h1, hk, h2, h3⟩ := h.ob _ _ hg
    refine h.frz ⟨_, hg, rfl⟩ h1 rfl (fun e he => by cases he) ?_
    rcases h3 with ⟨rfl, rfl, ad, rfl⟩ | ⟨g, cap, cur, rfl, rfl, a3, a4, a5, a6, a7, a7', a8, a9⟩
    · cases h2
      exact .sl .nil rfl (Nat.le_refl _) (Nat.zero_le _) ⟨fun _ => rfl, fun _ _ => rfl⟩ (fun _ => rfl) (fun j u hu => by simp at hu)
    · refine ⟨_, a5, .sl (h2.mono (Hp.add_le a4)) rfl a6 a7 ⟨(fun e => (by cases e)), fun _ h => a7' (List.eq_nil_of_length_eq_zero h)⟩ (fun e => by cases e) (fun j u hu => ⟨g, 0, cur, e, (0, 0), rfl, Hp.add_at _ _ _, ?_⟩)⟩
      rw [← a9, List.getElem?_take] at hu
      split at hu
      · simpa using hu
      · cases hu
  · rename_i kt M f hg
    obtain ⟨b, o, F, h1, h2, h3, h4, h5, h6, h7, h8⟩ := h.ob _ _ hg
    refine h.frz ⟨_, hg, rfl⟩ h1 rfl (fun e he => by cases he) ⟨o, h4, ?_⟩
    exact .mp (Hp.add_at _ _ _) h5 h6 h7 (fun j s u a b => (h8 j s u a b).mono (Hp.add_le h3) (ELe.refl _))
  · exact ⟨H, Le.refl _, h⟩
theorem Sim.frzCells : ∀ (cs : List Sh) {S : St} {H : Hp}, Sim N w0 H0 S E a w H → ∃ H', Le H H' ∧ Sim N w0 H0 (S.frzCells cs) E a w H'
  | [], S, H, h => ⟨H, Le.refl _, h⟩
  | .own i :: l, S, H, h => by
    obtain ⟨H1, l1, h1⟩ := h.frzRow i
    obtain ⟨H2, l2, h2⟩ := Sim.frzCells l h1
    exact ⟨H2, l1.trans l2, h2⟩
  | .v _ :: l, S, H, h => Sim.frzCells l h
  | .agg _ :: l, S, H, h => Sim.frzCells l h
  | .tup _ :: l, S, H, h => Sim.frzCells l h
  | .sl .. :: l, S, H, h => Sim.frzCells l h
  | .mp .. :: l, S, H, h => Sim.frzCells l h
  | .fn .. :: l, S, H, h => Sim.frzCells l h
  | .ifc .. :: l, S, H, h => Sim.frzCells l h
  | .fp .. :: l, S, H, h => Sim.frzCells l h
  | .any :: l, S, H, h => Sim.frzCells l h
  | .ptr .. :: l, S, H, h => Sim.frzCells l h
theorem frzRow_box {S : St} {i j : Nat} {t : TypeId} {cs : List Sh} (h : getA S.O j = some (.box t cs)) : getA (S.frzRow i).O j = some (.box t cs) := by
  unfold St.frzRow
  split
  · rename_i hg; simp only [St.setO, getA_put]; rw [if_neg (fun e => by subst e; rw [h] at hg; cases hg)]; exact h
  · rename_i hg; simp only [St.setO, getA_put]; rw [if_neg (fun e => by subst e; rw [h] at hg; cases hg)]; exact h
  · exact h
theorem frzCells_box {j : Nat} {t : TypeId} {cs : List Sh} : ∀ (l : List Sh) {S : St}, getA S.O j = some (.box t cs) → getA (S.frzCells l).O j = some (.box t cs)
  | [], _, h => h
  | .own i :: l, S, h => frzCells_box l (frzRow_box h)
  | .v _ :: l, S, h => frzCells_box l h
  | .agg _ :: l, S, h => frzCells_box l h
  | .tup _ :: l, S, h => frzCells_box l h
  | .sl .. :: l, S, h => frzCells_box l h
  | .mp .. :: l, S, h => frzCells_box l h
  | .fn .. :: l, S, h => frzCells_box l h
  | .ifc .. :: l, S, h => frzCells_box l h
  | .fp .. :: l, S, h => frzCells_box l h
  | .any :: l, S, h => frzCells_box l h
  | .ptr .. :: l, S, h => frzCells_box l h
theorem Sim.frzBox (h : Sim N w0 H0 S E a w H) (i : Nat) : ∃ H', Le H H' ∧ Sim N w0 H0 (S.frzBox i) E a w H' := by
  unfold St.frzBox
  split
  · rename_i t cs hg
    obtain ⟨H1, l1, h1⟩ := h.frzCells cs
    have hg1 := frzCells_box cs hg
    split
    · rename_i ys hy
      obtain ⟨b, vs, e1, e2, e3, e4, e5, e6⟩ := h1.ob _ _ hg1
      obtain ⟨r1, r2, r3⟩ := argL_rep h1.ob e5 hy
      obtain ⟨H2, l2, h2⟩ := h1.frz (x := .fp ys 0) ⟨_, hg1, rfl⟩ e1 rfl (fun e he => ⟨rfl, b, rfl, rfl⟩) ⟨_, e4, by
        have := Rep.fp (H := H1.add b (.cells vs.toArray t (0, 0))) (E := E0) (off := 0) (b := b) (o := 0) (r1.mono (Hp.add_le e3) (ELe.refl _)) (r3 e6) (fun j u hu => ⟨_, _, _, Hp.add_at _ _ _, by simpa using hu⟩)
        simpa using this⟩
      exact ⟨H2, l1.trans l2, h2⟩
    · exact ⟨H1, l1, h1⟩
  · exact ⟨H, Le.refl _, h⟩
theorem Sim.frzSh (h : Sim N w0 H0 S E a w H) (x : Sh) : ∃ H', Le H H' ∧ Sim N w0 H0 (S.frzSh x) E a w H' := by
  cases x with
  | own i => exact h.frzRow i
  | ptr i _ _ => exact h.frzBox i
  | agg cs => exact h.frzCells cs
  | _ => exact ⟨H, Le.refl _, h⟩
theorem Sim.frzOpds : ∀ (l : List Operand) {S : St} {H : Hp}, Sim N w0 H0 S E a w H → ∃ H', Le H H' ∧ Sim N w0 H0 (S.frzOpds l) E a w H'
  | [], S, H, h => ⟨H, Le.refl _, h⟩
  | x :: l, S, H, h => by
    unfold St.frzOpds
    split
    · rename_i s _
      obtain ⟨H1, l1, h1⟩ := h.frzSh s
      obtain ⟨H2, l2, h2⟩ := Sim.frzOpds l h1
      exact ⟨H2, l1.trans l2, h2⟩
    · exact Sim.frzOpds l h

theorem RepEs.of_get {k : Nat} : ∀ (es : List (List Sh)) (xs : List Value), xs.length = es.length * k →
    (∀ i e, es[i]? = some e → ∃ vs, vs.length = k ∧ RepL H E0 e vs ∧ e.all Sh.one = true ∧ ∀ j u, vs[j]? = some u → xs[i * k + j]? = some u) → RepEs H k es xs
  | [], xs, hl, _ => by simp at hl; subst hl; exact .nil
  | e :: es, xs, hl, h => by
    simp only [List.length_cons, Nat.add_mul, Nat.one_mul] at hl
    obtain ⟨vs, h1, h2, h3, h4⟩ := h 0 e rfl
    have hv : xs.take k = vs := by
      apply List.ext_getElem?
      intro j
      rcases Nat.lt_or_ge j k with hj | hj
      · have := h4 j vs[j] (by simp)
        simp at this
        rw [List.getElem?_take, if_pos hj, this]; simp
      · rw [List.getElem?_eq_none (by simp; omega), List.getElem?_eq_none (by omega)]
    have ih := RepEs.of_get (k := k) es (xs.drop k) (by simp [hl]) (fun i e' he => by
      obtain ⟨vs', a1, a2, a3, a4⟩ := h (i + 1) e' (by simpa using he)
      refine ⟨vs', a1, a2, a3, fun j u hu => ?_⟩
      have := a4 j u hu
      rw [List.getElem?_drop, ← this]; congr 1; rw [Nat.add_mul]; omega)
    have e0 : xs = vs ++ xs.drop k := by rw [← hv, List.take_append_drop]
    rw [e0]
    exact .cons h2 h1 h3 ih
end
end Go.Proofs.Ytijblpkdfmkcfaa
namespace Go.Proofs.Ytijblpkdfmkcfaa
set_option linter.unusedSimpArgs false
set_option linter.unusedVariables false
open Go.RowKit Go.Maps

theorem get_eq {α : Type} {l : List α} {i j : Nat} (h : i = j) : l[i]? = l[j]? := by rw [h]

/-- An operation in its order. -/
def Told (N : Nat) (w0 : World) (H0 : Hp) (o : Oper) (K : St → Prop) (a : Act) (w : World) : Prop :=
  o.wp Try.prog a w (fun a' w' => ∃ S' E' H', K S' ∧ Sim N w0 H0 S' E' a' w' H') NoQ

section
variable {N : Nat} {w0 w w' : World} {H0 H H' : Hp} {S : St} {E : Env} {a : Act} {o : Oper} {K : St → Prop}

theorem told_value (hS : Sim N w0 H0 S E a w H) (hd : ∀ t, o.dst = some t → t < N) {xs s} (hg : Good o S E xs s) (hk : K (S.put? o.dst s)) : Told N w0 H0 o K a w := by
  refine Oper.wp_post ?_ (hg w0.heap.size a w H hS.sub hS.ob (hS.opds xs))
  rintro a' w' ⟨v, H', rfl, g, r⟩
  exact ⟨_, E, H', hk, (hS.grown g).put r hd⟩

theorem told_box (hS : Sim N w0 H0 S E a w H) (hd : ∀ t, o.dst = some t → t < N) {t : TypeId} {cs : List Sh} {vs : List Value} (hc : RepL H E cs vs) (h1 : cs.all Sh.one = true)
    (he : (execOp a.eval o).run Try.prog w = .ok (.value (.pointer (some ⟨w.heap.size, 0, none⟩))) (w.alloc (.cells vs.toArray t))) (hk : K ((S.newO (.box t cs)).put? o.dst (.ptr S.n 0 0))) : Told N w0 H0 o K a w := by
  obtain ⟨E', h'⟩ := hS.newBox hc h1 hd
  unfold Told Oper.wp
  rw [he]
  exact ⟨_, E', H, hk, h'⟩

theorem told_alc (hS : Sim N w0 H0 S E a w H) (hd : ∀ t, o.dst = some t → t < N) {t i z} {zs : List ZSh} (ho : o.op = .alloc t) (hi : Try.prog.info? t = some i) (hz : i.zero = some z) (hzs : z.cells.toList = zs.map ZSh.val)
    (hk : K ((S.newO (.box t (zs.map ZSh.sh))).put? o.dst (.ptr S.n 0 0))) : Told N w0 H0 o K a w := by
  refine told_box hS hd (zs_rep H E zs) (zs_one zs) ?_ hk
  have e : (zs.map ZSh.val).toArray = z.cells := by rw [← hzs]
  rw [e]
  simp [execOp, ho, Instr.alloc, run_zero hi hz, newVar, newRow]

theorem told_bx (hS : Sim N w0 H0 S E a w H) (hd : ∀ t, o.dst = some t → t < N) {t x s} (ho : o.op = .box t x) (hx : S.opd x = some s) (h1 : s.cells.all Sh.one = true)
    (hk : K ((S.newO (.box t s.cells)).put? o.dst (.ptr S.n 0 0))) : Told N w0 H0 o K a w := by
  refine told_box hS hd (cells_rep (hS.opds [x] x (by simp) s hx) h1) h1 ?_ hk
  simp [execOp, ho, Instr.box, newVar, newRow]

theorem told_skip (he : (execOp a.eval o).run Try.prog w = .ok .skip w') (hd : o.dst = none) {S' : St} {E' : Env} {H' : Hp} (hS' : Sim N w0 H0 S' E' a w' H') (hk : K S') : Told N w0 H0 o K a w := by
  unfold Told Oper.wp
  rw [he, Oper.upon_skip, hd]
  exact ⟨S', E', H', hk, hS'⟩

theorem told_st1 (hS : Sim N w0 H0 S E a w H) (hd : o.dst = none) {t ti x y i idx off v t' cs} (ho : o.op = .store t x y) (hi : Try.prog.info? t = some ti) (hx : S.opd x = some (.ptr i idx off)) (hy : S.opd y = some v)
    (hg : getA S.O i = some (.box t' cs)) (hl : v.cells.length = ti.size) (h1 : v.cells.all Sh.one = true) (hb : off + ti.size ≤ cs.length)
    (hk : K (S.setO i (.box t' (cs.take off ++ v.cells ++ cs.drop (off + ti.size))))) : Told N w0 H0 o K a w := by
  have hX := hS.opds [x] x (by simp) _ hx
  have hY := hS.opds [y] y (by simp) _ hy
  generalize hqx : a.eval x = qx at hX
  generalize hqy : a.eval y = qy at hY
  cases hX with
  | ptr hE =>
    rename_i u' k' b
    obtain ⟨b', vs, e1, e2, e3, e4, e5, e6⟩ := hS.ob _ _ hg
    rw [hE] at e1; cases e1
    have hC := cells_rep hY h1
    have hcl := hC.length
    have hvl := e5.length
    rw [hl] at hcl
    simp only [Array.length_toList] at hcl
    have hbx : Box w b vs.toArray t' := e4
    have hrun := run_storeAt_box (P := Try.prog) t b vs.toArray t' hbx qy off (by rw [hi]; simp [hcl]) (by simp; omega) (fun u hu => hC.one h1 u hu)
    have hp : Put w b (vs.take off ++ qy.cells.toList ++ vs.drop (off + qy.cells.size)).toArray t' (w.setRow b (vs.take off ++ qy.cells.toList ++ vs.drop (off + qy.cells.size)).toArray) := put_setRow hbx
    have hU := hS.upd (o' := .box t' (cs.take off ++ v.cells ++ cs.drop (off + ti.size))) ⟨_, hg, rfl⟩ hE (fun k _ hk => hp.same k hk) (by rw [hp.size]; exact Nat.le_refl _) hp.os hp.tape hp.output
      ⟨b, vs.take off ++ qy.cells.toList ++ vs.drop (off + qy.cells.size), hE, e2, e3, hp.box, ((e5.take off).append hC).append (by rw [hcl]; exact e5.drop _), all_fill e6 h1⟩ rfl
    refine told_skip ?_ hd hU hk
    simp only [List.toList_toArray] at hrun
    simp [execOp, ho, hqx, hqy, hrun]

theorem told_st3 (hS : Sim N w0 H0 S E a w H) (hd : o.dst = none) {t ti x y i idx off v e cs} (ho : o.op = .store t x y) (hi : Try.prog.info? t = some ti) (hx : S.opd x = some (.ptr i idx off)) (hy : S.opd y = some v)
    (hg : getA S.O i = some (.obx e cs)) (hsz : ti.size = 1) (h1 : v.one = true) (hb : idx + off < cs.length)
    (hk : K (S.setO i (.obx e (cs.set (idx + off) v)))) : Told N w0 H0 o K a w := by
  have hX := hS.opds [x] x (by simp) _ hx
  have hY := hS.opds [y] y (by simp) _ hy
  generalize hqx : a.eval x = qx at hX
  generalize hqy : a.eval y = qy at hY
  cases hX with
  | ptr hE =>
    rename_i u' k' b
    obtain ⟨b', cap, cur, e1, e2, e3, e4, e5, e6, e7⟩ := hS.ob _ _ hg
    rw [hE] at e1; cases e1
    have ho1 := hY.oneCell h1
    have hqc : qy.cells = #[qy] := by cases qy <;> simp_all [Value.cells, Value.oneCell']
    have hbx : Box w b cur e := e4
    have hrun := run_storeAt_box (P := Try.prog) t b cur e hbx qy (idx + off) (by rw [hi]; simp [hqc, hsz]) (by rw [hqc]; simp; omega) (fun u hu => by rw [hqc] at hu; simp at hu; subst hu; exact ho1)
    rw [hqc] at hrun
    have hset : (cur.toList.take (idx + off) ++ [qy] ++ cur.toList.drop (idx + off + 1)) = cur.toList.set (idx + off) qy := by
      rw [List.set_eq_take_append_cons_drop, if_pos (by simp; omega)]; simp
    simp only [List.toList_toArray, List.size_toArray, List.length_cons, List.length_nil, Nat.zero_add, hset] at hrun
    have hp : Put w b (cur.toList.set (idx + off) qy).toArray e (w.setRow b (cur.toList.set (idx + off) qy).toArray) := put_setRow hbx
    have hU := hS.upd (o' := .obx e (cs.set (idx + off) v)) ⟨_, hg, rfl⟩ hE (fun k _ hk => hp.same k hk) (by rw [hp.size]; exact Nat.le_refl _) hp.os hp.tape hp.output
      ⟨b, cap, (cur.toList.set (idx + off) qy).toArray, by rw [List.length_set]; exact hE, e2, e3, hp.box, by rw [List.length_set]; simpa using e5, by
        rw [List.length_set]
        simp only [List.toList_toArray]
        rw [List.take_set]
        exact e6.set hY _, by
        rw [List.all_eq_true] at e7 ⊢
        intro z hz
        rcases List.mem_or_eq_of_mem_set hz with hz | rfl
        · exact e7 z hz
        · exact h1⟩ rfl
    refine told_skip ?_ hd hU hk
    simp only [Nat.mul_one] at hqx
    simp [execOp, ho, hqx, hqy, hrun]

theorem told_st2 (hS : Sim N w0 H0 S E a w H) (hd : o.dst = none) {t ti x y i idx off v v' e kk es c} (ho : o.op = .store t x y) (hi : Try.prog.info? t = some ti) (hx : a.eval x = a.eval x) (hX : Rep H E (.ptr i idx off) (a.eval x)) (hY : Rep H E v (a.eval y)) (hv : S.arg v = some v')
    (hg : getA S.O i = some (.row e kk es)) (hl : v'.cells.length = ti.size) (h1 : v'.cells.all Sh.one = true) (hp : v'.cells.all Sh.pure = true) (hc : es[idx]? = some c) (hb : off + ti.size ≤ c.length)
    (hk : K (S.setO i (.row e kk (es.set idx (c.take off ++ v'.cells ++ c.drop (off + ti.size)))))) : Told N w0 H0 o K a w := by
  have hV := arg_rep hS.ob hY hv
  generalize hqx : a.eval x = qx at hX
  generalize hqy : a.eval y = qy at hV
  have hC := cells_rep hV h1
  have hcl := hC.length
  rw [hl] at hcl
  simp only [Array.length_toList] at hcl
  cases hX with
  | ptr hE =>
    rename_i u' k' g
    obtain ⟨u, ob, xs, e1, hkp, e2, e3⟩ := hS.ob _ _ hg
    rw [hE] at e1; cases e1
    rcases e3 with ⟨rfl, _⟩ | ⟨g', cap, cur, a1, rfl, a3, a4, a5, a6, a7, a7', a8, a9⟩
    · simp at hc
    cases a1
    have hil := (List.getElem?_eq_some_iff.1 hc).1
    obtain ⟨vs, c1, c2, c3, c4⟩ := e2.get hc
    have hvl := c2.length
    have hm : (idx + 1) * kk ≤ es.length * kk := Nat.mul_le_mul_right kk hil
    have hm2 : es.length * kk ≤ cap * kk := Nat.mul_le_mul_right kk a6
    rw [Nat.add_mul, Nat.one_mul] at hm
    have hbx : Box w g cur e := a5
    have hrun := run_storeAt_box (P := Try.prog) t g cur e hbx qy (idx * kk + off) (by rw [hi]; simp [hcl]) (by omega) (fun u hu => hC.one h1 u hu)
    obtain ⟨cur', hcur'⟩ : ∃ cur', cur' = (cur.toList.take (idx * kk + off) ++ qy.cells.toList ++ cur.toList.drop (idx * kk + off + qy.cells.size)) := ⟨_, rfl⟩
    rw [← hcur'] at hrun
    have hp' : Put w g cur'.toArray e (w.setRow g cur'.toArray) := put_setRow hbx
    have hlen : cur'.length = cur.size := by rw [hcur']; simp; omega
    have hnew : RepL H E0 (c.take off ++ v'.cells ++ c.drop (off + ti.size)) (vs.take off ++ qy.cells.toList ++ vs.drop (off + ti.size)) :=
      ((c2.take off).append (hC.pure E0 hp)).append (c2.drop _)
    have hU := hS.upd (o' := .row e kk (es.set idx (c.take off ++ v'.cells ++ c.drop (off + ti.size)))) ⟨_, hg, rfl⟩ hE (fun k _ hk => hp'.same k hk) (by rw [hp'.size]; exact Nat.le_refl _) hp'.os hp'.tape hp'.output
      ⟨_, some g, cur'.take (es.length * kk), hE, hkp, RepEs.of_get _ _ (by rw [List.length_take, hlen, List.length_set, a8]; exact Nat.min_eq_left hm2) (fun j e' he' => ?_), .inr ⟨g, cap, cur'.toArray, rfl, by simp, a3, a4, hp'.box, by simpa using a6, a7, fun e => a7' (by simpa using e), by simp [hlen, a8], by simp⟩⟩ rfl
    · refine told_skip ?_ hd hU hk
      simp [execOp, ho, hqx, hqy, hrun]
    · have hjl : j < es.length := by have := (List.getElem?_eq_some_iff.1 he').1; simpa using this
      have hmj : (j + 1) * kk ≤ es.length * kk := Nat.mul_le_mul_right kk hjl
      rw [Nat.add_mul, Nat.one_mul] at hmj
      by_cases hji : idx = j
      · subst hji
        rw [List.getElem?_set_self hil] at he'
        cases he'
        refine ⟨_, by simp; omega, hnew, all_fill c3 h1, fun q uu hq => ?_⟩
        have hql := (List.getElem?_eq_some_iff.1 hq).1
        simp at hql
        rw [List.getElem?_take, if_pos (by omega), hcur']
        have hold : ∀ q', q' < kk → cur.toList[idx * kk + q']? = vs[q']? := fun q' hq' => by
          have := c4 q' vs[q'] (by simp)
          rw [← a9, List.getElem?_take, if_pos (by omega)] at this
          rw [this]; simp
        rcases Nat.lt_or_ge q off with h' | h'
        · rw [List.append_assoc, List.getElem?_append_left (by simp; omega), List.getElem?_take, if_pos (by omega), hold q (by omega)]
          rw [List.append_assoc, List.getElem?_append_left (by simp; omega), List.getElem?_take, if_pos h'] at hq
          exact hq
        rcases Nat.lt_or_ge q (off + ti.size) with h2 | h2
        · rw [List.append_assoc, List.getElem?_append_right (by simp; omega), List.getElem?_append_left (by simp; omega)]
          rw [List.append_assoc, List.getElem?_append_right (by simp; omega), List.getElem?_append_left (by simp; omega)] at hq
          rw [← hq]; exact get_eq (by simp; omega)
        · rw [List.getElem?_append_right (by simp; omega), List.getElem?_drop]
          rw [List.getElem?_append_right (by simp; omega), List.getElem?_drop] at hq
          have e9 : idx * kk + off + qy.cells.size + (idx * kk + q - (cur.toList.take (idx * kk + off) ++ qy.cells.toList).length) = idx * kk + q := by simp; omega
          rw [e9, hold q (by omega), ← hq]
          exact get_eq (by simp; omega)
      · rw [List.getElem?_set_ne hji] at he'
        obtain ⟨vs', d1, d2, d3, d4⟩ := e2.get he'
        refine ⟨vs', d1, d2, d3, fun q uu hq => ?_⟩
        have hql := (List.getElem?_eq_some_iff.1 hq).1
        have hd4 := d4 q uu hq
        rw [← a9, List.getElem?_take, if_pos (by omega)] at hd4
        rw [List.getElem?_take, if_pos (by omega), hcur', ← hd4]
        rcases Nat.lt_or_ge j idx with hlt | hgt
        · have := Nat.mul_le_mul_right kk (show j + 1 ≤ idx from hlt)
          rw [Nat.add_mul, Nat.one_mul] at this
          rw [List.append_assoc, List.getElem?_append_left (by simp; omega), List.getElem?_take, if_pos (by omega)]
        · have := Nat.mul_le_mul_right kk (show idx + 1 ≤ j by omega)
          rw [Nat.add_mul, Nat.one_mul] at this
          rw [List.getElem?_append_right (by simp; omega), List.getElem?_drop]
          exact get_eq (by simp; omega)
end
end Go.Proofs.Ytijblpkdfmkcfaa
namespace Go.Proofs.Ytijblpkdfmkcfaa
set_option linter.unusedSimpArgs false
set_option linter.unusedVariables false
open Go.RowKit Go.Maps

section
variable {N : Nat} {w0 w w' : World} {H0 H H' : Hp} {S : St} {E : Env} {a : Act} {o : Oper} {K : St → Prop}

/-- Nothing that is known lies where the world turned. -/
theorem Sim.by (h : Sim N w0 H0 S E a w H) {row : Option Nat} (g : w.grownBy w' row) (hrow : ∀ b, row = some b → w0.heap.size ≤ b ∧ H b = none ∧ ∀ j u k, lives S j → E j ≠ some (u, k, some b)) : Sim N w0 H0 S E a w' H := by
  have hk : ∀ k, k < w.heap.size → (∀ b, row = some b → k ≠ b) → w'.heap[k]? = w.heap[k]? := fun k hk hn => g.block k hk (fun e => hn k e.symm rfl)
  refine ⟨⟨⟨g.os.trans h.grow.below.os, g.tape.trans h.grow.below.tape, g.output.trans h.grow.below.output, Nat.le_trans h.grow.below.size g.size, fun k hk' => ?_⟩, ⟨fun k o hk' => ?_, h.grow.sub.glob⟩, h.grow.old⟩, h.tm, fun j o hj => ?_, h.ap, h.fr, h.sz, h.df⟩
  · exact (hk k (Nat.lt_of_lt_of_le hk' h.grow.below.size) (fun b hb e => by have := (hrow b hb).1; omega)).trans (h.grow.below.block k hk')
  · exact (hk k (h.sub.lt hk') (fun b hb e => by subst e; rw [(hrow k hb).2.1] at hk'; cases hk')).trans (h.sub k o hk')
  · cases row with
    | none => exact (h.ob j o hj).keep (b := w.heap.size) (fun hl u k e => absurd (h.live_lt ⟨o, hj, hl⟩ e).2.2 (by omega)) (fun k hk' _ => hk k hk' (fun b hb => by cases hb))
    | some b => exact (h.ob j o hj).keep (b := b) (fun hl u k => (hrow b rfl).2.2 j u k ⟨o, hj, hl⟩) (fun k hk' hne => hk k hk' (fun b' hb => by cases hb; exact hne))

/-- A new part of one's own memory, the slot that names it. -/
theorem told_new (hS : Sim N w0 H0 S E a w H) (hd : ∀ t, o.dst = some t → t < N) {ob : Ob} {p : Value × Nat × Option Nat} {row : Option Nat} (he : (execOp a.eval o).run Try.prog w = .ok (.value p.1) w')
    (g : w.grownBy w' row) (hrow : ∀ b, row = some b → w0.heap.size ≤ b ∧ H b = none ∧ ∀ j u k, lives S j → E j ≠ some (u, k, some b)) (ho : ObRep w0.heap.size H (E.set S.n p) w' S.n ob) (h1 : p.1.oneCell' = true)
    (hb : ∀ b, p.2.2 = some b → w.heap.size ≤ b ∨ row = some b) (hk : K ((S.newO ob).put? o.dst (.own S.n))) : Told N w0 H0 o K a w := by
  have h' := hS.by g hrow
  have hN := h'.new ho (fun b hb' i hl u k hE => by
    rcases hb b hb' with h | h
    · exact absurd (hS.live_lt hl hE).2.2 (by omega)
    · exact (hrow b h).2.2 i u k hl hE)
  unfold Told Oper.wp
  rw [he]
  exact ⟨_, _, H, hk, hN.put (.own (Env.set_self _ _ p) h1) hd⟩

theorem told_mks (hS : Sim N w0 H0 S E a w H) (hd : ∀ t, o.dst = some t → t < N) {t e i z n m kf} {zs : List ZSh} (ho : o.op = .makeSlice t n n) (hu : Try.prog.underlying t = some (.slice e)) (hi : Try.prog.info? e = some i) (hz : i.zero = some z) (hzs : z.cells.toList = zs.map ZSh.val) (hsz : z.cells.size = i.size) (hpos : 0 < i.size)
    (hn : S.opd n = some (.v (.int kf m))) (h0 : 0 ≤ m) (h1' : m ≤ 1000000) (hb : m.toNat * i.bytes ≤ 140737488355328) (hk : K ((S.newO (.row e i.size (List.replicate m.toNat (zs.map ZSh.sh)))).put? o.dst (.own S.n))) : Told N w0 H0 o K a w := by
  have hR := hS.opds [n] n (by simp) _ hn
  generalize hq : a.eval n = q at hR
  cases hR
  obtain ⟨M, rfl⟩ := Int.eq_ofNat_of_zero_le h0
  simp only [Int.toNat_natCast] at hb hk
  have hrun := run_make_sh (P := Try.prog) w t e i z i.size hu hi hz rfl kf kf M (by omega) hb
  refine told_new hS hd (ob := .row e i.size (List.replicate M (zs.map ZSh.sh))) (p := (.slice (some ⟨w.heap.size, 0, none⟩) M M, i.size, some w.heap.size)) (row := none) (w' := w.alloc (.cells ((Array.range (M * i.size)).map (fun j => z.cells[j % z.cells.size]!)) e)) (by simp [execOp, ho, hq, hrun]) ⟨rfl, rfl, rfl, by simp, fun k hk _ => Below.heap_alloc w _ k hk⟩ (fun b hb => by cases hb)
    ⟨_, some w.heap.size, _, Env.set_self _ _ _, hpos, zeros_rep (n := M) hzs hsz hpos, .inr ⟨w.heap.size, M, _, rfl, by simp, hS.grow.below.size, hS.sub.none (Nat.le_refl _), heap_alloc_new w _, by simp, by unfold maxLen; omega, fun e => (by simpa using e), by simp, by rw [List.length_replicate, List.take_of_length_le (by simp)]⟩⟩ rfl (fun b hb => by cases hb; exact .inl (Nat.le_refl _)) hk

theorem told_bso (hS : Sim N w0 H0 S E a w H) (hd : ∀ t, o.dst = some t → t < N) {t e i z parts xs es} (ho : o.op = .buildSlice t xs.length parts) (hu : Try.prog.underlying t = some (.slice e)) (hi : Try.prog.info? e = some i) (hz : i.zero = some z) (hzs : z.cells.size = i.size) (hpos : 0 < i.size)
    (hp : parts.toList = idxs 0 xs) (hl : xs.length * i.size ≤ 16777216) (he : S.elems i.size xs = some es) (hk : K ((S.newO (.row e i.size es)).put? o.dst (.own S.n))) : Told N w0 H0 o K a w := by
  obtain ⟨out, hrun, hR, hn⟩ := run_bso ho hu hi hz hzs hpos hp hl he hS.ob (hS.opds xs)
  have hsz : out.size = xs.length * i.size := by have := hR.length; rw [hn] at this; simpa using this
  have hx : xs.length ≤ 16777216 := by have := Nat.le_mul_of_pos_right xs.length hpos; omega
  refine told_new hS hd (ob := .row e i.size es) (p := (.slice (some ⟨w.heap.size, 0, none⟩) xs.length xs.length, i.size, some w.heap.size)) (row := none) (w' := w.alloc (.cells out e)) hrun ⟨rfl, rfl, rfl, by simp, fun k hk _ => Below.heap_alloc w _ k hk⟩ (fun b hb => by cases hb)
    ⟨_, some w.heap.size, out.toList, Env.set_self _ _ _, hpos, hR, .inr ⟨w.heap.size, xs.length, out, rfl, by rw [hn], hS.grow.below.size, hS.sub.none (Nat.le_refl _), heap_alloc_new w _, by omega, by unfold maxLen; omega, fun e9 => by rw [e9] at hn; simpa using hn.symm, hsz, by rw [hn, List.take_of_length_le (by simp [hsz])]⟩⟩ rfl (fun b hb => by cases hb; exact .inl (Nat.le_refl _)) hk

theorem told_mkm (hS : Sim N w0 H0 S E a w H) (hd : ∀ t, o.dst = some t → t < N) {t kt : TypeId} (ho : o.op = .makeMap t none) (hk : K ((S.newO (.map kt 0 fun _ => none)).put? o.dst (.own S.n))) : Told N w0 H0 o K a w :=
  told_new hS hd (ob := .map kt 0 fun _ => none) (p := (.map (some w.heap.size), 0, some w.heap.size)) (row := none) (w' := w.alloc (.map #[] 0)) (by simp [execOp, ho, run_makeMap]) ⟨rfl, rfl, rfl, by simp, fun k hk _ => Below.heap_alloc w _ k hk⟩ (fun b hb => by cases hb)
    ⟨_, .map #[] 0, fun _ => none, Env.set_self _ _ _, hS.grow.below.size, hS.sub.none (Nat.le_refl _), heap_alloc_new w _, MapOf.made, by omega, fun j => by simp, fun j s u h => by cases h⟩ rfl (fun b hb => by cases hb; exact .inl (Nat.le_refl _)) hk

theorem ownsRow_rep {B : Nat} {e : TypeId} {k n : Nat} {v : Value} {xs : List Value} {es : List (List Sh)} (h : w.ownsRow B e k v n xs) (hr : RepEs H k es xs) (hn : es.length = n) (hpos : 0 < n) :
    ∃ g cap cur, v = .slice (some ⟨g, 0, none⟩) es.length cap ∧ B ≤ g ∧ w.heap[g]? = some (.cells cur e (0, 0)) ∧ es.length ≤ cap ∧ cap ≤ maxLen ∧ cur.size = cap * k ∧ cur.toList.take (es.length * k) = xs := by
  subst hn
  rcases h.2 with ⟨_, h0⟩ | ⟨g, cap, cur, h1, h2, h3, h4, h5, h6, h7⟩
  · omega
  · exact ⟨g, cap, cur, h1, h2, h3, h4, h5, h6, h7⟩

/-- append to a full slice that nobody writes, or to nothing. -/
theorem told_app2 (hS : Sim N w0 H0 S E a w H) (hd : ∀ t, o.dst = some t → t < N) {t e i z x y es ys k2 f2} (ho : o.op = .call ⟨.builtin .append, #[x, y], #[t, t]⟩) (ht : Try.prog.underlying t = some (.slice e)) (hi : Try.prog.info? e = some i) (hz : i.zero = some z) (hzs : z.cells.size = i.size) (hpos : 0 < i.size)
    {g1 : Nat} (hX : Rep H E (.sl i.size g1 es) (a.eval x)) (hg1 : g1 = 1 ∨ (g1 = 0 ∧ es = [])) (hy : S.opd y = some (.sl k2 f2 ys)) (hk2 : k2 = i.size) (hm : es = [] ∨ 0 < ys.length) (b1 : es.length + ys.length ≤ 140737488355328) (b2 : (es.length + ys.length) * i.bytes ≤ 140737488355328)
    (hk : K ((S.newO (.row e i.size (es ++ ys))).put? o.dst (.own S.n))) : Told N w0 H0 o K a w := by
  subst hk2
  have hY := hS.opds [y] y (by simp) _ hy
  generalize hqx : a.eval x = qx at hX
  generalize hqy : a.eval y = qy at hY
  obtain ⟨a1, n, c, rfl⟩ : ∃ a n c, qx = .slice a n c := by cases hX; exact ⟨_, _, _, rfl⟩
  obtain ⟨a2, m, c2, rfl⟩ : ∃ a n c, qy = .slice a n c := by cases hY; exact ⟨_, _, _, rfl⟩
  obtain ⟨us, p1, p2, p3, _, p4, p5, p6⟩ := sl_cells hS.sub hX
  obtain ⟨vs, q1, q2, q3, _, q4, q5, q6⟩ := sl_cells hS.sub hY
  subst p2; subst q2
  by_cases h0 : 0 < ys.length
  · cases a2 with
    | none => have := q5 rfl; omega
    | some ad =>
      have hml : es.length + ys.length ≤ maxLen := by unfold maxLen; omega
      obtain ⟨v', w', hrun, r1, r2⟩ := run_append_sh (P := Try.prog) (w := w) (k := i.size) t o.type e i z ht hi hz hzs hpos (c2 := c2) p1.length p1.one (p4.full hg1) p5 p6 q1.length q1.one (q6 ad rfl) h0 hml b2
      obtain ⟨g, cap, cur, rfl, s2, s3, s4, s5, s6, s7⟩ := ownsRow_rep r1 (p1.append q1) (by simp) (by omega)
      refine told_new hS hd (ob := .row e i.size (es ++ ys)) (p := (.slice (some ⟨g, 0, none⟩) (es ++ ys).length cap, i.size, some g)) (row := none) (w' := w') (by simp [execOp, ho, resolve, hqx, hqy, invoke, builtin, hrun]) r2 (fun b hb => by cases hb)
        ⟨_, some g, _, Env.set_self _ _ _, hpos, p1.append q1, .inr ⟨g, cap, cur, rfl, rfl, Nat.le_trans hS.grow.below.size s2, hS.sub.none s2, s3, s4, s5, fun e => absurd (List.append_eq_nil_iff.1 e).2 (fun e => by simp [e] at h0), s6, s7⟩⟩ rfl (fun b hb => by cases hb; exact .inl s2) hk
  · have he : es = [] := hm.resolve_right h0
    have hy0 : ys = [] := List.eq_nil_of_length_eq_zero (by omega)
    subst he; subst hy0
    have hc := p4.full hg1
    simp only [List.length_nil] at hc hqx hqy
    subst hc
    have hrun : (Builtin.append_ #[t, t] o.type #[.slice a1 0 0, .slice a2 0 c2]).run Try.prog w = .ok (.slice a1 0 0) w := by
      have hl : ∀ (x : Addr), (loadCells x 0).run Try.prog w = .ok #[] w := fun x => by simpa using run_loadCells_list (P := Try.prog) w x [] (by simp)
      cases a1 <;> cases a2 <;> simp [Builtin.append_, run_underlying ht, run_sizeOf hi, Builtin.lenOf, Builtin.firstCells, hl, storeCells]
    refine told_new hS hd (ob := .row e i.size []) (p := (.slice a1 0 0, i.size, none)) (row := none) (w' := w) (by simp [execOp, ho, resolve, hqx, hqy, invoke, builtin, hrun]) ⟨rfl, rfl, rfl, Nat.le_refl _, fun k hk _ => rfl⟩ (fun b hb => by cases hb)
      ⟨_, none, [], Env.set_self _ _ _, hpos, .nil, .inl ⟨rfl, rfl, a1, rfl⟩⟩ rfl (fun b hb => by cases hb) (by simpa using hk)

theorem getA_del {α : Type} {l : List (Nat × α)} {i j : Nat} {x : α} (h : getA (delA l i) j = some x) : getA l j = some x ∧ i ≠ j := getA_del_some h

/-- append to one's own row. -/
theorem told_app1 (hS : Sim N w0 H0 S E a w H) (hd : ∀ t, o.dst = some t → t < N) {t e i z x y ri es ys k2 f2} (ho : o.op = .call ⟨.builtin .append, #[x, y], #[t, t]⟩) (ht : Try.prog.underlying t = some (.slice e)) (hi : Try.prog.info? e = some i) (hz : i.zero = some z) (hzs : z.cells.size = i.size) (hpos : 0 < i.size)
    (hx : S.opd x = some (.own ri)) (hg : getA S.O ri = some (.row e i.size es)) (hy : S.opd y = some (.sl k2 f2 ys)) (hk2 : k2 = i.size) (b1 : es.length + ys.length ≤ 140737488355328) (b2 : (es.length + ys.length) * i.bytes ≤ 140737488355328)
    (hk : K ((St.newO ⟨S.T, delA S.O ri, S.n⟩ (.row e i.size (es ++ ys))).put? o.dst (.own S.n))) : Told N w0 H0 o K a w := by
  have hX := hS.opds [x] x (by simp) _ hx
  have hL : Sim N w0 H0 ⟨S.T, delA S.O ri, S.n⟩ E a w H := hS.less (fun _ _ h => h) (fun i o h => (getA_del h).1) rfl
  obtain ⟨u, ob, xs, e1, hkp, e2, e3⟩ := hS.ob _ _ hg
  have hXu : a.eval x = u := by
    generalize a.eval x = qx at hX
    cases hX with
    | own hE _ => rw [hE] at e1; cases e1; rfl
  rcases e3 with ⟨rfl, rfl, ad, rfl⟩ | ⟨g, cap, cur, rfl, rfl, a3, a4, a5, a6, a7, a7', a8, a9⟩
  · refine told_app2 (es := []) (g1 := 1) hL hd ho ht hi hz hzs hpos ?_ (.inl rfl) (S := ⟨S.T, delA S.O ri, S.n⟩) (y := y) (ys := ys) (k2 := k2) (f2 := f2) ?_ hk2 (.inl rfl) b1 b2 hk
    · rw [hXu]; exact .sl .nil rfl (Nat.le_refl _) (Nat.zero_le _) ⟨fun _ => rfl, fun _ _ => rfl⟩ (fun _ => rfl) (fun j u hu => by simp at hu)
    · revert hy
      cases y with
      | tmp ty =>
        simp only [St.opd, Option.map_eq_some_iff]
        rintro ⟨s0, h1, h2⟩
        refine ⟨s0, h1, ?_⟩
        revert h2
        cases s0 <;> simp only [St.res] <;> intro h2
        case own j =>
          split at h2
          · rename_i yy hj
            subst h2
            by_cases hji : ri = j
            · subst hji; rw [hg] at hj; cases hj
            · rw [getA_delA_other _ hji, hj]
          · cases h2
        case ptr j idx off => split at h2 <;> cases h2
        all_goals exact h2
      | const v => intro h; exact h
      | func f => intro h; exact h
      | global g => intro h; exact h
  · subst hk2
    have hY := hS.opds [y] y (by simp) _ hy
    generalize hqy : a.eval y = qy at hY
    obtain ⟨a2, m, c2, rfl⟩ : ∃ a n c, qy = .slice a n c := by cases hY; exact ⟨_, _, _, rfl⟩
    obtain ⟨vs, q1, q2, q3, _, q4, q5, q6⟩ := sl_cells hS.sub hY
    subst q2
    have hown : ∀ j u k, lives (⟨S.T, delA S.O ri, S.n⟩ : St) j → E j ≠ some (u, k, some g) := by
      rintro j u k ⟨o', hj, hl⟩ he
      obtain ⟨hj, hne⟩ := getA_del hj
      exact hS.ap ri j hne ⟨_, hg, rfl⟩ ⟨o', hj, hl⟩ g _ _ _ _ e1 he
    have hml : es.length + ys.length ≤ maxLen := by unfold maxLen; omega
    have hrep := e2.append q1
    have hxl := e2.length
    have hyl := q1.length
    have hn : ∀ hm : 0 < es.length + ys.length, ∀ (v' : Value) (w' : World) (row : Option Nat), (Builtin.append_ #[t, t] o.type #[.slice (some ⟨g, 0, none⟩) es.length cap, .slice a2 ys.length c2]).run Try.prog w = .ok v' w' → w.grownBy w' row → (row = none ∨ row = some g) →
        (∃ g' cap' cur', v' = .slice (some ⟨g', 0, none⟩) (es ++ ys).length cap' ∧ w0.heap.size ≤ g' ∧ H g' = none ∧ (w.heap.size ≤ g' ∨ row = some g') ∧ w'.heap[g']? = some (.cells cur' e (0, 0)) ∧ (es ++ ys).length ≤ cap' ∧ cap' ≤ maxLen ∧ (es ++ ys = [] → cap' = 0) ∧ cur'.size = cap' * i.size ∧ cur'.toList.take ((es ++ ys).length * i.size) = xs ++ vs) → Told N w0 H0 o K a w := by
      rintro _ v' w' row hrun gg hrow ⟨g', cap', cur', rfl, s2, s2', s2'', s3, s4, s5, s5', s6, s7⟩
      refine told_new hL hd (ob := .row e i.size (es ++ ys)) (p := (.slice (some ⟨g', 0, none⟩) (es ++ ys).length cap', i.size, some g')) (row := row) (w' := w') (by simp [execOp, ho, resolve, hXu, hqy, invoke, builtin, hrun]) gg (fun b hb => ?_)
        ⟨_, some g', _, Env.set_self _ _ _, hpos, hrep, .inr ⟨g', cap', cur', rfl, rfl, s2, s2', s3, s4, s5, s5', s6, s7⟩⟩ rfl (fun b hb => by cases hb; exact s2'') hk
      rcases hrow with rfl | rfl
      · cases hb
      · cases hb; exact ⟨a3, a4, hown⟩
    have hlen : (es ++ ys).length = es.length + ys.length := by simp
    by_cases h0 : 0 < ys.length
    · cases a2 with
      | none => have := q5 rfl; omega
      | some ad =>
        by_cases hroom : es.length + ys.length ≤ cap
        · have hfit : es.length * i.size + vs.length ≤ cur.size := by rw [hyl, a8, ← Nat.add_mul]; exact Nat.mul_le_mul_right _ hroom
          have hr := run_append_room (P := Try.prog) w t o.type e i ht hi g es.length cap cur a5 ad ys.length c2 vs hyl (q6 ad rfl) q1.one hroom hfit
          refine hn (by omega) _ _ (some g) hr ⟨rfl, rfl, rfl, by simp [World.setRow], fun k _ hk => setRow_other w g k _ (fun e => hk (by rw [e]))⟩ (.inr rfl) ⟨g, cap, _, by rw [hlen], a3, a4, .inr rfl, setRow_heap w g cur _ e _ a5, by omega, a7, fun e => absurd (List.append_eq_nil_iff.1 e).2 (fun e => by simp [e] at h0), ?_, ?_⟩
          · simp only [List.size_toArray, List.length_append, List.length_take, List.length_drop, Array.length_toList]; omega
          · rw [a9, hlen]
            have : (es.length + ys.length) * i.size = (xs ++ vs).length := by simp [hxl, hyl, Nat.add_mul]
            rw [this]; exact List.take_left
        · obtain ⟨v', w', hrun, r1, r2⟩ := run_append_arg_grows (P := Try.prog) w t o.type e i z i.size i.bytes ht hi hz rfl rfl hzs hpos ⟨g, 0, none⟩ es.length cap xs hxl (fun j u hu => by
            rw [Addr.add_lit, ← a9, List.getElem?_take] at *
            split at hu
            · simp [World.cell?, a5]; simpa using hu
            · cases hu) ad ys.length c2 vs hyl (q6 ad rfl) (by omega) hml b2
          obtain ⟨g', cap', cur', rfl, s2, s3, s4, s5, s6, s7⟩ := ownsRow_rep r1 hrep (by simp) (by omega)
          exact hn (by omega) _ _ none hrun r2 (.inl rfl) ⟨g', cap', cur', rfl, Nat.le_trans hS.grow.below.size s2, hS.sub.none s2, .inl s2, s3, s4, s5, fun e => absurd (List.append_eq_nil_iff.1 e).2 (fun e => by simp [e] at h0), s6, s7⟩
    · have hy0 : ys = [] := List.eq_nil_of_length_eq_zero (by omega)
      subst hy0
      have hvs : vs = [] := List.eq_nil_of_length_eq_zero (by simpa using hyl)
      subst hvs
      simp only [List.length_nil] at hqy
      have hrun : (Builtin.append_ #[t, t] o.type #[.slice (some ⟨g, 0, none⟩) es.length cap, .slice a2 0 c2]).run Try.prog w = .ok (.slice (some ⟨g, 0, none⟩) es.length cap) w := by
        have hl : ∀ (x : Addr), (loadCells x 0).run Try.prog w = .ok #[] w := fun x => by simpa using run_loadCells_list (P := Try.prog) w x [] (by simp)
        cases a2 <;> simp [Builtin.append_, run_underlying ht, run_sizeOf hi, Builtin.lenOf, Builtin.firstCells, hl, storeCells, a6]
      refine told_new hL hd (ob := .row e i.size (es ++ [])) (p := (.slice (some ⟨g, 0, none⟩) es.length cap, i.size, some g)) (row := some g) (w' := w) (by simp [execOp, ho, resolve, hXu, hqy, invoke, builtin, hrun]) ⟨rfl, rfl, rfl, Nat.le_refl _, fun k hk _ => rfl⟩ (fun b hb => by cases hb; exact ⟨a3, a4, hown⟩)
        ⟨_, some g, _, Env.set_self _ _ _, hpos, hrep, .inr ⟨g, cap, cur, rfl, by simp, a3, a4, a5, by simpa using a6, a7, fun e => a7' (by simpa using e), a8, by simpa using a9⟩⟩ rfl (fun b hb => by cases hb; exact .inr rfl) hk

theorem run_copy_gen {P : Program} (dT sT ty elem : TypeId) (i : TypeInfo) (hu : P.underlying dT = some (.slice elem)) (hi : P.info? elem = some i) (g dLen dCap : Nat) (src : Option Addr) (sLen sCap : Nat) (cur : Array Value) (t : TypeId) (cs : List Value)
    (hg : w.heap[g]? = some (.cells cur t (0, 0))) (hn : cs.length = Nat.min sLen dLen * i.size) (hsn : src = none → sLen = 0)
    (hsrc : ∀ a, src = some a → ∀ j v, cs[j]? = some v → w.cell? (a.add j) = some v) (hfit : cs.length ≤ cur.size) (h1 : ∀ v ∈ cs, v.oneCell' = true) :
    (Builtin.copy_ #[dT, sT] ty #[.slice (some ⟨g, 0, none⟩) dLen dCap, .slice src sLen sCap]).run P w = .ok (goInt (Nat.min sLen dLen : Nat)) (w.setRow g (cs ++ cur.toList.drop cs.length).toArray) := by
  have hst := run_storeCells_at P g 0 t cs 0 cur w hg (by simpa using hfit) h1
  simp only [Nat.zero_add, List.take_zero, List.nil_append] at hst
  cases src with
  | none =>
    have := hsn rfl
    subst this
    simp at hn
    subst hn
    simp only [List.nil_append, List.length_nil, List.drop_zero] at hst ⊢
    simp [Builtin.copy_, run_underlying hu, Builtin.lenOf, Builtin.firstCells, run_sizeOf hi, hst]
  | some a =>
    have hl := run_loadCells_list (P := P) w a cs (hsrc a rfl)
    rw [hn] at hl
    simp [Builtin.copy_, run_underlying hu, Builtin.lenOf, Builtin.firstCells, run_sizeOf hi, hl, hst]

theorem run_copy_zero {P : Program} (dT sT ty elem : TypeId) (i : TypeInfo) (hu : P.underlying dT = some (.slice elem)) (hi : P.info? elem = some i) (d : Option Addr) (dCap : Nat) (src : Option Addr) (sLen sCap : Nat) :
    (Builtin.copy_ #[dT, sT] ty #[.slice d 0 dCap, .slice src sLen sCap]).run P w = .ok (goInt 0) w := by
  have hl : ∀ (x : Addr), (loadCells x 0).run P w = .ok #[] w := fun x => by simpa using run_loadCells_list (P := P) w x [] (by simp)
  cases d <;> cases src <;> simp [Builtin.copy_, run_underlying hu, Builtin.lenOf, Builtin.firstCells, run_sizeOf hi, hl, storeCells]

theorem told_value' {v : Value} (he : (execOp a.eval o).run Try.prog w = .ok (.value v) w') (hd : ∀ t, o.dst = some t → t < N) {S' : St} {E' : Env} {H' : Hp} (hS' : Sim N w0 H0 S' E' a w' H') {s : Sh} (hr : Rep H' E' s v) (hk : K (S'.put? o.dst s)) : Told N w0 H0 o K a w := by
  unfold Told Oper.wp
  rw [he]
  exact ⟨_, E', H', hk, hS'.put hr hd⟩

theorem told_cpy (hS : Sim N w0 H0 S E a w H) (hd : ∀ t, o.dst = some t → t < N) {t e i x y t2 ri et es ys k2 f2} (ho : o.op = .call ⟨.builtin .copy, #[x, y], #[t, t2]⟩) (ht : Try.prog.underlying t = some (.slice e)) (hi : Try.prog.info? e = some i)
    (hx : S.opd x = some (.own ri)) (hg : getA S.O ri = some (.row et i.size es)) (hy : S.opd y = some (.sl k2 f2 ys)) (hk2 : k2 = i.size)
    (hk : K ((S.setO ri (.row et i.size (ys.take es.length ++ es.drop ys.length))).put? o.dst (.v (.int .i64 (min ys.length es.length : Nat))))) : Told N w0 H0 o K a w := by
  subst hk2
  have hX := hS.opds [x] x (by simp) _ hx
  have hY := hS.opds [y] y (by simp) _ hy
  obtain ⟨u, ob, xs, e1, hkp, e2, e3⟩ := hS.ob _ _ hg
  have hXu : a.eval x = u := by
    generalize a.eval x = qx at hX
    cases hX with
    | own hE _ => rw [hE] at e1; cases e1; rfl
  generalize hqy : a.eval y = qy at hY
  obtain ⟨a2, m, c2, rfl⟩ : ∃ a n c, qy = .slice a n c := by cases hY; exact ⟨_, _, _, rfl⟩
  obtain ⟨vs, q1, q2, q3, _, q4, q5, q6⟩ := sl_cells hS.sub hY
  subst q2
  have hmin : Nat.min ys.length es.length = min ys.length es.length := rfl
  rcases e3 with ⟨rfl, rfl, ad, rfl⟩ | ⟨g, cap, cur, rfl, rfl, a3, a4, a5, a6, a7, a7', a8, a9⟩
  · have hrun := run_copy_zero (P := Try.prog) (w := w) t t2 o.type e i ht hi ad 0 a2 ys.length c2
    have hq : (S.setO ri (.row et i.size (ys.take 0 ++ ([] : List (List Sh)).drop ys.length))) = S.setO ri (.row et i.size []) := by simp
    simp only [List.length_nil] at hk
    rw [hq] at hk
    have hS' : Sim N w0 H0 (S.setO ri (.row et i.size [])) E a w H := hS.less (S' := S.setO ri (.row et i.size [])) (fun _ _ h => h) (fun j o' hj => by
      simp only [St.setO, getA_put] at hj
      split at hj
      · rename_i e; cases hj; subst e; exact hg
      · exact hj) rfl
    exact told_value' (v := .int .i64 0) (w' := w) (by simp [execOp, ho, resolve, hXu, hqy, invoke, builtin, hrun, goInt]) hd hS' (.v rfl) (by simpa using hk)
  · have hxl := e2.length
    have hyl := q1.length
    have h1 : (vs.take (min ys.length es.length * i.size)).length = min ys.length es.length * i.size := by
      rw [List.length_take, hyl]; exact Nat.min_eq_left (Nat.mul_le_mul_right _ (Nat.min_le_left _ _))
    have hm1 : min ys.length es.length * i.size ≤ es.length * i.size := Nat.mul_le_mul_right _ (Nat.min_le_right _ _)
    have hm2 : es.length * i.size ≤ cap * i.size := Nat.mul_le_mul_right _ a6
    have hrun := run_copy_gen (P := Try.prog) (w := w) t t2 o.type e i ht hi g es.length cap a2 ys.length c2 cur et (vs.take (min ys.length es.length * i.size)) a5 h1 (fun h => by have := q5 h; omega)
      (fun ad hh j v hv => q6 ad hh j v (by rw [List.getElem?_take] at hv; split at hv; exact hv; cases hv)) (by omega) (fun v hv => q1.one v (List.mem_of_mem_take hv))
    rw [h1] at hrun
    have hp : Put w g (vs.take (min ys.length es.length * i.size) ++ cur.toList.drop (min ys.length es.length * i.size)).toArray et (w.setRow g (vs.take (min ys.length es.length * i.size) ++ cur.toList.drop (min ys.length es.length * i.size)).toArray) := put_setRow a5
    have hlen : (ys.take es.length ++ es.drop ys.length).length = es.length := by simp; omega
    have htake : ys.take es.length = ys.take (min ys.length es.length) := by
      rcases Nat.le_total ys.length es.length with h | h
      · rw [Nat.min_eq_left h, List.take_of_length_le h, List.take_of_length_le (Nat.le_refl _)]
      · rw [Nat.min_eq_right h]
    have hdrop : es.drop ys.length = es.drop (min ys.length es.length) := by
      rcases Nat.le_total ys.length es.length with h | h
      · rw [Nat.min_eq_left h]
      · rw [Nat.min_eq_right h, List.drop_of_length_le h, List.drop_of_length_le (Nat.le_refl _)]
    have hrep : RepEs H i.size (ys.take es.length ++ es.drop ys.length) (vs.take (min ys.length es.length * i.size) ++ xs.drop (min ys.length es.length * i.size)) := by
      rw [htake, hdrop]; exact (q1.take _).append (e2.drop _)
    have hU := hS.upd (o' := .row et i.size (ys.take es.length ++ es.drop ys.length)) ⟨_, hg, rfl⟩ e1 (fun k _ hk => hp.same k hk) (by rw [hp.size]; exact Nat.le_refl _) hp.os hp.tape hp.output
      ⟨_, some g, _, e1, hkp, hrep, .inr ⟨g, cap, _, rfl, by rw [hlen], a3, a4, hp.box, by rw [hlen]; exact a6, a7, fun e => a7' (List.eq_nil_of_length_eq_zero (by rw [← hlen, e]; rfl)), ?_, ?_⟩⟩ rfl
    · rw [hmin] at hrun
      exact told_value' (v := goInt (min ys.length es.length : Nat)) (w' := (w.setRow g (vs.take (min ys.length es.length * i.size) ++ cur.toList.drop (min ys.length es.length * i.size)).toArray)) (by simp only [execOp, ho, resolve, hXu, hqy, invoke, builtin, Sem.run_bind, Sem.run_pure, Result.andThen_ok, List.map_toArray, List.map_cons, List.map_nil, hrun]) hd hU (.v rfl) hk
    · simp only [List.size_toArray, List.length_append, h1, List.length_drop, Array.length_toList]; omega
    · rw [hlen, List.toList_toArray, List.take_append, h1, List.take_of_length_le (by rw [h1]; exact hm1), ← a9, List.drop_take]

theorem told_mup (hS : Sim N w0 H0 S E a w H) (hd : o.dst = none) {t kt e m key x ri M f n v} (ho : o.op = .mapUpdate t m key x ∨ o.op = .insert t m key x) (ht : Try.prog.underlying t = some (.map kt e)) (hkt : Try.prog.underlying kt = some (.int .i64))
    (hm : S.opd m = some (.own ri)) (hkey : S.opd key = some (.v (.int .i64 n))) (hx : (S.opd x).bind S.arg = some v) (hg : getA S.O ri = some (.map kt M f)) (hM : M < 1000000) (n1 : -9223372036854775808 ≤ n) (n2 : n ≤ 9223372036854775807)
    {M' : Nat} (hM' : M' = M + 1 ∨ (M' ≤ 1000000 ∧ ∀ j, (if j = n then some v else f j) ≠ none → 0 ≤ j ∧ j < (M' : Int))) (hk : K (S.setO ri (.map kt M' fun j => if j = n then some v else f j))) : Told N w0 H0 o K a w := by
  have hMm := hS.opds [m] m (by simp) _ hm
  have hKk := hS.opds [key] key (by simp) _ hkey
  obtain ⟨y, hy, hv⟩ := Option.bind_eq_some_iff.1 hx
  have hV := arg_rep hS.ob (hS.opds [x] x (by simp) _ hy) hv
  obtain ⟨b, oo, F, e1, e2, e3, e4, e5, e6, e7, e8⟩ := hS.ob _ _ hg
  have hXu : a.eval m = .map (some b) := by
    generalize a.eval m = qx at hMm
    cases hMm with
    | own hE _ => rw [hE] at e1; cases e1; rfl
  have hKu : a.eval key = .int .i64 n := by
    generalize a.eval key = qx at hKk
    cases hKk; rfl
  obtain ⟨w', o', hrun, r0, r1, r2⟩ := e5.update e4 hkt ht (by unfold maxLen; omega) n1 n2 (a.eval x)
  refine told_skip (w' := w') (by rcases ho with ho | ho <;> simp [execOp, ho, hXu, hKu, hrun]) hd (hS.upd (o' := .map kt M' fun j => if j = n then some v else f j) ⟨_, hg, rfl⟩ e1 (fun k hk hne => r2.block k hk (fun e => hne (Option.some.inj e))) r2.size r2.os r2.tape r2.output
    ⟨b, o', _, e1, e2, e3, r0, (by
      rcases hM' with rfl | ⟨_, hM'⟩
      · exact r1
      · exact r1.tight hkt M' (fun j hj => hM' j (fun e => by
          have : upd F n (some (a.eval x)) j = none := by
            unfold upd
            split at e
            · cases e
            · rename_i hne; rw [if_neg hne]; exact (e7 j).1 e
          rw [this] at hj; cases hj))), (by rcases hM' with rfl | h; omega; exact h.1), fun j => ?_, fun j s u hs hu => ?_⟩ rfl) hk
  · unfold upd; by_cases hj : j = n <;> simp [hj, e7]
  · unfold upd at hu
    simp only at hs
    split at hs
    · rename_i hj; cases hs; rw [if_pos hj] at hu; cases hu; exact hV
    · rename_i hj; rw [if_neg hj] at hu; exact e8 j s u hs hu


theorem bornOf_modify {es : Array MapEntry} {j : Nat} {e0 : MapEntry} (h : es[j]? = some e0) {key v : Value} (hk : e0.key = key) : bornOf (es.modify j fun e' => { e' with key := key, val := v }) = bornOf es := by
  unfold bornOf
  have hl : es.toList[j]? = some e0 := by simpa using h
  rw [Array.toList_modify, ChangeMaps.modify_eq_set _ _ _ _ hl, List.map_set]
  refine List.ext_getElem? fun i => ?_
  rw [List.getElem?_set]
  split
  · rename_i e
    subst e
    have hlt : j < (es.toList.map fun x => (x.key, x.born)).length := by simpa using (List.getElem?_eq_some_iff.1 hl).1
    rw [if_pos hlt, List.getElem?_map, hl]
    simp [hk]
  · rfl
/-- What is there is written anew. -/
theorem MapOf.there {kt t e : TypeId} {es : Array MapEntry} {c n b : Nat} {f : Int → Option Value} {w : World} (h : MapOf kt (.map es c) n f) (hb : w.heap[b]? = some (.map es c)) (hk : Try.prog.underlying kt = some (.int .i64))
    (ht : Try.prog.underlying t = some (.map kt e)) (hn : n < maxLen) {k : Int} (h1 : -9223372036854775808 ≤ k) (h2 : k ≤ 9223372036854775807) (hf : (f k).isSome = true) (v : Value) :
    ∃ w' es', (Instr.mapUpdate t (.map (some b)) (.int .i64 k) v).run Try.prog w = .ok () w' ∧ w'.heap[b]? = some (.map es' c) ∧ bornOf es' = bornOf es ∧ MapOf kt (.map es' c) n (upd f k (some v)) ∧ w.grownBy w' (some b) := by
  obtain ⟨w', o', hrun, r0, r1, r2⟩ := h.update hb hk ht hn h1 h2 v
  obtain ⟨D, ⟨es0, c0, he, F, hs, hD⟩, hat⟩ := h
  cases he
  have K := int_keyed (P := Try.prog) hk
  have hkey := keyOf_int_mk (P := Try.prog) hk (wf64 h1 h2)
  rcases K.find w hkey es.toList F.keys with ⟨q1, q2⟩ | ⟨j, e0, q1, q2, q3⟩
  · exfalso
    obtain ⟨u, hu⟩ := Option.isSome_iff_exists.1 hf
    have h0 := hat k
    rw [hu] at h0
    have hD' : Maps.has D (.int .i64 k) = true := by
      cases hh : Maps.has D (.int .i64 k) with
      | true => rfl
      | false =>
        rw [hD] at hh h0
        rw [Maps.atKey_of_not_has hh .nil] at h0; cases h0
    rw [hD] at hD'
    obtain ⟨p, hp, hpk⟩ := List.any_eq_true.1 hD'
    obtain ⟨x, hx, rfl⟩ := List.mem_map.1 (mem_sorted.1 hp)
    obtain ⟨y, hy⟩ := F.reads x hx
    have m1 := Go.WideElems.rd_key hy
    have e1 := WideAt.sameKey_eq hpk
    rw [Go.WideElems.rg_of hy] at e1
    rw [e1] at m1
    exact q2 x hx (K.inj m1 hkey)
  · have hj : es[j]? = some e0 := by simpa using q2
    have hrun2 : (Instr.mapUpdate t (.map (some b)) (.int .i64 k) v).run Try.prog w = .ok () (ChangeMaps.setBlock w b (.map (es.modify j fun e' => { e' with key := .int .i64 k, val := v }) c)) := by
      simp [Instr.mapUpdate, run_underlying ht, MapKept.run_getObj_map hb, K.check w false hkey, q1, hj, q3, K.stays w hkey, MapKept.run_setObj_map _ hb, Result.andThen, ChangeMaps.setBlock]
    rw [hrun] at hrun2
    have hw : w' = ChangeMaps.setBlock w b (.map (es.modify j fun e' => { e' with key := .int .i64 k, val := v }) c) := by cases hrun2; rfl
    have hb' : w'.heap[b]? = some (.map (es.modify j fun e' => { e' with key := .int .i64 k, val := v }) c) := by rw [hw]; exact ChangeMaps.heap_setBlock_same hb _
    rw [r0] at hb'
    cases hb'
    refine ⟨w', _, hrun, r0, bornOf_modify hj q3, ?_, r2⟩
    obtain ⟨D', ⟨es1, c1, he1, F1, hs1, hD1⟩, hat1⟩ := r1
    cases he1
    exact ⟨D', ⟨_, _, rfl, F1, by simpa using hs, hD1⟩, hat1⟩
theorem told_mpr (hS : Sim N w0 H0 S E a w H) (hd : o.dst = none) {t kt e m key x ri M f n v q} (ho : o.op = .mapUpdate t m key x ∨ o.op = .insert t m key x) (ht : Try.prog.underlying t = some (.map kt e)) (hkt : Try.prog.underlying kt = some (.int .i64))
    (hm : S.opd m = some (.own ri)) (hkey : S.opd key = some (.v (.int .i64 n))) (hx : (S.opd x).bind S.arg = some v) (hg : getA S.O ri = some (.mpr q kt M f)) (hf : (f n).isSome = true) (n1 : -9223372036854775808 ≤ n) (n2 : n ≤ 9223372036854775807)
    (hk : K (S.setO ri (.mpr q kt M fun j => if j = n then some v else f j))) : Told N w0 H0 o K a w := by
  have hMm := hS.opds [m] m (by simp) _ hm
  have hKk := hS.opds [key] key (by simp) _ hkey
  obtain ⟨y, hy, hv⟩ := Option.bind_eq_some_iff.1 hx
  have hV := arg_rep hS.ob (hS.opds [x] x (by simp) _ hy) hv
  obtain ⟨es, F, e1, e2, e3, e4, e4', e5, e6, e7, e8⟩ := hS.ob _ _ hg
  have hXu : a.eval m = .map (some q.b) := by
    generalize a.eval m = qx at hMm
    cases hMm with
    | own hE _ => rw [hE] at e1; cases e1; rfl
  have hKu : a.eval key = .int .i64 n := by
    generalize a.eval key = qx at hKk
    cases hKk; rfl
  have hF : (F n).isSome = true := by
    have := e7 n
    cases h1 : f n <;> cases h2 : F n <;> simp_all
  obtain ⟨w', es', hrun, r0, r0', r1, r2⟩ := e5.there e4 hkt ht (by unfold maxLen; omega) n1 n2 hF (a.eval x)
  refine told_skip (w' := w') (by rcases ho with ho | ho <;> simp [execOp, ho, hXu, hKu, hrun]) hd (hS.upd (o' := .mpr q kt M fun j => if j = n then some v else f j) ⟨_, hg, rfl⟩ e1 (fun k hk hne => r2.block k hk (fun e => hne (Option.some.inj e))) r2.size r2.os r2.tape r2.output
    ⟨es', _, e1, e2, e3, r0, r0'.trans e4', r1, e6, fun j => ?_, fun j s u hs hu => ?_⟩ rfl) hk
  · unfold upd; by_cases hj : j = n <;> simp [hj, e7]
  · unfold upd at hu
    simp only at hs
    split at hs
    · rename_i hj; cases hs; rw [if_pos hj] at hu; cases hu; exact hV
    · rename_i hj; rw [if_neg hj] at hu; exact e8 j s u hs hu

/-- A call that hands back a row of one's own. -/
theorem told_row (hS : Sim N w0 H0 S E a w H) (hd : ∀ t, o.dst = some t → t < N) {f args tys l e k es} (ho : o.op = .call ⟨.value (.func f), args, tys⟩) (hE : Enters f) (hl : S.args args.toList = some l) (hr : OkRow f l e k es)
    (hk : K ((S.newO (.row e k es)).put? o.dst (.own S.n))) : Told N w0 H0 o K a w := by
  have hA := args_rep hS.ob (hS.opds args.toList) hl
  have hc := hr w H _ hS.sub hA
  have he : (execOp a.eval o).run Try.prog w = .ok (.enter f (args.toList.map a.eval).toArray) w := by
    have := hE (args.map a.eval) w
    rw [map_arr]
    simp [execOp, ho, resolve, Act.eval, Deferred.ofValue, invoke]
    exact this
  unfold Told Oper.wp
  rw [he, Oper.upon_enter]
  refine Calls.mono hc fun e' w' hq => ?_
  obtain ⟨v, xs, rfl, hg, hpos, hown, hR, hnil⟩ := hq
  have hS' := hS.grown hg
  have fresh : ∀ b, w.heap.size ≤ b → ∀ i, lives S i → ∀ u k, E i = some (u, k, some b) → False := fun b hb i hl u k hE => by
    have := (hS.live_lt hl hE).2.2
    omega
  by_cases h0 : es = []
  · subst h0
    obtain ⟨ad, rfl⟩ := hnil rfl
    have hN := hS'.new (o := .row e k []) (p := (.slice ad 0 0, k, none)) ⟨_, none, [], Env.set_self _ _ _, hpos, .nil, .inl ⟨rfl, rfl, ad, rfl⟩⟩ (fun b hb => by cases hb)
    exact ⟨_, _, H, hk, hN.put (.own (Env.set_self _ _ _) rfl) hd⟩
  · have hp : 0 < es.length := by cases es with | nil => exact absurd rfl h0 | cons => simp
    obtain ⟨g, cap, cur, rfl, s2, s3, s4, s5, s6, s7⟩ := ownsRow_rep hown hR rfl hp
    have hN := hS'.new (o := .row e k es) (p := (.slice (some ⟨g, 0, none⟩) es.length cap, k, some g)) ⟨_, some g, xs, Env.set_self _ _ _, hpos, hR, .inr ⟨g, cap, cur, rfl, rfl, Nat.le_trans hS.grow.below.size s2, hS.sub.none s2, s3, s4, s5, fun e => absurd e h0, s6, s7⟩⟩
      (fun b hb => by cases hb; exact fresh g s2)
    exact ⟨_, _, H, hk, hN.put (.own (Env.set_self _ _ _) rfl) hd⟩

/-- A call that hands back a map of one's own, or none. -/
theorem told_map (hS : Sim N w0 H0 S E a w H) (hd : ∀ t, o.dst = some t → t < N) {f args tys l kt M g} (ho : o.op = .call ⟨.value (.func f), args, tys⟩) (hE : Enters f) (hl : S.args args.toList = some l) (hr : OkMap f l kt M g)
    (hk : K ((S.newO (.map kt M g)).put? o.dst (.own S.n))) (hk2 : (∀ i, g i = none) → K (S.put? o.dst (.v (.map none)))) : Told N w0 H0 o K a w := by
  have hA := args_rep hS.ob (hS.opds args.toList) hl
  have hc := hr w H _ hS.sub hA
  have he : (execOp a.eval o).run Try.prog w = .ok (.enter f (args.toList.map a.eval).toArray) w := by
    have := hE (args.map a.eval) w
    rw [map_arr]
    simp [execOp, ho, resolve, Act.eval, Deferred.ofValue, invoke]
    exact this
  unfold Told Oper.wp
  rw [he, Oper.upon_enter]
  refine Calls.mono hc fun e' w' hq => ?_
  obtain ⟨v, rfl, hg, h⟩ := hq
  have hS' := hS.grown hg
  have fresh : ∀ b, w.heap.size ≤ b → ∀ i, lives S i → ∀ u k, E i = some (u, k, some b) → False := fun b hb i hl u k hE => by
    have := (hS.live_lt hl hE).2.2
    omega
  rcases h with ⟨rfl, h0⟩ | ⟨b, ob, F, rfl, h1, h2, h3, h4, h5, h6⟩
  · exact ⟨_, _, H, hk2 h0, hS'.put (.v rfl) hd⟩
  · have hN := hS'.new (o := .map kt M g) (p := (.map (some b), 0, some b)) ⟨b, ob, F, Env.set_self _ _ _, Nat.le_trans hS.grow.below.size h1, hS.sub.none h1, h2, h3, h4, h5, h6⟩ (fun b' hb => by cases hb; exact fresh b h1)
    exact ⟨_, _, H, hk, hN.put (.own (Env.set_self _ _ _) rfl) hd⟩

theorem opdL_rep (hS : Sim N w0 H0 S E a w H) : ∀ {xs : List Operand} {l : List Sh}, S.opdL xs = some l → RepL H E l (xs.map a.eval)
  | [], l, h => by simp only [St.opdL, Option.some.injEq] at h; subst h; exact .nil
  | x :: xs, l, h => by
    simp only [St.opdL, Option.bind_eq_some_iff, Option.map_eq_some_iff] at h
    obtain ⟨y, hy, l', hl, rfl⟩ := h
    exact .cons (hS.opds [x] x (by simp) _ hy) (opdL_rep hS hl)
/-- A call that is handed parts of one's own. -/
theorem told_callO (hS : Sim N w0 H0 S E a w H) (hd : ∀ t, o.dst = some t → t < N) {f args tys l P} (ho : o.op = .call ⟨.value (.func f), args, tys⟩) (hE : Enters f) (hl : S.opdL args.toList = some l) (hr : OkO f l S.O S.n P)
    (hk : ∀ J r O' n', P J r O' n' → K (St.put? ⟨S.T, delA O' S.n, n'⟩ o.dst r)) : Told N w0 H0 o K a w := by
  have hA := opdL_rep hS hl
  have hfr := hS.fr _ (Nat.le_refl _)
  have hle := Env.set_le (E := E) (i := S.n) (undef, 0, none) hfr
  have hSJ : Sim N w0 H0 ⟨[], (S.n, .gh fun H E => ∀ t x, getA S.T t = some x → Rep H E x (a.eval (.tmp t))) :: S.O, S.n + 1⟩ (E.set S.n (undef, 0, none)) a w H := by
    have := hS.new (o := .gh fun H E => ∀ t x, getA S.T t = some x → Rep H E x (a.eval (.tmp t))) (p := (undef, 0, none))
      ⟨⟨_, Env.set_self _ _ _⟩, fun t x hx => (hS.tm t x hx).mono (fun _ _ h => h) hle, fun H1 H2 E1 E2 g1 g2 hJ t x hx => (hJ t x hx).mono g1 g2⟩ (fun b hb => by cases hb)
    exact this.less (S' := ⟨[], (S.n, .gh fun H E => ∀ t x, getA S.T t = some x → Rep H E x (a.eval (.tmp t))) :: S.O, S.n + 1⟩) (fun t x hx => by cases hx) (fun _ _ h => h) rfl
  have hc := hr _ N w0 H0 _ a w H _ hSJ (hA.mono (fun _ _ h => h) hle)
  have he : (execOp a.eval o).run Try.prog w = .ok (.enter f (args.toList.map a.eval).toArray) w := by
    have := hE (args.map a.eval) w
    rw [map_arr]
    simp [execOp, ho, resolve, Act.eval, Deferred.ofValue, invoke]
    exact this
  unfold Told Oper.wp
  rw [he, Oper.upon_enter]
  refine Calls.mono hc fun e' w' hq => ?_
  obtain ⟨v, r, O', n', E', H', rfl, hP, hg, hS', hR⟩ := hq
  have hJ := (hS'.ob S.n _ hg).2.1
  have hS2 : Sim N w0 H0 ⟨S.T, delA O' S.n, n'⟩ E' a w' H' :=
    ⟨hS'.grow, hJ, fun i o ho => hS'.ob i o (getA_del_some ho).1, fun i j hij ⟨o1, h1, l1⟩ ⟨o2, h2, l2⟩ => hS'.ap i j hij ⟨o1, (getA_del_some h1).1, l1⟩ ⟨o2, (getA_del_some h2).1, l2⟩, hS'.fr, hS'.sz, hS'.df⟩
  exact ⟨_, E', H', hk _ r O' n' hP, hS2.put hR hd⟩

theorem told_callvO (hS : Sim N w0 H0 S E a w H) (hd : ∀ t, o.dst = some t → t < N) {x args tys s l0 f l P} (ho : o.op = .call ⟨.value x, args, tys⟩) (hx : S.opd x = some s) (hl : S.opdL args.toList = some l0) (hc : callee s l0 f l) (hr : OkO f l S.O S.n P)
    (hk : ∀ J r O' n', P J r O' n' → K (St.put? ⟨S.T, delA O' S.n, n'⟩ o.dst r)) : Told N w0 H0 o K a w := by
  have hA := opdL_rep hS hl
  have hX := hS.opds [x] x (by simp) _ hx
  have hfr := hS.fr _ (Nat.le_refl _)
  have hle := Env.set_le (E := E) (i := S.n) (undef, 0, none) hfr
  have hSJ : Sim N w0 H0 ⟨[], (S.n, .gh fun H E => ∀ t x, getA S.T t = some x → Rep H E x (a.eval (.tmp t))) :: S.O, S.n + 1⟩ (E.set S.n (undef, 0, none)) a w H := by
    have := hS.new (o := .gh fun H E => ∀ t x, getA S.T t = some x → Rep H E x (a.eval (.tmp t))) (p := (undef, 0, none))
      ⟨⟨_, Env.set_self _ _ _⟩, fun t x hx => (hS.tm t x hx).mono (fun _ _ h => h) hle, fun H1 H2 E1 E2 g1 g2 hJ t x hx => (hJ t x hx).mono g1 g2⟩ (fun b hb => by cases hb)
    exact this.less (S' := ⟨[], (S.n, .gh fun H E => ∀ t x, getA S.T t = some x → Rep H E x (a.eval (.tmp t))) :: S.O, S.n + 1⟩) (fun t x hx => by cases hx) (fun _ _ h => h) rfl
  obtain ⟨us, hU, he⟩ : ∃ us : List Value, RepL H E l us ∧ (execOp a.eval o).run Try.prog w = .ok (.enter f us.toArray) w := by
    rcases hc with ⟨first, cap, rfl, hE, rfl⟩ | ⟨name, t, s0, first, cap, rfl, hM, hE, rfl⟩
    · generalize hq : a.eval x = q at hX
      cases hX with
      | fn f1 f2 =>
        rename_i vs us
        refine ⟨(vs ++ args.toList.map a.eval) ++ us, ((f1.mono (fun _ _ h => h) (E0_le E)).append hA).append (f2.mono (fun _ _ h => h) (E0_le E)), ?_⟩
        have := hE ((vs ++ args.toList.map a.eval) ++ us).toArray w
        have e2 : ((vs ++ args.toList.map a.eval) ++ us).toArray = vs.toArray ++ args.map a.eval ++ us.toArray := by apply Array.ext'; simp
        rw [e2] at this ⊢
        simp only [execOp, ho, resolve, hq, Deferred.ofValue, invoke, Sem.run_bind, Sem.run_pure, Result.andThen_ok]
        exact this
    · generalize hq : a.eval x = q at hX
      cases hX with
      | fn f1 f2 =>
        rename_i vs us
        cases f1 with
        | cons hi f1 =>
          rename_i u vs
          cases hi with
          | ifc hi =>
            rename_i u
            refine ⟨u :: (vs ++ args.toList.map a.eval), .cons (hi.mono (fun _ _ h => h) (E0_le E)) ((f1.mono (fun _ _ h => h) (E0_le E)).append hA), ?_⟩
            have := hE (u :: (vs ++ args.toList.map a.eval)).toArray w
            have hm' := hM u w
            have e2 : (u :: (vs ++ args.toList.map a.eval)).toArray = #[u] ++ (vs.toArray ++ args.map a.eval) := by apply Array.ext'; simp
            have e3 : (((Value.iface t u :: vs).toArray ++ args.map a.eval).extract 1 ((Value.iface t u :: vs).toArray ++ args.map a.eval).size) = vs.toArray ++ args.map a.eval := by
              apply Array.ext'; simp
              rw [List.take_of_length_le (by omega), List.take_of_length_le (by simp)]
            have e4 : ((Value.iface t u :: vs).toArray ++ args.map a.eval)[0]? = some (Value.iface t u) := by rw [Array.getElem?_append_left (by simp)]; rfl
            rw [e2] at this ⊢
            simp only [execOp, ho, resolve, hq, Deferred.ofValue, invoke, Sem.run_bind, Sem.run_pure, Result.andThen_ok, e4, callMethod, e3, run_program, hm']
            exact this
  have hc := hr _ N w0 H0 _ a w H _ hSJ (hU.mono (fun _ _ h => h) hle)
  unfold Told Oper.wp
  rw [he, Oper.upon_enter]
  refine Calls.mono hc fun e' w' hq => ?_
  obtain ⟨v, r, O', n', E', H', rfl, hP, hg, hS', hR⟩ := hq
  have hJ := (hS'.ob S.n _ hg).2.1
  have hS2 : Sim N w0 H0 ⟨S.T, delA O' S.n, n'⟩ E' a w' H' :=
    ⟨hS'.grow, hJ, fun i o ho => hS'.ob i o (getA_del_some ho).1, fun i j hij ⟨o1, h1, l1⟩ ⟨o2, h2, l2⟩ => hS'.ap i j hij ⟨o1, (getA_del_some h1).1, l1⟩ ⟨o2, (getA_del_some h2).1, l2⟩, hS'.fr, hS'.sz, hS'.df⟩
  exact ⟨_, E', H', hk _ r O' n' hP, hS2.put hR hd⟩

theorem told_invO (hS : Sim N w0 H0 S E a w H) (hd : ∀ t, o.dst = some t → t < N) {x name args tys t s0 l0 f P} (ho : o.op = .call ⟨.invoke x name, args, tys⟩) (hx : S.opd x = some (.ifc t s0)) (hl : S.opdL args.toList = some l0) (hM : MethodIs t name f) (hEn : Enters f) (hr : OkO f (s0 :: l0) S.O S.n P)
    (hk : ∀ J r O' n', P J r O' n' → K (St.put? ⟨S.T, delA O' S.n, n'⟩ o.dst r)) : Told N w0 H0 o K a w := by
  have hA := opdL_rep hS hl
  have hX := hS.opds [x] x (by simp) _ hx
  have hfr := hS.fr _ (Nat.le_refl _)
  have hle := Env.set_le (E := E) (i := S.n) (undef, 0, none) hfr
  have hSJ : Sim N w0 H0 ⟨[], (S.n, .gh fun H E => ∀ t x, getA S.T t = some x → Rep H E x (a.eval (.tmp t))) :: S.O, S.n + 1⟩ (E.set S.n (undef, 0, none)) a w H := by
    have := hS.new (o := .gh fun H E => ∀ t x, getA S.T t = some x → Rep H E x (a.eval (.tmp t))) (p := (undef, 0, none))
      ⟨⟨_, Env.set_self _ _ _⟩, fun t x hx => (hS.tm t x hx).mono (fun _ _ h => h) hle, fun H1 H2 E1 E2 g1 g2 hJ t x hx => (hJ t x hx).mono g1 g2⟩ (fun b hb => by cases hb)
    exact this.less (S' := ⟨[], (S.n, .gh fun H E => ∀ t x, getA S.T t = some x → Rep H E x (a.eval (.tmp t))) :: S.O, S.n + 1⟩) (fun t x hx => by cases hx) (fun _ _ h => h) rfl
  obtain ⟨us, hU, he⟩ : ∃ us : List Value, RepL H E (s0 :: l0) us ∧ (execOp a.eval o).run Try.prog w = .ok (.enter f us.toArray) w := by
    generalize hq : a.eval x = q at hX
    cases hX with
    | ifc hi =>
      rename_i u
      refine ⟨u :: args.toList.map a.eval, .cons (hi.mono (fun _ _ h => h) (E0_le E)) hA, ?_⟩
      have := hEn (u :: args.toList.map a.eval).toArray w
      have hm' := hM u w
      have e2 : (u :: args.toList.map a.eval).toArray = #[u] ++ args.map a.eval := by apply Array.ext'; simp
      have e3 : ((#[Value.iface t u] ++ args.map a.eval).extract 1 (#[Value.iface t u] ++ args.map a.eval).size) = args.map a.eval := by
        apply Array.ext'; simp
        rw [List.take_of_length_le (by simp)]
      have e4 : (#[Value.iface t u] ++ args.map a.eval)[0]? = some (Value.iface t u) := by rw [Array.getElem?_append_left (by simp)]; rfl
      rw [e2] at this ⊢
      simp only [execOp, ho, resolve, hq, invoke, Sem.run_bind, Sem.run_pure, Result.andThen_ok, e4, callMethod, e3, run_program, hm']
      exact this
  have hc := hr _ N w0 H0 _ a w H _ hSJ (hU.mono (fun _ _ h => h) hle)
  unfold Told Oper.wp
  rw [he, Oper.upon_enter]
  refine Calls.mono hc fun e' w' hq => ?_
  obtain ⟨v, r, O', n', E', H', rfl, hP, hg, hS', hR⟩ := hq
  have hJ := (hS'.ob S.n _ hg).2.1
  have hS2 : Sim N w0 H0 ⟨S.T, delA O' S.n, n'⟩ E' a w' H' :=
    ⟨hS'.grow, hJ, fun i o ho => hS'.ob i o (getA_del_some ho).1, fun i j hij ⟨o1, h1, l1⟩ ⟨o2, h2, l2⟩ => hS'.ap i j hij ⟨o1, (getA_del_some h1).1, l1⟩ ⟨o2, (getA_del_some h2).1, l2⟩, hS'.fr, hS'.sz, hS'.df⟩
  exact ⟨_, E', H', hk _ r O' n' hP, hS2.put hR hd⟩

theorem told_eqo (hS : Sim N w0 H0 S E a w H) (hd : ∀ t, o.dst = some t → t < N) {t x y t2 i kt kt' e M f} {neg : Bool} (ho : o.op = .binOp (if neg then .neq else .eql) t x y t2) (hu : Try.prog.underlying t = some (.map kt' e))
    (hx : S.opd x = some (.own i)) (hy : S.opd y = some (.v (.map none))) (hg : getA S.O i = some (.map kt M f)) (hk : K (S.put? o.dst (.v (.bool neg)))) : Told N w0 H0 o K a w := by
  have hX := hS.opds [x] x (by simp) _ hx
  have hY := hS.opds [y] y (by simp) _ hy
  obtain ⟨b, oo, F, e1, _⟩ := hS.ob _ _ hg
  have hXu : a.eval x = .map (some b) := by
    generalize a.eval x = qx at hX
    cases hX with
    | own hE _ => rw [hE] at e1; cases e1; rfl
  have hYu : a.eval y = .map none := by
    generalize a.eval y = qy at hY
    cases hY; rfl
  have hq := run_eql_map_nil_sl (P := Try.prog) w t kt' e (some b) hu
  refine told_value' (v := .bool neg) (w' := w) ?_ hd hS (.v rfl) hk
  cases neg
  · simp [execOp, ho, hXu, hYu, eqGuard, hq]
  · simp only [binOp, Sem.run_bind] at hq
    cases hr : Sem.run Try.prog (Op.equal t (.map (some b)) (.map none)) w with
    | ok v w1 =>
      rw [hr] at hq
      simp at hq
      obtain ⟨rfl, rfl⟩ := hq
      simp [execOp, ho, hXu, hYu, eqGuard, binOp, hr]
    | halt x w1 => rw [hr] at hq; simp at hq

theorem told_del (hS : Sim N w0 H0 S E a w H) (hd : ∀ t, o.dst = some t → t < N) {t kt e m key ri M f n} (ho : o.op = .call ⟨.builtin .delete, #[m, key], #[t, kt]⟩) (ht : Try.prog.underlying t = some (.map kt e)) (hkt : Try.prog.underlying kt = some (.int .i64))
    (hm : S.opd m = some (.own ri)) (hkey : S.opd key = some (.v (.int .i64 n))) (hg : getA S.O ri = some (.map kt M f)) (n1 : -9223372036854775808 ≤ n) (n2 : n ≤ 9223372036854775807)
    (hk : K ((S.setO ri (.map kt M fun j => if j = n then none else f j)).put? o.dst (.tup []))) : Told N w0 H0 o K a w := by
  have hMm := hS.opds [m] m (by simp) _ hm
  have hKk := hS.opds [key] key (by simp) _ hkey
  obtain ⟨b, oo, F, e1, e2, e3, e4, e5, e6, e7, e8⟩ := hS.ob _ _ hg
  have hXu : a.eval m = .map (some b) := by
    generalize a.eval m = qx at hMm
    cases hMm with
    | own hE _ => rw [hE] at e1; cases e1; rfl
  have hKu : a.eval key = .int .i64 n := by
    generalize a.eval key = qx at hKk
    cases hKk; rfl
  obtain ⟨D, hown, hf⟩ := e5.owns e4
  have hkk := int_keyed (P := Try.prog) hkt
  obtain ⟨w', hrun, r1, r2⟩ := hown.drop hkk ht (keyOf_int_mk (P := Try.prog) hkt (wf64 n1 n2)) o.type
  obtain ⟨o', r3, r4⟩ := MapOf.of_owns (f := fun j => if j = n then Option.none else F j) r1 (fun j => by
    by_cases e : j = n
    · subst e; rw [if_pos rfl, atKey_del_same]
    · rw [if_neg e, atKey_del_other (by intro h; exact e (by cases h; rfl)), hf j])
  obtain ⟨es1, c1, es2, c2, q1, rfl⟩ := r2
  have hbl : ∀ k, k < w.heap.size → k ≠ b → (ChangeMaps.setBlock w b (.map es2 c2)).heap[k]? = w.heap[k]? := fun k hk hne => by
    simp [ChangeMaps.setBlock, Array.getElem?_setIfInBounds_ne (Ne.symm hne)]
  have hU := hS.upd (w' := ChangeMaps.setBlock w b (.map es2 c2)) (o' := .map kt M fun j => if j = n then none else f j) ⟨_, hg, rfl⟩ e1 hbl (by simp [ChangeMaps.setBlock]) rfl rfl rfl
    ⟨b, o', _, e1, e2, e3, r3, r4, e6, fun j => ?_, fun j s u hs hu => ?_⟩ rfl
  · exact told_value' (v := .tuple #[]) (by simp [execOp, ho, resolve, hXu, hKu, invoke, builtin, hrun]) hd hU (.tup .nil) hk
  · by_cases hj : j = n <;> simp [hj, e7]
  · simp only at hs hu
    split at hs
    · cases hs
    · rename_i hj; rw [if_neg hj] at hu; exact e8 j s u hs hu

theorem told_del0 (hS : Sim N w0 H0 S E a w H) (hd : ∀ t, o.dst = some t → t < N) {t kt e m key n} (ho : o.op = .call ⟨.builtin .delete, #[m, key], #[t, kt]⟩) (ht : Try.prog.underlying t = some (.map kt e)) (hkt : Try.prog.underlying kt = some (.int .i64))
    (hm : S.opd m = some (.v (.map none))) (hkey : S.opd key = some (.v (.int .i64 n))) (n1 : -9223372036854775808 ≤ n) (n2 : n ≤ 9223372036854775807)
    (hk : K (S.put? o.dst (.tup []))) : Told N w0 H0 o K a w := by
  have hMm := hS.opds [m] m (by simp) _ hm
  have hKk := hS.opds [key] key (by simp) _ hkey
  have hXu : a.eval m = .map none := by
    generalize a.eval m = qx at hMm
    cases hMm; rfl
  have hKu : a.eval key = .int .i64 n := by
    generalize a.eval key = qx at hKk
    cases hKk; rfl
  have hrun : (Builtin.delete_ #[t, kt] o.type #[.map none, .int .i64 n]).run Try.prog w = .ok (.tuple #[]) w := by
    have hc := fun b => (int_keyed (P := Try.prog) hkt).check w b (keyOf_int_mk (P := Try.prog) hkt (wf64 n1 n2))
    simp [Builtin.delete_, run_underlying ht, hc]
  exact told_value' (v := .tuple #[]) (w' := w) (by simp [execOp, ho, resolve, hXu, hKu, invoke, builtin, hrun]) hd hS (.tup .nil) hk
end
end Go.Proofs.Ytijblpkdfmkcfaa
namespace Go.Proofs.Ytijblpkdfmkcfaa
set_option linter.unusedSimpArgs false
set_option linter.unusedVariables false
open Go.RowKit Go.Maps

theorem ranges_any {Hd : Type} {P : Program} {k : TypeId} {R : Value → Option (DataW Hd × List MemPlace)} {w w' : World} {b r n : Nat} {D : DataW Hd} {left : Lit → Bool} {cnt : Nat} (h : w.ranges P k R b r n D left cnt)
    (hb : w'.heap[b]? = w.heap[b]?) (hr : w'.heap[r]? = w.heap[r]?) : w'.ranges P k R b r n D left cnt := by
  obtain ⟨es, clock, since, seen, c0, h1, h2, h3, h4, h5, h6⟩ := h
  exact ⟨es, clock, since, seen, c0, hb.trans h1, h2, h3, h4, hr.trans h5, h6⟩
theorem ranges_ob {Hd : Type} {P : Program} {k : TypeId} {R : Value → Option (DataW Hd × List MemPlace)} {w : World} {b r n : Nat} {D : DataW Hd} {left : Lit → Bool} {cnt : Nat} (h : w.ranges P k R b r n D left cnt) :
    ∃ ob, w.heap[r]? = some ob := by
  obtain ⟨es, clock, since, seen, c0, h1, h2, h3, h4, h5, h6⟩ := h
  exact ⟨_, h5⟩

theorem DF.get {D : DataW Value} {F : Int → Option Value} (hd : DF D F) {x : Int} {v : Value} (hat : ∀ zd, D.atKey (.int .i64 x) zd = .held v) : F x = some v := by
  obtain ⟨es, rfl, hris, hm⟩ := hd
  have hap := apart_of_rising hris
  have hh := Maps.has_true_of_atKey hat
  obtain ⟨p, hp, hsk⟩ := List.any_eq_true.1 (show es.any (fun p => p.1.sameKey (.int .i64 x)) = true from hh)
  have e1 : p.1 = .int .i64 x := WideAt.sameKey_eq hsk
  obtain ⟨k, u, rfl, hk⟩ := (hm p).1 hp
  cases e1
  have e2 := hat .nil
  rw [WideAt.atKey_mem (k := .int .i64 x) (d := .held u) .nil (by simp [WideAt.IsKeyLit]) hap hp] at e2
  simp only [DataW.held.injEq] at e2
  subst e2
  exact hk
theorem DF.has {D : DataW Value} {F : Int → Option Value} (hd : DF D F) (x : Int) : Maps.has D (.int .i64 x) = (F x).isSome := by
  obtain ⟨es, rfl, hris, hm⟩ := hd
  cases hF : F x with
  | some v =>
    have hp := (hm (.int .i64 x, .held v)).2 ⟨x, v, rfl, hF⟩
    show es.any (fun p => p.1.sameKey (.int .i64 x)) = true
    exact List.any_eq_true.2 ⟨_, hp, by simp [Lit.sameKey]⟩
  | none =>
    cases hh : Maps.has (.map es) (.int .i64 x) with
    | false => rfl
    | true =>
      obtain ⟨p, hp, hsk⟩ := List.any_eq_true.1 (show es.any (fun p => p.1.sameKey (.int .i64 x)) = true from hh)
      have e1 : p.1 = .int .i64 x := WideAt.sameKey_eq hsk
      obtain ⟨k, u, rfl, hk⟩ := (hm p).1 hp
      cases e1
      rw [hF] at hk; cases hk

theorem run_objI {P : Program} {w : World} {r : Nat} {x s c} {se : Array Nat} (h : w.heap[r]? = some (.mapIter x s se c)) : (getObj r).run P w = .ok (.mapIter x s se c) w := by
  simp [getObj, Sem.run, h]
theorem run_objM {P : Program} {w : World} {r : Nat} {es c} (h : w.heap[r]? = some (.map es c)) : (getObj r).run P w = .ok (.map es c) w := by
  simp [getObj, Sem.run, h]
theorem wf_i64 {j : Int} (h : (Lit.int .i64 j).wf = true) : -9223372036854775808 ≤ j ∧ j ≤ 9223372036854775807 := by
  simp [Lit.wf] at h
  exact ⟨h.1, h.2⟩
theorem entry_any {P : Program} {w w' : World} {r b : Nat} {ob om : Obj} {v : Value} (h : w.heap[r]? = some ob) (hb : w.heap[b]? = some om) (h' : w'.heap[r]? = some ob) (hb' : w'.heap[b]? = some om)
    (hob : ∃ s se c, ob = .mapIter (some b) s se c) (hom : ∃ es c, om = .map es c) (hv : (Instr.entry (.pointer (some ⟨r, 0, none⟩))).run P w = .ok v w) : (Instr.entry (.pointer (some ⟨r, 0, none⟩))).run P w' = .ok v w' := by
  obtain ⟨s, se, c, rfl⟩ := hob
  obtain ⟨es, cl, rfl⟩ := hom
  simp only [Instr.entry, Sem.run_bind, run_objI h, run_objI h', Result.andThen_ok] at hv ⊢
  cases hse : se.back? with
  | none => rw [hse] at hv; simp at hv
  | some st =>
    rw [hse] at hv
    simp only [Sem.run_bind, run_objM hb, run_objM hb', Result.andThen_ok] at hv ⊢
    split at hv
    · simp at hv
    · rename_i hc
      rw [if_neg hc]
      cases hf : Array.find? (fun x => x.born == st) es with
      | none => rw [hf] at hv; simp at hv
      | some e => rw [hf] at hv; simp at hv ⊢; exact hv

/-- Whether a map has entries. -/
theorem MapOf.empty {kt : TypeId} {o : Obj} {n : Nat} {f : Int → Option Value} (h : MapOf kt o n f) (hk : Try.prog.underlying kt = some (.int .i64)) : ∃ es clock, o = .map es clock ∧ (es.size = 0 ↔ ∀ i, f i = none) := by
  obtain ⟨D, ⟨es, clock, rfl, F, _, hD⟩, hf⟩ := h
  refine ⟨es, clock, rfl, fun h0 i => ?_, fun hn => ?_⟩
  · obtain rfl : es = #[] := by simpa using h0
    have h1 := hf i
    rw [hD] at h1
    have h2 : (DataW.map ((([] : List MapEntry).map (Go.WideElems.rg Try.prog kt anyElem)).foldr DataW.insert []) : DataW Value).atKey (.int .i64 i) .nil = .nil := WideAt.atKey_none _ (by simp)
    cases e : f i with
    | none => rfl
    | some v => rw [e] at h1; rw [show (#[] : Array MapEntry).toList = [] from rfl, h2] at h1; cases h1
  · refine Classical.byContradiction fun h0 => ?_
    have K := int_keyed (P := Try.prog) hk
    obtain ⟨e0, hm⟩ : ∃ e0, e0 ∈ es.toList := ⟨es[0]'(by omega), by simp⟩
    obtain ⟨y0, hy0⟩ := F.reads e0 hm
    have hkey := Go.WideElems.rd_key hy0
    obtain ⟨z, hz, hyz⟩ := Go.WideElems.rd_val hy0
    have hat := (Go.WideShapes.atKey_sorted (es.toList.map (Go.WideElems.rg Try.prog kt anyElem)) (Maps.fit_rising K F) y0.1 (K.key hkey)).2 (Go.WideElems.rg Try.prog kt anyElem e0) (List.mem_map.2 ⟨e0, hm, rfl⟩) (by rw [Go.WideElems.rg_of hy0]) .nil
    rw [Go.WideElems.rg_of hy0, ← hD] at hat
    have hkk : ∃ a, y0.1 = .int .i64 a := by
      have h := hkey
      unfold keyOf at h
      cases hq : e0.key <;> rw [hq] at h <;> simp [hk, mapKey] at h
      rename_i kd a
      cases kd <;> simp at h
      exact ⟨a, h.2.symm⟩
    obtain ⟨a, ha⟩ := hkk
    rw [ha, hf a, hn a] at hat
    simp only [anyElem, Option.some.injEq] at hz
    rw [hyz, ← hz] at hat
    cases hat

/-- How many entries a map has. -/
theorem MapOf.count {kt : TypeId} {o : Obj} {n : Nat} {f : Int → Option Value} (h : MapOf kt o n f) (hk : Try.prog.underlying kt = some (.int .i64)) : ∃ es clock, o = .map es clock ∧ ∃ l : List Int, l.Nodup ∧ l.length = es.size ∧ ∀ j, f j ≠ none ↔ j ∈ l := by
  obtain ⟨D, ⟨es, clock, rfl, F, _, hD⟩, hf⟩ := h
  refine ⟨es, clock, rfl, ?_⟩
  have K := int_keyed (P := Try.prog) hk
  have hris := Maps.fit_rising K F
  have hent : ∀ p ∈ es.toList.map (Go.WideElems.rg Try.prog kt anyElem), (∃ a, p.1 = .int .i64 a) ∧ ∃ v, p.2 = .held v := fun p hp => by
    obtain ⟨e0, hm, rfl⟩ := List.mem_map.1 hp
    obtain ⟨y0, hy0⟩ := F.reads e0 hm
    have hkey := Go.WideElems.rd_key hy0
    obtain ⟨z, hz, hyz⟩ := Go.WideElems.rd_val hy0
    rw [Go.WideElems.rg_of hy0]
    refine ⟨?_, ?_⟩
    · have h := hkey
      unfold keyOf at h
      cases hq : e0.key <;> rw [hq] at h <;> simp [hk, mapKey] at h
      rename_i kd a
      cases kd <;> simp at h
      exact ⟨a, h.2.symm⟩
    · simp only [anyElem, Option.some.injEq] at hz
      rw [hyz, ← hz]
      exact ⟨_, rfl⟩
  have hap := Go.WideShapes.apart_of_rising _ hris
  have hat := fun k hk' => Go.WideShapes.atKey_sorted _ hris k hk'
  rw [← hD] at hat
  have hlen : (es.toList.map (Go.WideElems.rg Try.prog kt anyElem)).length = es.size := by simp
  generalize es.toList.map (Go.WideElems.rg Try.prog kt anyElem) = L at *
  have hl : ∃ l : List Int, L.map Prod.fst = l.map (fun a => (.int .i64 a : Lit)) := by
    clear hap hat hlen hris hD
    induction L with
    | nil => exact ⟨[], rfl⟩
    | cons p L ih =>
      obtain ⟨l, hl⟩ := ih fun q hq => hent q (List.mem_cons_of_mem _ hq)
      obtain ⟨a, ha⟩ := (hent p (List.mem_cons_self ..)).1
      exact ⟨a :: l, by rw [List.map_cons, List.map_cons, hl, ha]⟩
  obtain ⟨l, hl⟩ := hl
  have hlit : ∀ j : Int, WideAt.IsKeyLit (.int .i64 j : Lit) := fun j => trivial
  refine ⟨l, ?_, ?_, fun j => ⟨fun hj => ?_, fun hj => ?_⟩⟩
  · have h1 : (L.map Prod.fst).Pairwise (· ≠ ·) := List.pairwise_map.2 hap
    rw [hl] at h1
    exact (List.pairwise_map.1 h1).imp fun h e => h (by rw [e])
  · rw [← hlen, ← List.length_map (f := Prod.fst), hl, List.length_map]
  · refine Classical.byContradiction fun hno => hj ?_
    have h1 := (hat (.int .i64 j) (hlit j)).1 (fun p hp e => hno (by
      have h2 : p.1 ∈ L.map Prod.fst := List.mem_map.2 ⟨p, hp, rfl⟩
      rw [hl, e] at h2
      obtain ⟨a, ha, e2⟩ := List.mem_map.1 h2
      cases e2
      exact ha)) .nil
    have h3 := hf j
    rw [h1] at h3
    cases e : f j with
    | none => rfl
    | some v => rw [e] at h3; cases h3
  · have h2 : (.int .i64 j : Lit) ∈ L.map Prod.fst := by rw [hl]; exact List.mem_map.2 ⟨j, hj, rfl⟩
    obtain ⟨p, hp, e⟩ := List.mem_map.1 h2
    have h1 := (hat (.int .i64 j) (hlit j)).2 p hp e .nil
    obtain ⟨v, hv⟩ := (hent p hp).2
    have h3 := hf j
    rw [h1, hv] at h3
    intro h4
    rw [h4] at h3
    cases h3
section
variable {N : Nat} {w0 w w' : World} {H0 H H' : Hp} {S : St} {E : Env} {a : Act} {o : Oper} {K : St → Prop}

/-- len of a map. -/
theorem told_lenm (hS : Sim N w0 H0 S E a w H) (hd : ∀ t, o.dst = some t → t < N) {t kt e x kt' f} (ho : o.op = .call ⟨.builtin .len, #[x], #[t]⟩) (ht : Try.prog.underlying t = some (.map kt e)) (hkt : Try.prog.underlying kt = some (.int .i64)) (hx : S.opd x = some (.mp kt' f))
    (k0 : (∀ i, f i = none) → K (S.put? o.dst (.v (.int .i64 0)))) (k1 : ∀ n : Nat, 0 < n → (∃ i, f i ≠ none) → K (S.put? o.dst (.v (.int .i64 n)))) (hkk : Try.prog.underlying kt' = some (.int .i64)) : Told N w0 H0 o K a w := by
  have hX := hS.opds [x] x (by simp) _ hx
  generalize hq : a.eval x = q at hX
  cases hX with
  | mpn h0 =>
    exact told_value' (S' := S) (E' := E) (H' := H) (v := .int .i64 0) (w' := w) (s := .v (.int .i64 0)) (by simp [execOp, ho, resolve, hq, invoke, builtin, Maps.len_nil ht]) hd hS (.v rfl) (k0 h0)
  | @mp _ _ _ b om M F hb hm hN hi hr =>
    obtain ⟨es, clock, rfl, hes⟩ := hm.empty hkk
    have hw := hS.sub b _ hb
    have hrun : (Builtin.len_ #[t] o.type #[.map (some b)]).run Try.prog w = .ok (.int .i64 es.size) w := by
      simp [Builtin.len_, run_underlying ht, MapKept.run_getObj_map hw, goInt, Result.andThen]
    refine told_value' (S' := S) (E' := E) (H' := H) (v := .int .i64 es.size) (w' := w) (s := .v (.int .i64 es.size)) (by simp [execOp, ho, resolve, hq, invoke, builtin, hrun]) hd hS (.v rfl) ?_
    by_cases h0 : es.size = 0
    · rw [h0]; exact k0 fun i => (hi i).2 (hes.1 h0 i)
    · refine k1 _ (by omega) ?_
      refine Classical.byContradiction fun hn => h0 (hes.2 fun i => ?_)
      exact (hi i).1 (Classical.byContradiction fun hne => hn ⟨i, hne⟩)

/-- len of a map of one's own. -/
theorem told_lenm_own (hS : Sim N w0 H0 S E a w H) (hd : ∀ t, o.dst = some t → t < N) {t kt e x i kt' M f} (ho : o.op = .call ⟨.builtin .len, #[x], #[t]⟩) (ht : Try.prog.underlying t = some (.map kt e)) (hx : S.opd x = some (.own i)) (hg : getA S.O i = some (.map kt' M f))
    (k1 : ∀ n : Nat, (∃ l : List Int, l.Nodup ∧ l.length = n ∧ ∀ j, f j ≠ none ↔ j ∈ l) → K (S.put? o.dst (.v (.int .i64 n)))) (hkk : Try.prog.underlying kt' = some (.int .i64)) : Told N w0 H0 o K a w := by
  have hX := hS.opds [x] x (by simp) _ hx
  obtain ⟨b, om, F, hE, _, _, hw, hm, _, hi, _⟩ := hS.ob i _ hg
  generalize hq : a.eval x = q at hX
  cases hX with
  | own h1 _ =>
    rw [hE] at h1
    cases h1
    obtain ⟨es, clock, rfl, l, l1, l2, l3⟩ := hm.count hkk
    have hrun : (Builtin.len_ #[t] o.type #[.map (some b)]).run Try.prog w = .ok (.int .i64 es.size) w := by
      simp [Builtin.len_, run_underlying ht, MapKept.run_getObj_map hw, goInt, Result.andThen]
    refine told_value' (S' := S) (E' := E) (H' := H) (v := .int .i64 es.size) (w' := w) (s := .v (.int .i64 es.size)) (by simp [execOp, ho, resolve, hq, invoke, builtin, hrun]) hd hS (.v rfl) (k1 _ ⟨l, l1, l2, fun j => ?_⟩)
    rw [← l3 j]
    exact not_congr (hi j)
theorem told_rng (hS : Sim N w0 H0 S E a w H) (hd : ∀ t, o.dst = some t → t < N) {t kt e x f} (ho : o.op = .range t x) (ht : Try.prog.underlying t = some (.map kt e)) (hkt : Try.prog.underlying kt = some (.int .i64)) (hx : S.opd x = some (.mp kt f))
    (hk : ∀ cnt, K ((S.newO (.iter f (fun i => (f i).isSome) cnt none)).put? o.dst (.own S.n))) : Told N w0 H0 o K a w := by
  have hX := hS.opds [x] x (by simp) _ hx
  generalize hq : a.eval x = q at hX
  cases hX with
  | mpn h0 =>
    have hrun := run_range_nilMap (P := Try.prog) w t kt e ht
    refine told_new hS hd (ob := .iter f (fun i => (f i).isSome) 0 none) (p := (.pointer (some ⟨w.heap.size, 0, none⟩), 0, some w.heap.size)) (row := none) (w' := w.alloc (.mapIter none 0 #[] 0)) (by simp [execOp, ho, hq, hrun]) ⟨rfl, rfl, rfl, by simp, fun k hk _ => Below.heap_alloc w _ k hk⟩ (fun b hb => by cases hb)
      ⟨w.heap.size, _, Env.set_self _ _ _, hS.grow.below.size, hS.sub.none (Nat.le_refl _), heap_alloc_new w _, .inl ⟨_, _, _, rfl, fun j => by simp [h0]⟩, fun j s e => by cases e⟩ rfl (fun b hb => by cases hb; exact .inl (Nat.le_refl _)) (hk 0)
  | @mp _ _ _ b om M F hb hm hN hi hr =>
    obtain ⟨D, hown, hdf⟩ := hm.df (hS.sub b om hb) hkt
    obtain ⟨w', hrun, hrg, hg, hsz⟩ := hown.range (int_keyed (P := Try.prog) hkt) ht
    obtain ⟨ob, hob⟩ := ranges_ob hrg
    have hbl : b < w.heap.size := hS.sub.lt hb
    have hb' : w'.heap[b]? = some om := (hg.block b hbl (by simp)).trans (hS.sub b om hb)
    refine told_new hS hd (ob := .iter f (fun i => (f i).isSome) (size D) none) (p := (.pointer (some ⟨w.heap.size, 0, none⟩), 0, some w.heap.size)) (row := none) (w' := w') (by simp [execOp, ho, hq, hrun]) hg (fun b hb => by cases hb)
      ⟨w.heap.size, ob, Env.set_self _ _ _, hS.grow.below.size, hS.sub.none (Nat.le_refl _), hob, .inr ⟨b, om, kt, M, D, _, F, hb, hkt, fun w2 q1 q2 => ranges_any hrg (q1.trans hb'.symm) (q2.trans hob.symm), hdf, hi, hr, fun j => ?_⟩, fun j s e => by cases e⟩ rfl (fun b hb => by cases hb; exact .inl (Nat.le_refl _)) (hk _)
    rw [hdf.has]
    have := hi j
    cases h1 : f j <;> cases h2 : F j <;> simp_all

theorem told_nxt (hS : Sim N w0 H0 S E a w H) (hd : ∀ t, o.dst = some t → t < N) {x ri f left cnt cur} (ho : o.op = .next x false) (hx : S.opd x = some (.own ri)) (hg : getA S.O ri = some (.iter f left cnt cur))
    (hk1 : (∀ j, left j = false) → K (S.put? o.dst (.tup [.v (.bool false)])))
    (hk2 : ∀ j s c', left j = true → f j = some s → -9223372036854775808 ≤ j → j ≤ 9223372036854775807 → c' < cnt → K ((S.setO ri (.iter f (fun z => left z && z != j) c' (some (j, s)))).put? o.dst (.tup [.v (.bool true), .v (.int .i64 j), s]))) : Told N w0 H0 o K a w := by
  have hX := hS.opds [x] x (by simp) _ hx
  obtain ⟨r, ob, e1, e2, e3, e4, e5, e6⟩ := hS.ob _ _ hg
  have hXu : a.eval x = .pointer (some ⟨r, 0, none⟩) := by
    generalize a.eval x = qx at hX
    cases hX with
    | own hE _ => rw [hE] at e1; cases e1; rfl
  rcases e5 with ⟨p1, p2, p3, rfl, h0⟩ | ⟨b, om, kt, M, D, lft, F, h1, hkt, hall, hdf, hi, hr, hl⟩
  · have hrun : (Instr.next (.pointer (some ⟨r, 0, none⟩)) false o.type).run Try.prog w = .ok (.tuple #[.bool false]) w := by
      simp [Instr.next, run_objI e4]
    exact told_value' (v := .tuple #[.bool false]) (w' := w) (by simp [execOp, ho, hXu, hrun]) hd hS (.tup (.cons (.v rfl) .nil)) (hk1 h0)
  · have hrg := hall w (hS.sub b om h1) e4
    rcases hrg.next (int_keyed (P := Try.prog) hkt) o.type with ⟨_, hl0, hrun⟩ | ⟨key, v, kl, y, w', cnt', q1, q2, q3, q4, hrun, hrg', q5, q6, q7, hent⟩
    · exact told_value' (v := .tuple #[.bool false]) (w' := w) (by simp [execOp, ho, hXu, hrun]) hd hS (.tup (.cons (.v rfl) .nil)) (hk1 fun j => (hl j).symm.trans (hl0 _))
    · obtain ⟨j, rfl, rfl, hwf⟩ := Maps.keyOf_int_inv hkt q1
      simp only [anyElem, Option.some.injEq] at q3
      subst q3
      have hF := hdf.get q4
      cases hfj : f j with
      | none => rw [(hi j).1 hfj] at hF; cases hF
      | some s =>
        have hrep := hr j s v hfj hF
        obtain ⟨ob', hob'⟩ := ranges_ob hrg'
        have hbr : b ≠ r := fun e => by subst e; rw [e3] at h1; cases h1
        have hbl : b < w.heap.size := hS.sub.lt h1
        have hb' : w'.heap[b]? = some om := (q6.block b hbl (by simpa using hbr)).trans (hS.sub b om h1)
        have hit : ∃ s se c, ob' = .mapIter (some b) s se c := by
          obtain ⟨es, clock, since, seen, c0, _, _, _, _, g5, _⟩ := hrg'
          rw [hob'] at g5; cases g5; exact ⟨_, _, _, rfl⟩
        have hom : ∃ es c, om = .map es c := by
          obtain ⟨es, clock, since, seen, c0, g1, _⟩ := hrg'
          rw [hb'] at g1; cases g1; exact ⟨_, _, rfl⟩
        have hU := hS.upd (o' := .iter f (fun z => left z && z != j) cnt' (some (j, s))) ⟨_, hg, rfl⟩ e1 (fun k hk hne => q6.block k hk (fun e => hne (Option.some.inj e))) q6.size q6.os q6.tape q6.output
          ⟨r, ob', e1, e2, e3, hob', .inr ⟨b, om, kt, M, D, _, F, h1, hkt, fun w2 g1 g2 => ranges_any hrg' (g1.trans hb'.symm) (g2.trans hob'.symm), hdf, hi, hr, fun z => ?_⟩, fun j' s' e => ?_⟩ rfl
        · exact told_value' (v := .tuple #[.bool true, .int .i64 j, v]) (by simp [execOp, ho, hXu, hrun]) hd hU (.tup (.cons (.v rfl) (.cons (.v rfl) (.cons (hrep.mono (fun _ _ h => h) (E0_le _)) .nil)))) (hk2 j s cnt' ((hl j).symm.trans q2) hfj (wf_i64 hwf).1 (wf_i64 hwf).2 q5)
        · show (lft (.int .i64 z) && !(Lit.int .i64 z).sameKey (.int .i64 j)) = (left z && z != j)
          rw [hl z]
          by_cases e : z = j <;> simp [Lit.sameKey, bne, e]
        · cases e
          exact ⟨v, fun w2 g1 g2 => entry_any hob' hb' g2 (g1 b om h1) hit hom hent, hrep⟩

theorem told_ent (hS : Sim N w0 H0 S E a w H) (hd : ∀ t, o.dst = some t → t < N) {x ri f left cnt j s} (ho : o.op = .entry x) (hx : S.opd x = some (.own ri)) (hg : getA S.O ri = some (.iter f left cnt (some (j, s))))
    (hk : K (S.put? o.dst (.tup [.v (.int .i64 j), s]))) : Told N w0 H0 o K a w := by
  have hX := hS.opds [x] x (by simp) _ hx
  obtain ⟨r, ob, e1, e2, e3, e4, e5, e6⟩ := hS.ob _ _ hg
  have hXu : a.eval x = .pointer (some ⟨r, 0, none⟩) := by
    generalize a.eval x = qx at hX
    cases hX with
    | own hE _ => rw [hE] at e1; cases e1; rfl
  obtain ⟨v, h1, h2⟩ := e6 j s rfl
  have hrun := h1 w hS.sub e4
  exact told_value' (v := .tuple #[.int .i64 j, v]) (w' := w) (by simp [execOp, ho, hXu, hrun]) hd hS (.tup (.cons (.v rfl) (.cons (h2.mono (fun _ _ h => h) (E0_le _)) .nil))) hk
/-- Two worlds whose maps have the same keys, of the same births, are gone through alike. -/
theorem ranges_born {w w' : World} {kt : TypeId} {b r n n' c : Nat} {D D' : DataW Value} {left : Lit → Bool} {cnt : Nat} {es es' : Array MapEntry} (hk : Try.prog.underlying kt = some (.int .i64)) (h : w.ranges Try.prog kt anyElem b r n D left cnt)
    (hb : w.heap[b]? = some (.map es c)) (hb' : w'.heap[b]? = some (.map es' c)) (hB : bornOf es' = bornOf es) (ho : w'.ownsMap Try.prog kt anyElem b n' D') (hr : w'.heap[r]? = w.heap[r]?) : w'.ranges Try.prog kt anyElem b r n' D' left cnt := by
  obtain ⟨es1, c1, since, seen, c0, h1, F, h3, h4, h5, h6, h7, h8, h9, h10, h11⟩ := h
  rw [hb] at h1; cases h1
  obtain ⟨es2, c2, g1, F2, g3, g4⟩ := ho
  rw [hb'] at g1; cases g1
  have K := int_keyed (P := Try.prog) hk
  have fwd : ∀ x' ∈ es'.toList, ∃ x ∈ es.toList, x.key = x'.key ∧ x.born = x'.born := fun x' hx' => by
    have : (x'.key, x'.born) ∈ bornOf es := by rw [← hB]; exact List.mem_map.2 ⟨x', hx', rfl⟩
    obtain ⟨x, hx, e⟩ := List.mem_map.1 this
    simp only [Prod.mk.injEq] at e
    exact ⟨x, hx, e.1, e.2⟩
  have bwd : ∀ x ∈ es.toList, ∃ x' ∈ es'.toList, x'.key = x.key ∧ x'.born = x.born := fun x hx => by
    have : (x.key, x.born) ∈ bornOf es' := by rw [hB]; exact List.mem_map.2 ⟨x, hx, rfl⟩
    obtain ⟨x', hx', e⟩ := List.mem_map.1 this
    simp only [Prod.mk.injEq] at e
    exact ⟨x', hx', e.1, e.2⟩
  have rgk : ∀ x ∈ es.toList, ∀ x' ∈ es'.toList, x.key = x'.key → (Go.WideElems.rg Try.prog kt anyElem x).1 = (Go.WideElems.rg Try.prog kt anyElem x').1 := fun x hx x' hx' e => by
    obtain ⟨y, hy⟩ := F.reads x hx
    obtain ⟨y', hy'⟩ := F2.reads x' hx'
    rw [Go.WideElems.rg_of hy, Go.WideElems.rg_of hy']
    have m1 := Go.WideElems.rd_key hy
    have m2 := Go.WideElems.rd_key hy'
    rw [e, m2] at m1
    exact (Option.some.inj m1).symm
  refine ⟨es', c, since, seen, c0, hb', F2, g3, g4, hr.trans h5, fun x' hx' => ?_, ?_, fun x' hx' => ?_, fun kl hkl => ?_, h10, h11⟩
  · obtain ⟨x, hx, _, e⟩ := fwd x' hx'
    rw [← e]; exact h6 x hx
  · have e1 : ∀ a : Array MapEntry, (leftOf a seen).size = ((bornOf a).filter fun e => !seen.contains e.2).length := fun a => by
      unfold leftOf bornOf
      rw [List.filter_map, List.length_map, ← Array.length_toList, Array.toList_filter]
      rfl
    rw [e1, hB, ← e1]; exact h7
  · obtain ⟨x, hx, ek, e⟩ := fwd x' hx'
    rw [← rgk x hx x' hx' ek, ← e]; exact h8 x hx
  · obtain ⟨x, hx, rfl⟩ := h9 kl hkl
    obtain ⟨x', hx', ek, _⟩ := bwd x hx
    exact ⟨x', hx', (rgk x hx x' hx' ek.symm).symm⟩

theorem told_rngO (hS : Sim N w0 H0 S E a w H) (hd : ∀ t, o.dst = some t → t < N) {t kt e x i M f} (ho : o.op = .range t x) (ht : Try.prog.underlying t = some (.map kt e)) (hkt : Try.prog.underlying kt = some (.int .i64)) (hx : S.opd x = some (.own i))
    (hg : getA S.O i = some (.map kt M f)) (hk : ∀ q cnt, K (((S.setO i (.mpr q kt M f)).newO (.itm q kt (fun j => (f j).isSome) cnt none)).put? o.dst (.own S.n))) : Told N w0 H0 o K a w := by
  have hX := hS.opds [x] x (by simp) _ hx
  obtain ⟨b, om, F, e1, e2, e3, e4, hm, hM, hi, hr⟩ := hS.ob _ _ hg
  have hXu : a.eval x = .map (some b) := by
    generalize a.eval x = qx at hX
    cases hX with
    | own hE _ => rw [hE] at e1; cases e1; rfl
  have hom : ∃ es c, om = .map es c := by obtain ⟨_, ⟨es, c, rfl, _⟩, _⟩ := hm; exact ⟨_, _, rfl⟩
  obtain ⟨es, c, rfl⟩ := hom
  obtain ⟨D, hown, hdf⟩ := hm.df e4 hkt
  obtain ⟨w', hrun, hrg, hgr, hsz⟩ := hown.range (int_keyed (P := Try.prog) hkt) ht
  obtain ⟨ob, hob⟩ := ranges_ob hrg
  have hbl : b < w.heap.size := (Array.getElem?_eq_some_iff.1 e4).1
  have hb' : w'.heap[b]? = some (.map es c) := (hgr.block b hbl (by simp)).trans e4
  let q : Rg := ⟨b, bornOf es, c⟩
  have hU := hS.upd (w' := w) (o' := .mpr q kt M f) ⟨_, hg, rfl⟩ e1 (fun _ _ _ => rfl) (Nat.le_refl _) rfl rfl rfl ⟨es, F, e1, e2, e3, e4, rfl, hm, hM, hi, hr⟩ rfl
  refine told_new (S := S.setO i (.mpr q kt M f)) hU hd (ob := .itm q kt (fun j => (f j).isSome) (size D) none) (p := (.pointer (some ⟨w.heap.size, 0, none⟩), 0, some w.heap.size)) (row := none) (w' := w') (by simp [execOp, ho, hXu, hrun]) hgr (fun b hb => by cases hb)
    ⟨w.heap.size, ob, Env.set_self _ _ _, hS.grow.below.size, hS.sub.none (Nat.le_refl _), hob, hkt, _, fun w2 es2 M2 D2 g1 g2 g3 g4 => ranges_born hkt hrg hb' g1 g2 g3 (g4.trans hob.symm), fun j => ?_, fun j e => by cases e⟩ rfl (fun b hb => by cases hb; exact .inl (Nat.le_refl _)) (hk q _)
  rw [hdf.has]
  have := hi j
  cases h1 : f j <;> cases h2 : F j <;> simp_all

theorem entry_born {w w' : World} {kt : TypeId} {b r n c j} {D : DataW Value} {left : Lit → Bool} {cnt : Nat} {es es' : Array MapEntry} {v v' : Value} (h : w.ranges Try.prog kt anyElem b r n D left cnt)
    (hb : w.heap[b]? = some (.map es c)) (hb' : w'.heap[b]? = some (.map es' c)) (hB : bornOf es' = bornOf es) (hF : Go.WideElems.Fit Try.prog kt anyElem es' c) (hr : w'.heap[r]? = w.heap[r]?)
    (hv : (Instr.entry (.pointer (some ⟨r, 0, none⟩))).run Try.prog w = .ok (.tuple #[.int .i64 j, v]) w) (hx : ∃ x ∈ es'.toList, x.key = .int .i64 j ∧ x.val = v') :
    (Instr.entry (.pointer (some ⟨r, 0, none⟩))).run Try.prog w' = .ok (.tuple #[.int .i64 j, v']) w' := by
  obtain ⟨es1, c1, since, seen, c0, h1, F, h3, h4, h5, _⟩ := h
  rw [hb] at h1; cases h1
  have h5' := hr.trans h5
  obtain ⟨x, hx, hxk, hxv⟩ := hx
  simp only [Instr.entry, Sem.run_bind, run_objI h5, run_objM hb, run_objI h5', run_objM hb', Result.andThen_ok] at hv ⊢
  cases hse : seen.back? with
  | none => rw [hse] at hv; simp at hv
  | some stamp =>
    rw [hse] at hv
    simp only [Sem.run_bind, run_objM hb, run_objM hb', Result.andThen_ok] at hv ⊢
    by_cases hc : c = c0
    · subst hc
      simp only [bne_self_eq_false, Bool.false_eq_true, if_false] at hv ⊢
      cases hf : es.find? (fun e => e.born == stamp) with
      | none => rw [hf] at hv; simp at hv
      | some e0 =>
        rw [hf] at hv
        have hv2 : e0.key = .int .i64 j := by simp at hv; exact hv.1
        have hbs : e0.born = stamp := by simpa using Array.find?_some hf
        have hmem : e0 ∈ es.toList := by simpa using Array.mem_of_find?_eq_some hf
        have hst := (MapKept.stamped_iff es' c).1 hF.stamped
        have : (e0.key, e0.born) ∈ bornOf es' := by rw [hB]; exact List.mem_map.2 ⟨e0, hmem, rfl⟩
        obtain ⟨e1, he1, q⟩ := List.mem_map.1 this
        simp only [Prod.mk.injEq] at q
        have hex : e1 = x := entry_eq_of_key hst.2.2 he1 hx (by rw [q.1, hv2, hxk])
        subst hex
        have hf' : es'.find? (fun e => e.born == stamp) = some e1 := by
          cases hff : es'.find? (fun e => e.born == stamp) with
          | none =>
            have := Array.find?_eq_none.1 hff e1 (by simpa using he1)
            simp [q.2, hbs] at this
          | some e2 =>
            have h2s : e2.born = stamp := by simpa using Array.find?_some hff
            have h2m : e2 ∈ es'.toList := by simpa using Array.mem_of_find?_eq_some hff
            rw [born_inj hst.2.1 h2m he1 (by rw [h2s, q.2, hbs])]
        rw [hf']
        simp [hxk, hxv]
    · have : (c != c0) = true := by simp [hc]
      rw [this] at hv
      simp at hv

theorem MapOf.fit {kt : TypeId} {es : Array MapEntry} {c n : Nat} {f : Int → Option Value} (h : MapOf kt (.map es c) n f) : Go.WideElems.Fit Try.prog kt anyElem es c := by
  obtain ⟨D, ⟨es1, c1, he, F, _⟩, _⟩ := h
  cases he; exact F
theorem MapOf.entry {kt : TypeId} {es : Array MapEntry} {c n b : Nat} {f : Int → Option Value} {w : World} (h : MapOf kt (.map es c) n f) (hb : w.heap[b]? = some (.map es c)) (hk : Try.prog.underlying kt = some (.int .i64)) {j : Int} {u : Value} (hf : f j = some u) :
    ∃ x ∈ es.toList, x.key = .int .i64 j ∧ x.val = u := by
  obtain ⟨D, ⟨es1, c1, g1, F, _, hD⟩, ents, hE, _, hm⟩ := h.df hb hk
  rw [hb] at g1; cases g1
  rw [hE] at hD
  simp only [DataW.map.injEq] at hD
  have := (hm (.int .i64 j, .held u)).2 ⟨j, u, rfl, hf⟩
  rw [hD] at this
  obtain ⟨x, hx, e⟩ := List.mem_map.1 (mem_sorted.1 this)
  obtain ⟨y, hy⟩ := F.reads x hx
  obtain ⟨z, hz, hzd⟩ := Go.WideElems.rd_val hy
  have m1 := Go.WideElems.rd_key hy
  rw [Go.WideElems.rg_of hy] at e
  simp only [anyElem, Option.some.injEq] at hz
  have e1 : y.1 = .int .i64 j := by rw [Prod.ext_iff] at e; exact e.1
  have e2 : y.2 = .held u := by rw [Prod.ext_iff] at e; exact e.2
  rw [e1] at m1
  obtain ⟨j', hx', hj', _⟩ := Maps.keyOf_int_inv hk m1
  cases hj'
  refine ⟨x, hx, hx', ?_⟩
  rw [hzd, ← hz] at e2
  simpa using e2
theorem told_nxtM (hS : Sim N w0 H0 S E a w H) (hd : ∀ t, o.dst = some t → t < N) {x ri q kt left cnt cur im M f} (ho : o.op = .next x false) (hx : S.opd x = some (.own ri)) (hg : getA S.O ri = some (.itm q kt left cnt cur)) (hgm : getA S.O im = some (.mpr q kt M f))
    (hk1 : (∀ j, left j = false) → K (S.put? o.dst (.tup [.v (.bool false)])))
    (hk2 : ∀ j s c', left j = true → f j = some s → -9223372036854775808 ≤ j → j ≤ 9223372036854775807 → c' < cnt → K ((S.setO ri (.itm q kt (fun z => left z && z != j) c' (some j))).put? o.dst (.tup [.v (.bool true), .v (.int .i64 j), s]))) : Told N w0 H0 o K a w := by
  have hX := hS.opds [x] x (by simp) _ hx
  obtain ⟨r, ob, e1, e2, e3, e4, hkt, lft, hall, hl, hcur⟩ := hS.ob _ _ hg
  obtain ⟨es, F, m1, m2, m3, m4, m4', m5, m6, hi, hr⟩ := hS.ob _ _ hgm
  have hXu : a.eval x = .pointer (some ⟨r, 0, none⟩) := by
    generalize a.eval x = qx at hX
    cases hX with
    | own hE _ => rw [hE] at e1; cases e1; rfl
  obtain ⟨D, hown, hdf⟩ := m5.df m4 hkt
  have hrg := hall w es _ _ m4 m4' hown e4
  rcases hrg.next (int_keyed (P := Try.prog) hkt) o.type with ⟨_, hl0, hrun⟩ | ⟨key, v, kl, y, w', cnt', q1, q2, q3, q4, hrun, hrg', q5, q6, q7, hent⟩
  · exact told_value' (v := .tuple #[.bool false]) (w' := w) (by simp [execOp, ho, hXu, hrun]) hd hS (.tup (.cons (.v rfl) .nil)) (hk1 fun j => (hl j).symm.trans (hl0 _))
  · obtain ⟨j, rfl, rfl, hwf⟩ := Maps.keyOf_int_inv hkt q1
    simp only [anyElem, Option.some.injEq] at q3
    subst q3
    have hF := hdf.get q4
    cases hfj : f j with
    | none => rw [(hi j).1 hfj] at hF; cases hF
    | some s =>
      have hrep := hr j s v hfj hF
      obtain ⟨ob', hob'⟩ := ranges_ob hrg'
      have hbr : q.b ≠ r := fun e => by rw [e, e4] at m4; cases m4; obtain ⟨_, _, _, _, _, _, _, _, _, g5, _⟩ := hrg; rw [e4] at g5; cases g5
      have hbl : q.b < w.heap.size := (Array.getElem?_eq_some_iff.1 m4).1
      have hb' : w'.heap[q.b]? = some (.map es q.c) := (q6.block q.b hbl (by simpa using hbr)).trans m4
      have hU := hS.upd (o' := .itm q kt (fun z => left z && z != j) cnt' (some j)) ⟨_, hg, rfl⟩ e1 (fun k hk hne => q6.block k hk (fun e => hne (Option.some.inj e))) q6.size q6.os q6.tape q6.output
        ⟨r, ob', e1, e2, e3, hob', hkt, _, fun w2 es2 M2 D2 g1 g2 g3 g4 => ranges_born hkt hrg' hb' g1 (g2.trans m4'.symm) g3 (g4.trans hob'.symm), fun z => ?_, fun j' e w2 es2 v2 g1 g2 g3 g4 g5 => ?_⟩ rfl
      · exact told_value' (v := .tuple #[.bool true, .int .i64 j, v]) (by simp [execOp, ho, hXu, hrun]) hd hU (.tup (.cons (.v rfl) (.cons (.v rfl) (.cons (hrep.mono (fun _ _ h => h) (E0_le _)) .nil)))) (hk2 j s cnt' ((hl j).symm.trans q2) hfj (wf_i64 hwf).1 (wf_i64 hwf).2 q5)
      · show (lft (.int .i64 z) && !(Lit.int .i64 z).sameKey (.int .i64 j)) = (left z && z != j)
        rw [hl z]
        by_cases e : z = j <;> simp [Lit.sameKey, bne, e]
      · cases e
        exact entry_born hrg' hb' g1 (g2.trans m4'.symm) g3 (g4.trans hob'.symm) hent g5

theorem told_entM (hS : Sim N w0 H0 S E a w H) (hd : ∀ t, o.dst = some t → t < N) {x ri q kt left cnt j s im M f} (ho : o.op = .entry x) (hx : S.opd x = some (.own ri)) (hg : getA S.O ri = some (.itm q kt left cnt (some j))) (hgm : getA S.O im = some (.mpr q kt M f)) (hf : f j = some s)
    (hk : K (S.put? o.dst (.tup [.v (.int .i64 j), s]))) : Told N w0 H0 o K a w := by
  have hX := hS.opds [x] x (by simp) _ hx
  obtain ⟨r, ob, e1, e2, e3, e4, hkt, lft, hall, hl, hcur⟩ := hS.ob _ _ hg
  obtain ⟨es, F, m1, m2, m3, m4, m4', m5, m6, hi, hr⟩ := hS.ob _ _ hgm
  have hXu : a.eval x = .pointer (some ⟨r, 0, none⟩) := by
    generalize a.eval x = qx at hX
    cases hX with
    | own hE _ => rw [hE] at e1; cases e1; rfl
  obtain ⟨u, hu⟩ : ∃ u, F j = some u := by
    cases hF : F j with
    | none => rw [(hi j).2 hF] at hf; cases hf
    | some u => exact ⟨u, rfl⟩
  have hrun := hcur j rfl w es u m4 m4' m5.fit e4 (m5.entry m4 hkt hu)
  exact told_value' (v := .tuple #[.int .i64 j, u]) (w' := w) (by simp [execOp, ho, hXu, hrun]) hd hS (.tup (.cons (.v rfl) (.cons ((hr j s u hf hu).mono (fun _ _ h => h) (E0_le _)) .nil))) hk
theorem nilS_rep {H : Hp} {E : Env} {x : Sh} {u : Value} (h : nilS x = true) (hr : Rep H E x u) : ∃ a, u = .slice a 0 0 ∧ ∀ k, Rep H E0 (.sl k 0 []) u := by
  have hk : ∀ a k, Rep H E0 (.sl k 0 []) (.slice a 0 0) := fun a k => .sl .nil rfl (Nat.le_refl _) (Nat.zero_le _) ⟨fun _ => rfl, fun _ _ => rfl⟩ (fun _ => rfl) (fun j u hu => by simp at hu)
  unfold nilS at h
  split at h
  · cases hr; exact ⟨_, rfl, hk _⟩
  · cases hr with
    | sl h1 h2 h3 h4 h5 h6 h7 =>
      simp only [List.length_nil] at h2
      subst h2
      have := h5.2 rfl rfl
      subst this
      exact ⟨_, rfl, hk _⟩
  · cases h
theorem Sim.cast (h : Sim N w0 H0 S E a w H) (c : Cst) : ∃ E', Sim N w0 H0 (S.cast c) E' a w H := by
  have row : ∀ (e : TypeId) (k : Nat) (u : Value), 0 < k → (∃ a, u = .slice a 0 0) → ∃ E', ELe E E' ∧ E' S.n = some (u, k, none) ∧ Sim N w0 H0 (S.newO (.row e k [])) E' a w H := fun e k u hk hu =>
    ⟨E.set S.n (u, k, none), Env.set_le _ (h.fr _ (Nat.le_refl _)), Env.set_self _ _ _, h.new (p := (u, k, none)) ⟨u, none, [], Env.set_self _ _ _, hk, .nil, .inl ⟨rfl, rfl, hu⟩⟩ (fun b hb => by cases hb)⟩
  have putT : ∀ {S1 : St} {E1 : Env} {t : Nat} {x : Sh}, Sim N w0 H0 S1 E1 a w H → Rep H E1 x (a.eval (.tmp t)) → Sim N w0 H0 (S1.put t x) E1 a w H := fun {S1 E1 t x} h1 hx =>
    ⟨h1.grow, fun t' y hy => by
      simp only [St.put, getA_put] at hy
      split at hy
      · rename_i e; cases hy; subst e; exact hx
      · exact h1.tm t' y hy, h1.ob, h1.ap, h1.fr, h1.sz, h1.df⟩
  have setB : ∀ {S1 : St} {E1 : Env} {i c : Nat} {bt : TypeId} {cs : List Sh} {y : Sh}, Sim N w0 H0 S1 E1 a w H → getA S1.O i = some (.box bt cs) → y.one = true → (∀ vs b, E1 i = some (.pointer (some ⟨b, 0, none⟩), 0, some b) → w.heap[b]? = some (.cells vs.toArray bt (0, 0)) → RepL H E1 cs vs → RepL H E1 (cs.set c y) vs) → Sim N w0 H0 (S1.setO i (.box bt (cs.set c y))) E1 a w H := fun {S1 E1 i c bt cs y} h1 hg hy hr => by
    have hget : ∀ j o, getA (S1.setO i (.box bt (cs.set c y))).O j = some o → (j = i ∧ o = .box bt (cs.set c y)) ∨ (i ≠ j ∧ getA S1.O j = some o) := fun j o hj => by
      simp only [St.setO, getA_put] at hj
      split at hj
      · rename_i e; cases hj; exact .inl ⟨e.symm, rfl⟩
      · rename_i e; exact .inr ⟨e, hj⟩
    have hlv : ∀ j, lives (S1.setO i (.box bt (cs.set c y))) j → lives S1 j := by
      rintro j ⟨o, ho, hl⟩
      rcases hget j o ho with ⟨rfl, rfl⟩ | ⟨_, hj⟩
      · exact ⟨_, hg, rfl⟩
      · exact ⟨o, hj, hl⟩
    refine ⟨h1.grow, h1.tm, fun j o hj => ?_, fun i' j' hij hi hj => h1.ap i' j' hij (hlv _ hi) (hlv _ hj), h1.fr, h1.sz, h1.df⟩
    rcases hget j o hj with ⟨rfl, rfl⟩ | ⟨_, hj⟩
    · obtain ⟨b, vs, e1, e2, e3, e4, e5, e6⟩ := h1.ob _ _ hg
      refine ⟨b, vs, e1, e2, e3, e4, hr vs b e1 e4 e5, ?_⟩
      rw [List.all_eq_true] at e6 ⊢
      intro z hz
      rcases List.mem_or_eq_of_mem_set hz with hz | rfl
      · exact e6 z hz
      · exact hy
    · exact h1.ob j o hj
  have setL : ∀ {E1 : Env} {cs : List Sh} {vs : List Value} {c : Nat} {y : Sh}, RepL H E1 cs vs → (∀ u, vs[c]? = some u → Rep H E1 y u) → RepL H E1 (cs.set c y) vs := by
    intro E1 cs
    induction cs with
    | nil => intro vs c y h _; simpa using h
    | cons z cs ih =>
      intro vs c y h hy
      cases h with
      | cons h t =>
        cases c with
        | zero => exact .cons (hy _ rfl) t
        | succ c => exact .cons h (ih t (fun u hu => hy u (by simpa using hu)))
  cases c with
  | slot t e k =>
    simp only [St.cast]
    split
    · rename_i x hx
      split
      · rename_i hc
        simp only [Bool.and_eq_true, decide_eq_true_eq] at hc
        obtain ⟨a0, ha, hk⟩ := nilS_rep hc.1 (h.tm t x hx)
        cases e with
        | none => exact ⟨E, putT h ((hk k).mono (fun _ _ h => h) (E0_le E))⟩
        | some e =>
          obtain ⟨E', hle, hE, hS⟩ := row e k _ hc.2 ⟨a0, ha⟩
          exact ⟨E', putT hS (.own hE (by rw [ha]; rfl))⟩
      · exact ⟨E, h⟩
    · exact ⟨E, h⟩
  | cell i c e k =>
    simp only [St.cast]
    split
    · rename_i bt cs hg
      split
      · rename_i x hx
        split
        · rename_i hc
          simp only [Bool.and_eq_true, decide_eq_true_eq] at hc
          obtain ⟨b, vs, e1, e2, e3, e4, e5, e6⟩ := h.ob _ _ hg
          obtain ⟨u, hu, hru⟩ := e5.get hx
          obtain ⟨a0, ha, hk⟩ := nilS_rep hc.1 hru
          cases e with
          | none =>
            refine ⟨E, setB h hg rfl (fun vs' b' _ _ hv => setL hv fun u' hu' => ?_)⟩
            obtain ⟨u2, hu2, hr2⟩ := hv.get hx
            rw [hu'] at hu2; cases hu2
            obtain ⟨_, _, hk'⟩ := nilS_rep hc.1 hr2
            exact (hk' k).mono (fun _ _ h => h) (E0_le E)
          | some e =>
            obtain ⟨E', hle, hE, hS⟩ := row e k u hc.2 ⟨a0, ha⟩
            have hin : i ≠ S.n := fun e' => by rw [e', h.fr _ (Nat.le_refl _)] at e1; cases e1
            have hg' : getA (S.newO (.row e k [])).O i = some (.box bt cs) := by
              simp only [St.newO, getA]
              rw [if_neg (fun e' => hin e'.symm)]; exact hg
            refine ⟨E', setB hS hg' rfl (fun vs' b' f1 f2 hv => setL hv fun u' hu' => ?_)⟩
            have := hle _ _ e1
            rw [f1] at this
            simp only [Option.some.injEq, Prod.mk.injEq] at this
            obtain ⟨_, _, rfl⟩ := this
            rw [f2] at e4
            simp only [Option.some.injEq, Obj.cells.injEq] at e4
            have e7 : vs' = vs := by have := e4.1; simpa using congrArg Array.toList this
            subst e7
            rw [hu] at hu'; cases hu'
            exact .own hE (by rw [ha]; rfl)
        · exact ⟨E, h⟩
      · exact ⟨E, h⟩
    · exact ⟨E, h⟩
  | any t =>
    simp only [St.cast]
    split
    · rename_i x hx
      split
      · rename_i h1
        exact ⟨E, putT h (.any ((h.tm t x hx).oneCell h1))⟩
      · exact ⟨E, h⟩
    · exact ⟨E, h⟩
  | anyc t c =>
    simp only [St.cast]
    split
    · rename_i cs hx
      have hr := h.tm t _ hx
      generalize hq : a.eval (.tmp t) = q at hr
      cases hr with
      | agg hL h1 =>
        refine ⟨E, putT h (hq ▸ .agg (setL hL fun u hu => ?_) ?_)⟩
        · exact .any (hL.one h1 u (List.mem_of_getElem? hu))
        · rw [List.all_eq_true] at h1 ⊢
          intro z hz
          rcases List.mem_or_eq_of_mem_set hz with hz | rfl
          · exact h1 z hz
          · rfl
    · exact ⟨E, h⟩
  | obx i =>
    simp only [St.cast]
    split
    · rename_i e c es hg
      obtain ⟨u, ob, xs, e1, hk, e2, e3⟩ := h.ob _ _ hg
      rcases e3 with ⟨h0, _⟩ | ⟨g, cap, cur, rfl, rfl, a3, a4, a5, a6, a7, a7', a8, a9⟩
      · cases h0
      · have hfl : ∀ {es : List (List Sh)} {xs : List Value}, RepEs H 1 es xs → RepL H E es.flatten xs ∧ es.flatten.length = es.length ∧ es.flatten.all Sh.one = true := by
          intro es
          induction es with
          | nil => intro xs h; cases h; exact ⟨.nil, rfl, rfl⟩
          | cons c es ih =>
            intro xs h
            cases h with
            | cons r1 r2 r3 r4 =>
              obtain ⟨i1, i2, i3⟩ := ih r4
              refine ⟨by rw [List.flatten_cons]; exact (r1.mono (fun _ _ h => h) (E0_le _)).append i1, ?_, ?_⟩
              · have := r1.length
                rw [List.flatten_cons, List.length_append, i2, this, r2, List.length_cons, Nat.add_comm]
              · rw [List.flatten_cons, List.all_append, r3, i3]; rfl
        obtain ⟨f1, f2, f3⟩ := hfl e2
        have hget : ∀ j o, getA (S.setO i (.obx e (c :: es).flatten)).O j = some o → (j = i ∧ o = .obx e (c :: es).flatten) ∨ (i ≠ j ∧ getA S.O j = some o) := fun j o hj => by
          simp only [St.setO, getA_put] at hj
          split at hj
          · rename_i e; cases hj; exact .inl ⟨e.symm, rfl⟩
          · rename_i e; exact .inr ⟨e, hj⟩
        have hlv : ∀ j, lives (S.setO i (.obx e (c :: es).flatten)) j → lives S j := by
          rintro j ⟨o, ho, hl⟩
          rcases hget j o ho with ⟨rfl, rfl⟩ | ⟨_, hj⟩
          · exact ⟨_, hg, rfl⟩
          · exact ⟨o, hj, hl⟩
        refine ⟨E, h.grow, h.tm, fun j o hj => ?_, fun i' j' hij hi hj => h.ap i' j' hij (hlv _ hi) (hlv _ hj), h.fr, h.sz, h.df⟩
        rcases hget j o hj with ⟨rfl, rfl⟩ | ⟨_, hj⟩
        · refine ⟨g, cap, cur, by rw [f2]; exact e1, a3, a4, a5, by rw [f2, a8]; omega, ?_, f3⟩
          rw [f2]
          have : (c :: es).length * 1 = (c :: es).length := Nat.mul_one _
          rw [this] at a9
          rw [a9]; exact f1
        · exact h.ob j o hj
    · exact ⟨E, h⟩
  | unr i =>
    unfold St.cast
    simp only
    split
    · rename_i q kt M f hg
      refine ⟨E, ?_⟩
      obtain ⟨es, F, e1, e2, e3, e4, e4', e5⟩ := h.ob _ _ hg
      exact h.upd (w' := w) (o' := .map kt M f) ⟨_, hg, rfl⟩ e1 (fun _ _ _ => rfl) (Nat.le_refl _) rfl rfl rfl ⟨q.b, _, F, e1, e2, e3, e4, e5⟩ rfl
    · exact ⟨E, h⟩

theorem Sim.casts : ∀ (l : List Cst) {S : St} {E : Env}, Sim N w0 H0 S E a w H → ∃ E', Sim N w0 H0 (S.casts l) E' a w H
  | [], _, E, h => ⟨E, h⟩
  | c :: l, _, _, h => by
    obtain ⟨E1, h1⟩ := h.cast c
    exact Sim.casts l h1

end
end Go.Proofs.Ytijblpkdfmkcfaa
namespace Go.Proofs.Ytijblpkdfmkcfaa
set_option linter.unusedSimpArgs false
set_option linter.unusedVariables false
open Go.RowKit Go.Maps

section
variable {N : Nat} {w0 w w' : World} {H0 H H' : Hp} {S : St} {E : Env} {a : Act} {o : Oper} {K : St → Prop}

theorem Sim.opd (hS : Sim N w0 H0 S E a w H) {x : Operand} {s : Sh} (h : S.opd x = some s) : Rep H E s (a.eval x) := hS.opds [x] x (by simp) s h

theorem told_evA (hS : Sim N w0 H0 S E a w H) (hd : ∀ t, o.dst = some t → t < N) {op so} (ho : o.op = op) (hm : OpM op so) (h : evA so S fun s => K (S.put? o.dst s)) : Told N w0 H0 o K a w := by
  obtain ⟨s, hk, hg⟩ := evA_sound (E := E) ho hm h
  exact told_value hS hd hg hk

theorem evOp_sound (hS0 : Sim N w0 H0 S E a w H) (hd : ∀ t, o.dst = some t → t < N) {op so} (ho : o.op = op) (hm : OpM op so) (h : evOp o.dst so S K) : Told N w0 H0 o K a w := by
  obtain ⟨H1, _, hS⟩ := hS0.frzOpds so.pures
  have hA : evA so (S.frzOpds so.pures) (fun s => K ((S.frzOpds so.pures).put? o.dst s)) → Told N w0 H0 o K a w := fun h => told_evA hS hd ho hm h
  cases hm with
  | alc h1 h2 h3 => exact told_alc hS hd ho h1 h2 h3 h
  | box =>
    obtain ⟨s, hs, h1, h⟩ := oB_elim h
    exact told_bx hS hd ho hs h1 h
  | st h1 =>
    obtain ⟨hdn, h⟩ := h
    obtain ⟨s, hs, h⟩ := oB_elim h
    obtain ⟨v, hv, h⟩ := oB_elim h
    cases s with
    | ptr i idx off =>
      simp only at h
      split at h
      · rename_i t cs hg
        obtain ⟨a1, a2, a3, h⟩ := h
        exact told_st1 hS hdn ho h1 hs hv hg a1 a2 a3 h
      · obtain ⟨v', hv', h⟩ := oB_elim h
        obtain ⟨a1, a2, a3, h⟩ := h
        have hX := hS.opd hs
        have hY := hS.opd hv
        obtain ⟨H2, l2, hS2⟩ := hS.frzSh v
        split at h
        · rename_i e kk es hg
          obtain ⟨c, hc, a4, h⟩ := oB_elim h
          exact told_st2 hS2 hdn ho h1 rfl (hX.mono l2 (ELe.refl _)) (hY.mono l2 (ELe.refl _)) hv' hg a1 a2 a3 hc a4 h
        · exact h.elim
      · rename_i e cs hg
        obtain ⟨a1, a2, a3, h⟩ := h
        exact told_st3 hS hdn ho h1 hs hv hg a1 a2 a3 h
      · exact h.elim
    | _ => exact h.elim
  | bso h1 h2 h3 h4 h5 h6 h7 => obtain ⟨es, he, _, h⟩ := oB_elim h; exact told_bso hS hd ho h1 h2 h3 h4 h5 h6 h7 he h
  | mks h1 h2 h3 h4 h5 h6 =>
    obtain ⟨s, hs, h⟩ := oB_elim h
    cases s with
    | v q => cases q with
      | int kf m => obtain ⟨a1, a2, a3, h⟩ := h; exact told_mks hS hd ho h1 h2 h3 h4 h5 h6 hs a1 a2 a3 h
      | _ => exact h.elim
    | _ => exact h.elim
  | mkm h1 h2 => exact told_mkm hS hd ho h
  | app h1 h2 h3 h4 h5 =>
    obtain ⟨s, hs, h⟩ := oB_elim h
    obtain ⟨j, hj, h⟩ := oB_elim h
    cases s with
    | sl k1 full xs =>
      cases j with
      | sl k2 f2 ys => obtain ⟨rfl, rfl, bg, b0, b1, b2, h⟩ := h; exact told_app2 hS hd ho h1 h2 h3 h4 h5 (hS.opd hs) bg hj rfl b0 b1 b2 h
      | _ => exact h.elim
    | own i =>
      cases j with
      | sl k2 f2 ys =>
        simp only at h
        split at h
        · rename_i e' k1 es hg
          obtain ⟨rfl, rfl, rfl, b1, b2, h⟩ := h
          exact told_app1 hS hd ho h1 h2 h3 h4 h5 hs hg hj rfl b1 b2 h
        · exact h.elim
      | _ => exact h.elim
    | _ => exact h.elim
  | cpy h1 h2 =>
    obtain ⟨s, hs, h⟩ := oB_elim h
    obtain ⟨j, hj, h⟩ := oB_elim h
    cases s with
    | own i =>
      cases j with
      | sl k2 f2 ys =>
        simp only at h
        split at h
        · rename_i e' k1 es hg
          obtain ⟨rfl, rfl, h⟩ := h
          exact told_cpy hS hd ho h1 h2 hs hg hj rfl h
        · exact h.elim
      | _ => exact h.elim
    | _ => exact h.elim
  | mup h1 h2 =>
    obtain ⟨hdn, h⟩ := h
    obtain ⟨s, hs, h⟩ := oB_elim h
    obtain ⟨j, hj, h⟩ := oB_elim h
    obtain ⟨v, hv, h⟩ := oB_elim h
    cases s with
    | own i =>
      cases j with
      | v q =>
        cases q with
        | int kf n =>
          cases kf with
          | i64 =>
            simp only at h
            split at h
            · rename_i kt' M f hg
              obtain ⟨rfl, b1, b2, b3, h⟩ := h
              rcases h with h | ⟨M', hM', h⟩
              · exact told_mup hS hdn (.inl ho) h1 h2 hs hj hv hg b1 b2 b3 (.inl rfl) h
              · exact told_mup hS hdn (.inl ho) h1 h2 hs hj hv hg b1 b2 b3 (.inr hM') h
            · rename_i q kt' M f hg
              obtain ⟨rfl, b1, b2, b3, h⟩ := h
              exact told_mpr hS hdn (.inl ho) h1 h2 hs hj hv hg b1 b2 b3 h
            · exact h.elim
          | _ => exact h.elim
        | _ => exact h.elim
      | _ => exact h.elim
    | _ => exact h.elim
  | ins h1 h2 =>
    obtain ⟨hdn, h⟩ := h
    obtain ⟨s, hs, h⟩ := oB_elim h
    obtain ⟨j, hj, h⟩ := oB_elim h
    obtain ⟨v, hv, h⟩ := oB_elim h
    cases s with
    | own i =>
      cases j with
      | v q =>
        cases q with
        | int kf n =>
          cases kf with
          | i64 =>
            simp only at h
            split at h
            · rename_i kt' M f hg
              obtain ⟨rfl, b1, b2, b3, h⟩ := h
              rcases h with h | ⟨M', hM', h⟩
              · exact told_mup hS hdn (.inr ho) h1 h2 hs hj hv hg b1 b2 b3 (.inl rfl) h
              · exact told_mup hS hdn (.inr ho) h1 h2 hs hj hv hg b1 b2 b3 (.inr hM') h
            · rename_i q kt' M f hg
              obtain ⟨rfl, b1, b2, b3, h⟩ := h
              exact told_mpr hS hdn (.inr ho) h1 h2 hs hj hv hg b1 b2 b3 h
            · exact h.elim
          | _ => exact h.elim
        | _ => exact h.elim
      | _ => exact h.elim
    | _ => exact h.elim
  | lenm h1 h2 =>
    obtain ⟨s, hs, h⟩ := oB_elim h
    cases s with
    | mp kt' f => obtain ⟨hkk, k0, k1⟩ := h; exact told_lenm hS hd ho h1 h2 hs k0 k1 (by rw [hkk]; exact h2)
    | own i =>
      simp only at h
      split at h
      · rename_i kt' M f hg
        obtain ⟨hkk, k1⟩ := h
        exact told_lenm_own hS hd ho h1 hs hg k1 (by rw [hkk]; exact h2)
      · exact h.elim
    | _ => exact h.elim
  | call h1 h2 h3 =>
    have go : ∀ {S : St} {E : Env} {H : Hp}, Sim N w0 H0 S E a w H → evCall _ _ S o.dst K → Told N w0 H0 o K a w := fun hS h => by
      rcases h with h | h
      · exact told_evA hS hd ho (.call h1 h2 h3) h
      · obtain ⟨l, hl, h⟩ := oB_elim h
        rcases h with ⟨e, k, es, hr, hk⟩ | ⟨kt, M, g, hr, hk, hk2⟩
        · exact told_row hS hd ho (callFunc_enter h1 h2 h3) hl hr hk
        · exact told_map hS hd ho (callFunc_enter h1 h2 h3) hl hr hk hk2
    rcases h with h | ⟨cs, h⟩ | ⟨l, P, hl, hr, hk⟩
    · exact go hS h
    · obtain ⟨E2, hS2⟩ := hS0.casts cs
      obtain ⟨H2, _, hS3⟩ := hS2.frzOpds _
      exact go hS3 h
    · exact told_callO hS0 hd ho (callFunc_enter h1 h2 h3) hl hr hk
  | @callv t args tys =>
    rcases h with h | ⟨s, l0, f, l, P, hx, hl, hc, hr, hk⟩
    · exact hA h
    · exact told_callvO hS0 hd ho hx hl hc hr hk
  | gen =>
    rcases h with h | ⟨x, name, args, tys, t, s0, l0, f, P, rfl, rfl, hx, hl, hM, hEn, hr, hk⟩
    · exact hA h
    · exact told_invO hS0 hd ho hx hl hM hEn hr hk
  | @eqv t x y t2 =>
    rcases h with h | h
    · exact hA h
    · obtain ⟨s, hs, h⟩ := oB_elim h
      obtain ⟨j, hj, h⟩ := oB_elim h
      cases s with
      | own i =>
        cases j with
        | v q =>
          cases q with
          | map p =>
            cases p with
            | none =>
              simp only at h
              split at h
              · rename_i kt M f hg
                obtain ⟨⟨kt', e, hu⟩, h⟩ := h
                exact told_eqo (neg := false) hS hd ho hu hs hj hg h
              · exact h.elim
            | _ => exact h.elim
          | _ => exact h.elim
        | _ => exact h.elim
      | _ => exact h.elim
  | @neqv t x y t2 =>
    rcases h with h | h
    · exact hA h
    · obtain ⟨s, hs, h⟩ := oB_elim h
      obtain ⟨j, hj, h⟩ := oB_elim h
      cases s with
      | own i =>
        cases j with
        | v q =>
          cases q with
          | map p =>
            cases p with
            | none =>
              simp only at h
              split at h
              · rename_i kt M f hg
                obtain ⟨⟨kt', e, hu⟩, h⟩ := h
                exact told_eqo (neg := true) hS hd ho hu hs hj hg h
              · exact h.elim
            | _ => exact h.elim
          | _ => exact h.elim
        | _ => exact h.elim
      | _ => exact h.elim
  | del h1 h2 =>
    obtain ⟨s, hs, h⟩ := oB_elim h
    obtain ⟨j, hj, h⟩ := oB_elim h
    cases s with
    | own i =>
      cases j with
      | v q =>
        cases q with
        | int kf n =>
          cases kf with
          | i64 =>
            simp only at h
            split at h
            · rename_i kt' M f hg
              obtain ⟨rfl, b2, b3, h⟩ := h
              exact told_del hS hd ho h1 h2 hs hj hg b2 b3 h
            · exact h.elim
          | _ => exact h.elim
        | _ => exact h.elim
      | _ => exact h.elim
    | v p =>
      cases p with
      | map pm =>
        cases pm with
        | none =>
          cases j with
          | v q =>
            cases q with
            | int kf n =>
              cases kf with
              | i64 => obtain ⟨b2, b3, h⟩ := h; exact told_del0 hS hd ho h1 h2 hs hj b2 b3 h
              | _ => exact h.elim
            | _ => exact h.elim
          | _ => exact h.elim
        | some b => cases j with
          | v q => cases q with
            | int kf n => cases kf <;> exact h.elim
            | _ => exact h.elim
          | _ => exact h.elim
      | _ => cases j with
        | v q => cases q with
          | int kf n => cases kf <;> exact h.elim
          | _ => exact h.elim
        | _ => exact h.elim
    | _ => exact h.elim
  | rng h1 h2 =>
    rcases h with h | ⟨i, M, f, hs, hg, h⟩
    · obtain ⟨s, hs, h⟩ := oB_elim h
      cases s with
      | mp kt' f => obtain ⟨rfl, h⟩ := h; exact told_rng hS hd ho h1 h2 hs h
      | _ => exact h.elim
    · exact told_rngO hS0 hd ho h1 h2 hs hg h
  | nxt =>
    obtain ⟨s, hs, h⟩ := oB_elim h
    cases s with
    | own i =>
      simp only at h
      split at h
      · rename_i f left cnt cur hg
        exact told_nxt hS hd ho hs hg h.1 h.2
      · rename_i q kt left cnt cur hg
        obtain ⟨im, M, f, hgm, h⟩ := h
        exact told_nxtM hS hd ho hs hg hgm h.1 h.2
      · exact h.elim
    | _ => exact h.elim
  | ent =>
    obtain ⟨s, hs, h⟩ := oB_elim h
    cases s with
    | own i =>
      simp only at h
      split at h
      · rename_i f left cnt j s hg
        exact told_ent hS hd ho hs hg h
      · rename_i q kt left cnt j hg
        obtain ⟨im, M, f, hgm, s, hf, h⟩ := h
        exact told_entM hS hd ho hs hg hgm hf h
      · exact h.elim
    | _ => exact h.elim
  | _ => exact hA h
end
end Go.Proofs.Ytijblpkdfmkcfaa
namespace Go.Proofs.Ytijblpkdfmkcfaa
set_option linter.unusedSimpArgs false
set_option linter.unusedVariables false
open Go.RowKit Go.Maps

/-- g names the slot of the operation that guards o. -/
def GdM (ops : Array Oper) (o : Oper) : Option (Nat × Bool) → Prop
  | none => o.guard = none
  | some (t, b) => ∃ j oj, o.guard = some (j, b) ∧ ops[j]? = some oj ∧ oj.dst = some t
/-- g tells operation o of region ops. -/
structure GM (N : Nat) (ops : Array Oper) (o : Oper) (g : GOp) : Prop where
  d : g.d = o.dst
  op : OpM o.op g.op
  lt : ∀ t, o.dst = some t → t < N
  gd : GdM ops o g.g
inductive GMs (N : Nat) (ops : Array Oper) : List Oper → List GOp → Prop
  | nil : GMs N ops [] []
  | cons {o g l gl} : GM N ops o g → GMs N ops l gl → GMs N ops (o :: l) (g :: gl)

/-- What is left behind. -/
def End (N : Nat) (w0 : World) (H0 : Hp) (K : St → Prop) (a : Act) (w : World) : Prop := ∃ S' E' H', K S' ∧ Sim N w0 H0 S' E' a w H'

section
variable {N : Nat} {w0 w w' : World} {H0 H H' : Hp} {S : St} {E : Env} {a : Act} {o : Oper} {K : St → Prop} {ops : Array Oper} {Q : Exit → Act → World → Prop}

theorem dstv_of {j : Nat} {oj : Oper} {t : Nat} (hj : ops[j]? = some oj) (hd : oj.dst = some t) : dstv ops a j = a.eval (.tmp t) := by simp [dstv, hj, hd]

theorem bool_of {t : Nat} {bb : Bool} (hR : Rep H E (.v (.bool bb)) (a.eval (.tmp t))) : a.eval (.tmp t) = .bool bb := by
  generalize a.eval (.tmp t) = q at hR
  cases hR; rfl

theorem Sim.del? (h : Sim N w0 H0 S E a w H) {d : Option Nat} {v : Value} : Sim N w0 H0 (S.del? d) E (a.put d v) w H := by
  cases d with
  | none => exact h
  | some d => exact h.skip

theorem wanted_tup {j : Nat} {oj : Oper} {t : Nat} {b : Bool} (g1 : o.guard = some (j, b)) (g2 : ops[j]? = some oj) (g3 : oj.dst = some t) (hv : a.eval (.tmp t) = undef) : Region.wanted o (yielded ops a.tmps) = false := by
  unfold Region.wanted
  rw [g1]
  simp only [yielded, g2, g3, Option.bind_some]
  cases h : a.tmps[t]? with
  | none => rfl
  | some v =>
    have : v = undef := by simpa [Act.eval, h] using hv
    subst this
    rfl

theorem evL_app {l2 : List Oper} : ∀ {l : List Oper} {gl : List GOp} {S : St} {E : Env} {a : Act} {w : World} {H : Hp} {K : St → Prop}, GMs N ops l gl → evL gl S K → Sim N w0 H0 S E a w H → (∀ a w, End N w0 H0 K a w → wpList Try.prog ops Q l2 a w) → wpList Try.prog ops Q (l ++ l2) a w
  | _, _, _, _, _, _, _, _, .nil, h, hS, hQ => hQ _ _ ⟨_, _, _, h, hS⟩
  | o :: l, g :: gl, S, E, a, w, H, K, .cons hg ht, h, hS, hQ => by
    have run : ∀ {K' : St → Prop}, evOp o.dst g.op S K' → (∀ S', K' S' → evL gl S' K) → o.wp Try.prog a w (wpList Try.prog ops Q (l ++ l2)) Q := fun hk hK' => by
      refine Oper.wp_post ?_ (evOp_sound hS hg.lt rfl hg.op hk)
      rintro a' w' ⟨S', E', H', hk', hS'⟩
      exact evL_app ht (hK' _ hk') hS' hQ
    rw [List.cons_append]
    unfold wpList
    simp only [evL, evG] at h
    have hgd := hg.gd
    split at h
    · rename_i hn
      rw [hn] at hgd
      rw [if_pos (wanted_none hgd)]
      rw [hg.d] at h
      exact .inl (run h fun _ h => h)
    · rename_i t b hn
      rw [hn] at hgd
      obtain ⟨j, oj, g1, g2, g3⟩ := hgd
      obtain ⟨s, hs, h⟩ := oB_elim h
      have hR := hS.opd hs
      cases s with
      | v q =>
        cases q with
        | bool bb =>
          have hv : dstv ops a j = .bool bb := (dstv_of g2 g3).trans (bool_of hR)
          rw [wanted_some g1 hv]
          rw [hg.d] at h
          by_cases hb : bb = b
          · rw [if_pos (by simp [hb])]
            exact .inl (run (h.1 hb) fun _ h => h)
          · rw [if_neg (by simp [hb])]
            have hb' : bb = !b := by cases bb <;> cases b <;> simp_all
            exact evL_app ht (h.2 hb') (hS.put (v := undef) (.tup .nil) hg.lt) hQ
        | _ => exact h.elim
      | tup cs =>
        cases cs with
        | nil =>
          have hv : a.eval (.tmp t) = undef := by
            generalize a.eval (.tmp t) = q at hR
            cases hR with
            | tup h => cases h; rfl
          rw [wanted_tup g1 g2 g3 hv, if_neg (by simp)]
          rw [hg.d] at h
          exact evL_app ht h (hS.put (v := undef) (.tup .nil) hg.lt) hQ
        | cons _ _ => exact h.elim
      | _ => exact h.elim

theorem evL_sound {l : List Oper} {gl : List GOp} {S : St} {E : Env} {a : Act} {w : World} {H : Hp} {K : St → Prop} (hg : GMs N ops l gl) (h : evL gl S K) (hS : Sim N w0 H0 S E a w H) (hQ : ∀ a w, End N w0 H0 K a w → Q .normal a w) : wpList Try.prog ops Q l a w := by
  have := evL_app (l2 := []) hg h hS (Q := Q) hQ
  rwa [List.append_nil] at this

/-! ### In front -/
def shRel (E : Env) (s : Sh) : Rel := fun v _ H => Rep H E s v
theorem keeps_sh (E : Env) (s : Sh) : Keeps (shRel E s) := fun _ _ _ _ _ h g hs => h.mono (g.le hs) (ELe.refl _)
def boxRel (E : Env) (B : Nat) (t : TypeId) (cs : List Sh) : Rel := fun v w H => ∃ b vs, v = .pointer (some ⟨b, 0, none⟩) ∧ B ≤ b ∧ H b = none ∧ w.heap[b]? = some (.cells vs.toArray t (0, 0)) ∧ RepL H E cs vs
theorem keeps_box (E : Env) (B : Nat) (t : TypeId) (cs : List Sh) : Keeps (boxRel E B t cs) := fun v w H w' H' ⟨b, vs, h1, h2, h3, h4, h5⟩ g hs => by
  have hlt := (Array.getElem?_eq_some_iff.1 h4).1
  exact ⟨b, vs, h1, h2, (g.old b hlt).trans h3, (g.below.block b hlt).trans h4, h5.mono (g.le hs) (ELe.refl _)⟩

def rowRel (E : Env) (B : Nat) (e : TypeId) (k : Nat) (es : List (List Sh)) : Rel := fun v w H => ∃ ob xs, 0 < k ∧ RepEs H k es xs ∧ ((es = [] ∧ ob = none ∧ ∃ a, v = .slice a 0 0) ∨
  ∃ g cap cur, ob = some g ∧ v = .slice (some ⟨g, 0, none⟩) es.length cap ∧ B ≤ g ∧ H g = none ∧ w.heap[g]? = some (.cells cur e (0, 0)) ∧ es.length ≤ cap ∧ cap ≤ maxLen ∧ (es = [] → cap = 0) ∧ cur.size = cap * k ∧ cur.toList.take (es.length * k) = xs)
theorem keeps_row (E : Env) (B : Nat) (e : TypeId) (k : Nat) (es : List (List Sh)) : Keeps (rowRel E B e k es) := fun v w H w' H' ⟨ob, xs, hk, h2, h3⟩ g hs => by
  refine ⟨ob, xs, hk, h2.mono (g.le hs), h3.imp id ?_⟩
  rintro ⟨g', cap, cur, a1, a2, a3, a4, a5, a6⟩
  have hlt := (Array.getElem?_eq_some_iff.1 a5).1
  exact ⟨g', cap, cur, a1, a2, a3, (g.old _ hlt).trans a4, (g.below.block _ hlt).trans a5, a6⟩

/-- A slot that a front operation reads comes from outside or from one that it waits for. -/
def srcB (ops : Array Oper) (n : Nat) (o : Oper) (t : Nat) : Bool := noDst ops n t || (List.range n).any fun i => waits o i && ((ops[i]?).bind (·.dst) == some t)
def opdB (ops : Array Oper) (n : Nat) (o : Oper) : Operand → Bool
  | .tmp t => srcB ops n o t
  | _ => true
def frontB (ops : Array Oper) (n : Nat) (gl : List GOp) : Bool :=
  (List.range n).all fun i => match ops[i]?, gl[i]? with
    | some o, some g => g.op.opds.all (opdB ops n o) && (match g.g with | none => true | some (t, _) => (match o.guard with | some (j, _) => waits o j && decide (j < n) | none => false) && srcB ops n o t)
    | _, _ => false
/-- Floats are moves and parts of tuples. -/
def SOp.flo : SOp → Bool
  | .mv _ | .ext _ _ | .nck _ => true
  | _ => false
def floatB (fl : List Nat) (gl : List GOp) : Bool := fl.all fun i => match gl[i]? with
  | some g => g.op.flo
  | none => false

/-- What is known of the slots while the front is gone through. -/
def SlotAt (ops : Array Oper) (n : Nat) (Γ : List Rel) (S0 : St) (E : Env) (t : Nat) (x : Sh) : Prop :=
  (noDst ops n t = true ∧ getA S0.T t = some x) ∨ (∃ i o, i < Γ.length ∧ ops[i]? = some o ∧ o.dst = some t ∧ Γ[i]? = some (shRel E x)) ∨ (∃ i o, Γ.length ≤ i ∧ i < n ∧ ops[i]? = some o ∧ o.dst = some t)
def Slots (ops : Array Oper) (n : Nat) (Γ : List Rel) (S0 S : St) (E : Env) : Prop :=
  S.O = S0.O ∧ ∀ t x, getA S.T t = some x → SlotAt ops n Γ S0 E t x

theorem noDst_spec {n t i : Nat} {o : Oper} (h : noDst ops n t = true) (hi : i < n) (ho : ops[i]? = some o) : o.dst ≠ some t := by
  unfold noDst at h
  rw [List.all_eq_true] at h
  have hm : o ∈ ops.toList.take n := by
    rw [List.mem_iff_getElem?]
    exact ⟨i, by rw [List.getElem?_take, if_pos hi]; simpa using ho⟩
  simpa using h o hm

variable {n : Nat} {fl : List Nat} {a0 : Act} {W0 : World} {HF : Hp} {Γ : List Rel} {S0 : St}

theorem slots_opd (hf : AgFacts ops n fl) (hS : Sim N w0 H0 S0 E a0 W0 HF) (hsl : Slots ops n Γ S0 S E) (hlen : Γ.length < n) (hoi : ops[Γ.length]? = some o) (hw : Grow W0 HF w H) (hp : Preds ops Γ o a w H) (ho : OutSame ops n a0 a)
    {x : Operand} (hx : opdB ops n o x = true) : ∀ y, S.opd x = some y → Rep H E y (a.eval x) := fun y hy => by
  have hO : Objs w0.heap.size S E w H := fun i o' hi => by rw [hsl.1] at hi; exact (hS.ob i o' hi).grow hw hS.sub
  refine opd_of hw.sub.glob hO (fun t z ht hz => ?_) hy
  subst ht
  simp only [opdB, srcB, Bool.or_eq_true, List.any_eq_true, List.mem_range, Bool.and_eq_true, beq_iff_eq] at hx
  rcases hsl.2 t z hz with ⟨h1, h2⟩ | ⟨i, oi, h1, h2, h3, h4⟩ | ⟨i, oi, h1, h2, h3, h4⟩
  · rw [oeval ho h1]; exact (hS.tm t z h2).mono (hw.le hS.sub) (ELe.refl _)
  · rcases hx with hx | ⟨i', hi', hx1, hx2⟩
    · exact absurd h3 (noDst_spec hx (by omega) h2)
    · have hii : i' = i := Decidable.byContradiction fun hne => hf.dst i' i hi' (by omega) hne t hx2 (by rw [h2]; simpa using h3)
      subst hii
      have := hp i' _ hx1 h4
      rw [dstv_of h2 h3] at this
      exact this
  · rcases hx with hx | ⟨i', hi', hx1, hx2⟩
    · exact absurd h4 (noDst_spec hx h2 h3)
    · have hii : i' = i := Decidable.byContradiction fun hne => hf.dst i' i hi' h2 hne t hx2 (by rw [h3]; simpa using h4)
      subst hii
      obtain ⟨e, he, hb, hon⟩ := waits_spec hx1
      have := hf.ed _ _ hoi e he hb
      omega
end
end Go.Proofs.Ytijblpkdfmkcfaa
namespace Go.Proofs.Ytijblpkdfmkcfaa
set_option linter.unusedSimpArgs false
set_option linter.unusedVariables false
open Go.RowKit Go.Maps

section
variable {N : Nat} {w0 w w' : World} {H0 H H' : Hp} {S : St} {E : Env} {a : Act} {o : Oper} {K : St → Prop} {ops : Array Oper} {Q : Exit → Act → World → Prop}
variable {n : Nat} {fl : List Nat} {a0 : Act} {W0 : World} {HF : Hp} {Γ : List Rel} {S0 F : St} {ts : List TypeId}

/-- A float comes to its value in whatever world. -/
theorem float_val {op : Op} {so : SOp} {k : Sh → Prop} (ho : o.op = op) (hm : OpM op so) (hfl : so.flo = true) (h : evA so S k) :
    ∃ s, k s ∧ ∀ (a : Act) (H : Hp), OpdOk S E H a so.opds → ∃ v, (∀ w', (execOp a.eval o).run Try.prog w' = .ok (.value v) w') ∧ Rep H E s v := by
  cases hm with
  | mv => obtain ⟨s, hs, hk⟩ := oB_elim h; exact ⟨s, hk, fun a H h3 => ⟨a.eval _, fun w' => by simp [execOp, ho], h3.get (by simp [SOp.opds]) hs⟩⟩
  | asg => obtain ⟨s, hs, hk⟩ := oB_elim h; exact ⟨s, hk, fun a H h3 => ⟨a.eval _, fun w' => by simp [execOp, ho], h3.get (by simp [SOp.opds]) hs⟩⟩
  | @ext x i =>
    obtain ⟨s, hs, h⟩ := oB_elim h
    cases s with
    | tup cs =>
      obtain ⟨r, hr, h⟩ := oB_elim h
      refine ⟨r, h, fun a H h3 => ?_⟩
      have hR := h3.get (by simp [SOp.opds]) hs
      generalize hq : a.eval x = q at hR
      cases hR with
      | tup hL =>
        obtain ⟨u, hu, hr⟩ := hL.get hr
        exact ⟨u, fun w' => by simp [execOp, ho, hq, Instr.extract, hu], hr⟩
    | _ => exact h.elim
  | @nck x =>
    obtain ⟨s, hs, h⟩ := oB_elim h
    have run : ((∃ i idx o, s = .ptr i idx o) ∨ (∃ e o, s = .fp e o) ∨ (∃ f a b, s = .fn (.func f) a b) ∨ ∃ t y, s = .ifc t y) → ∀ (a : Act) (H : Hp), OpdOk S E H a (SOp.nck x).opds → ∃ v, (∀ w', (execOp a.eval o).run Try.prog w' = .ok (.value v) w') ∧ Rep H E s v := fun hc a H h3 => by
      have hR := h3.get (by simp [SOp.opds]) hs
      refine ⟨a.eval x, fun w' => ?_, hR⟩
      generalize hq : a.eval x = q at hR
      rcases hc with ⟨i, idx, o', rfl⟩ | ⟨e, o', rfl⟩ | ⟨f, b, c, rfl⟩ | ⟨t, y, rfl⟩ <;> cases hR <;> simp [execOp, ho, hq]
    cases s with
    | ptr i idx o' => exact ⟨_, h, run (.inl ⟨_, _, _, rfl⟩)⟩
    | fp e o' => exact ⟨_, h, run (.inr (.inl ⟨_, _, rfl⟩))⟩
    | fn f a b => cases f with
      | func f => exact ⟨_, h, run (.inr (.inr (.inl ⟨_, _, _, rfl⟩)))⟩
      | _ => exact h.elim
    | ifc t y => exact ⟨_, h, run (.inr (.inr (.inr ⟨_, _, rfl⟩)))⟩
    | _ => exact h.elim
  | _ => cases hfl

def FinI (N : Nat) (w0 : World) (H0 : Hp) (ops : Array Oper) (Q : Exit → Act → World → Prop) (n : Nat) (a0 : Act) (W0 : World) (HF : Hp) (E : Env) (Γ : List Rel) (F : St) : Prop :=
  ∀ W H, Grow W0 HF W H → ∀ os2 Rs2, (∀ a' E', ELe E E' → Sim N w0 H0 F E' a' W H → FinL Try.prog ops Q n W H os2 Rs2 a') → FinL Try.prog ops Q n W H (ops.toList.take Γ.length ++ os2) (Γ ++ Rs2) a0
def NewTys (S0 F : St) (ts : List TypeId) : Prop := ∀ i o, getA F.O i = some o → getA S0.O i = some o ∨ ∃ t, t ∈ ts ∧ ((∃ cs, o = .box t cs) ∨ ∃ k es, o = .row t k es)

theorem fin_step (h : FinI N w0 H0 ops Q n a0 W0 HF E Γ F) (ho : ops[Γ.length]? = some o) {R : Rel} {F' : St}
    (hstep : ∀ W H a' E' v, Grow W0 HF W H → ELe E E' → Sim N w0 H0 F E' a' W H → R v W H → ∃ E'', ELe E E'' ∧ Sim N w0 H0 F' E'' (a'.put o.dst v) W H) : FinI N w0 H0 ops Q n a0 W0 HF E (Γ ++ [R]) F' := by
  intro W H hg os2 Rs2 hk
  have e : ops.toList.take (Γ ++ [R]).length = ops.toList.take Γ.length ++ [o] := by
    rw [List.length_append, List.length_singleton, List.take_add_one]
    simp [ho]
  rw [e, List.append_assoc, List.append_assoc]
  refine h W H hg _ _ (fun a' E' hE hS => ?_)
  intro v hv
  obtain ⟨E'', hE'', hS''⟩ := hstep W H a' E' v hg hE hS hv
  exact hk _ _ hE'' hS''

theorem slots_put (hsl : Slots ops n Γ S0 S E) (ho : ops[Γ.length]? = some o) (s : Sh) : Slots ops n (Γ ++ [shRel E s]) S0 (S.put? o.dst s) E := by
  refine ⟨by cases o.dst <;> exact hsl.1, fun t x hx => ?_⟩
  have hlen : (Γ ++ [shRel E s]).length = Γ.length + 1 := by simp
  have old : getA S.T t = some x → o.dst ≠ some t → SlotAt ops n (Γ ++ [shRel E s]) S0 E t x := fun hx hne => by
    rcases hsl.2 t x hx with h | ⟨i, oi, h1, h2, h3, h4⟩ | ⟨i, oi, h1, h2, h3, h4⟩
    · exact Or.inl h
    · exact Or.inr (.inl ⟨i, oi, by omega, h2, h3, by rw [List.getElem?_append_left h1]; exact h4⟩)
    · refine Or.inr (.inr ⟨i, oi, ?_, h2, h3, h4⟩)
      rw [hlen]
      rcases Nat.lt_or_ge Γ.length i with h | h
      · omega
      · obtain rfl : i = Γ.length := by omega
        rw [ho] at h3; cases h3
        exact absurd h4 hne
  cases hd : o.dst with
  | none => rw [hd] at hx old; exact old hx (by simp)
  | some d =>
    rw [hd] at hx old
    simp only [St.put?, St.put, getA_put] at hx
    split at hx
    · rename_i e; cases hx; subst e
      exact .inr (.inl ⟨Γ.length, o, by omega, ho, hd, by simp⟩)
    · rename_i e; exact old hx (fun h => e (Option.some.inj h))
theorem slots_del (hsl : Slots ops n Γ S0 S E) (ho : ops[Γ.length]? = some o) (R : Rel) : Slots ops n (Γ ++ [R]) S0 (S.del? o.dst) E := by
  refine ⟨by cases o.dst <;> exact hsl.1, fun t x hx => ?_⟩
  have hlen : (Γ ++ [R]).length = Γ.length + 1 := by simp
  have old : getA S.T t = some x → o.dst ≠ some t → SlotAt ops n (Γ ++ [R]) S0 E t x := fun hx hne => by
    rcases hsl.2 t x hx with h | ⟨i, oi, h1, h2, h3, h4⟩ | ⟨i, oi, h1, h2, h3, h4⟩
    · exact Or.inl h
    · exact Or.inr (.inl ⟨i, oi, by omega, h2, h3, by rw [List.getElem?_append_left h1]; exact h4⟩)
    · refine Or.inr (.inr ⟨i, oi, ?_, h2, h3, h4⟩)
      rw [hlen]
      rcases Nat.lt_or_ge Γ.length i with h | h
      · omega
      · obtain rfl : i = Γ.length := by omega
        rw [ho] at h3; cases h3
        exact absurd h4 hne
  cases hd : o.dst with
  | none => rw [hd] at hx old; exact old hx (by simp)
  | some d =>
    rw [hd] at hx old
    obtain ⟨hx, hne⟩ := getA_del hx
    exact old hx (fun h => hne (Option.some.inj h))

/-- A new block of a type that no other new block has lies apart from all that is live. -/
theorem new_apart (hS : Sim N w0 H0 S0 E a0 W0 HF) (hN : NewTys S0 F ts) {t : TypeId} (hts : ts.contains t = false) {W : World} {a' : Act} {E' : Env} {b : Nat} {cs : Array Value} {i : Nat} {o : Ob} {u : Value} {k : Nat} (hE : ELe E E')
    (hF : Sim N w0 H0 F E' a' W H) (ho : getA F.O i = some o) (hl : o.live = true) (he : E' i = some (u, k, some b)) (h2 : W0.heap.size ≤ b) (h4 : W.heap[b]? = some (.cells cs t (0, 0))) : False := by
  have ht : ∀ t', t' ∈ ts → t ≠ t' := fun t' ht' e => by
    subst e
    have : ts.contains t = true := by simpa using ht'
    rw [hts] at this; cases this
  rcases hN i o ho with hi | ⟨t', ht', ⟨cs', rfl⟩ | ⟨k', es', rfl⟩⟩
  · -- a part that was there before the region
    have hob := hS.ob i o hi
    have hEi : ∃ q, E i = some q := by
      cases o with
      | box t cs => obtain ⟨b, vs, h1, _⟩ := hob; exact ⟨_, h1⟩
      | row e k es => obtain ⟨u, ob, xs, h1, _⟩ := hob; exact ⟨_, h1⟩
      | map kt N f => obtain ⟨b, o, F, h1, _⟩ := hob; exact ⟨_, h1⟩
      | iter f left cnt cur => obtain ⟨r, ob, h1, _⟩ := hob; exact ⟨_, h1⟩
      | frz x => obtain ⟨u, k, b, h1, _⟩ := hob; exact ⟨_, h1⟩
      | obx e cs => obtain ⟨b, cap, cur, h1, _⟩ := hob; exact ⟨_, h1⟩
      | gh J => exact hob.1
      | mpr q kt N f => obtain ⟨es, F, h1, _⟩ := hob; exact ⟨_, h1⟩
      | itm q kt left cnt cur => obtain ⟨r, ob, h1, _⟩ := hob; exact ⟨_, h1⟩
    obtain ⟨q, hq⟩ := hEi
    have := hE i q hq
    rw [he] at this; cases this
    have := (hS.live_lt ⟨o, hi, hl⟩ hq).2.2
    omega
  · obtain ⟨b2, vs2, e1, _, _, e4, _⟩ := hF.ob i _ ho
    rw [he] at e1; cases e1
    rw [h4] at e4
    simp only [Option.some.injEq, Obj.cells.injEq] at e4
    exact ht t' ht' e4.2.1
  · obtain ⟨u2, ob2, xs2, e1, _, _, e3⟩ := hF.ob i _ ho
    rw [he] at e1; cases e1
    rcases e3 with ⟨_, e, _⟩ | ⟨g, cap, cur, e, _, _, _, e4, _⟩
    · cases e
    · cases e
      rw [h4] at e4
      simp only [Option.some.injEq, Obj.cells.injEq] at e4
      exact ht t' ht' e4.2.1
theorem fin_row (hS : Sim N w0 H0 S0 E a0 W0 HF) (hN : NewTys S0 F ts) {e : TypeId} {k : Nat} {es : List (List Sh)} (hts : ts.contains e = false) {d : Option Nat} (hd : ∀ t, d = some t → t < N) {W : World} {a' : Act} {E' : Env} {v : Value} (hE : ELe E E')
    (hF : Sim N w0 H0 F E' a' W H) (hv : rowRel E W0.heap.size e k es v W H) : ∃ E'', ELe E E'' ∧ Sim N w0 H0 ((F.newO (.row e k es)).put? d (.own F.n)) E'' (a'.put d v) W H := by
  obtain ⟨ob, xs, hk, h2, h3⟩ := hv
  have hn := hF.fr F.n (Nat.le_refl _)
  let p : Value × Nat × Option Nat := (v, k, ob)
  have hle := Env.set_le p hn
  have hv1 : v.oneCell' = true := by rcases h3 with ⟨_, _, a, rfl⟩ | ⟨g, cap, cur, _, rfl, _⟩ <;> rfl
  have hR := hF.new (o := .row e k es) (p := p) ⟨v, ob, xs, Env.set_self _ _ _, hk, h2, h3.imp id (by rintro ⟨g, cap, cur, a1, a2, a3, a4⟩; exact ⟨g, cap, cur, a1, a2, Nat.le_trans hS.grow.below.size a3, a4⟩)⟩ (by
    rintro b' hb' i ⟨o, ho, hl⟩ u k' he
    rcases h3 with ⟨_, e0, _⟩ | ⟨g, cap, cur, a1, _, a3, _, a5, _⟩
    · have hb2 : ob = some b' := hb'
      rw [e0] at hb2; cases hb2
    · have hb2 : ob = some b' := hb'
      rw [a1] at hb2; cases hb2
      exact new_apart hS hN hts hE hF ho hl he a3 a5)
  refine ⟨E'.set F.n p, fun i q hq => hle i q (hE i q hq), hR.put ?_ hd⟩
  exact .own (Env.set_self E' F.n p) hv1

theorem fin_box (hS : Sim N w0 H0 S0 E a0 W0 HF) (hN : NewTys S0 F ts) {t : TypeId} {cs : List Sh} (hts : ts.contains t = false) (h1 : cs.all Sh.one = true) {d : Option Nat} (hd : ∀ t, d = some t → t < N) {W : World} {a' : Act} {E' : Env} {v : Value} (hE : ELe E E')
    (hF : Sim N w0 H0 F E' a' W H) (hv : boxRel E W0.heap.size t cs v W H) : ∃ E'', ELe E E'' ∧ Sim N w0 H0 ((F.newO (.box t cs)).put? d (.ptr F.n 0 0)) E'' (a'.put d v) W H := by
  obtain ⟨b, vs, rfl, h2, h3, h4, h5⟩ := hv
  have hn := hF.fr F.n (Nat.le_refl _)
  let p : Value × Nat × Option Nat := (.pointer (some ⟨b, 0, none⟩), 0, some b)
  have hle := Env.set_le p hn
  have hR := hF.new (o := .box t cs) (p := p) ⟨b, vs, Env.set_self _ _ _, Nat.le_trans hS.grow.below.size h2, h3, h4, h5.mono (fun _ _ h => h) (fun i q hq => hle i q (hE i q hq)), h1⟩ (by
    rintro b' hb' i ⟨o, ho, hl⟩ u k he
    cases hb'
    refine new_apart hS hN hts hE hF ho hl he h2 h4
)
  refine ⟨E'.set F.n p, fun i q hq => hle i q (hE i q hq), hR.put ?_ hd⟩
  have := Rep.ptr (H := H) (E := E'.set F.n p) (i := F.n) (idx := 0) (off := 0) (Env.set_self E' F.n p)
  simpa using this

theorem newTys_box (hN : NewTys S0 F ts) {t : TypeId} {cs : List Sh} {d : Option Nat} {x : Sh} : NewTys S0 ((F.newO (.box t cs)).put? d x) (t :: ts) := by
  intro i o ho
  have ho' : getA (F.newO (.box t cs)).O i = some o := by cases d <;> exact ho
  simp only [St.newO, getA] at ho'
  split at ho'
  · cases ho'; exact .inr ⟨t, by simp, .inl ⟨cs, rfl⟩⟩
  · rcases hN i o ho' with h | ⟨t', h1, h2⟩
    · exact .inl h
    · exact .inr ⟨t', by simp [h1], h2⟩
theorem newTys_row (hN : NewTys S0 F ts) {e : TypeId} {k : Nat} {es : List (List Sh)} {d : Option Nat} {x : Sh} : NewTys S0 ((F.newO (.row e k es)).put? d x) (e :: ts) := by
  intro i o ho
  have ho' : getA (F.newO (.row e k es)).O i = some o := by cases d <;> exact ho
  simp only [St.newO, getA] at ho'
  split at ho'
  · cases ho'; exact .inr ⟨e, by simp, .inr ⟨k, es, rfl⟩⟩
  · rcases hN i o ho' with h | ⟨t', h1, h2⟩
    · exact .inl h
    · exact .inr ⟨t', by simp [h1], h2⟩
theorem newTys_put (hN : NewTys S0 F ts) {d : Option Nat} {x : Sh} : NewTys S0 (F.put? d x) ts := fun i o ho => hN i o (by cases d <;> exact ho)
theorem newTys_del (hN : NewTys S0 F ts) {d : Option Nat} : NewTys S0 (F.del? d) ts := fun i o ho => hN i o (by cases d <;> exact ho)

theorem front_app {t e : TypeId} {i : TypeInfo} {z : Value} {x y : Operand} {ys : List (List Sh)} {k2 f2 : Nat} {a : Act} (ho : o.op = .call ⟨.builtin .append, #[x, y], #[t, t]⟩) (ht : Try.prog.underlying t = some (.slice e)) (hi : Try.prog.info? e = some i) (hz : i.zero = some z) (hzs : z.cells.size = i.size) (hpos : 0 < i.size)
    (hs : Sub H w) (hX : Rep H E (.sl i.size 0 []) (a.eval x)) (hY : Rep H E (.sl k2 f2 ys) (a.eval y)) (hk2 : k2 = i.size) (b1 : ys.length ≤ 140737488355328) (b2 : ys.length * i.bytes ≤ 140737488355328) :
    ∃ v w', (execOp a.eval o).run Try.prog w = .ok (.value v) w' ∧ Grow w H w' H ∧ ∀ E' B, B ≤ w.heap.size → rowRel E' B e i.size ys v w' H := by
  subst hk2
  generalize hqx : a.eval x = qx at hX
  generalize hqy : a.eval y = qy at hY
  obtain ⟨a1, n, c, rfl⟩ : ∃ a n c, qx = .slice a n c := by cases hX; exact ⟨_, _, _, rfl⟩
  obtain ⟨a2, m, c2, rfl⟩ : ∃ a n c, qy = .slice a n c := by cases hY; exact ⟨_, _, _, rfl⟩
  obtain ⟨us, p1, p2, p3, _, p4, p5, p6⟩ := sl_cells hs hX
  obtain ⟨vs, q1, q2, q3, _, q4, q5, q6⟩ := sl_cells hs hY
  subst p2; subst q2
  by_cases h0 : 0 < ys.length
  · cases a2 with
    | none => have := q5 rfl; omega
    | some ad =>
      have hml : ([] : List (List Sh)).length + ys.length ≤ maxLen := by unfold maxLen; simp; omega
      obtain ⟨v', w', hrun, r1, r2⟩ := run_append_sh (P := Try.prog) (w := w) (k := i.size) t o.type e i z ht hi hz hzs hpos (c2 := c2) p1.length p1.one (p4.full (.inr ⟨rfl, rfl⟩)) p5 p6 q1.length q1.one (q6 ad rfl) h0 hml (by simpa using b2)
      cases p1
      simp only [List.length_nil] at hrun hqx
      obtain ⟨g, cap, cur, rfl, s2, s3, s4, s5, s6, s7⟩ := ownsRow_rep (n := ys.length) (es := ys) (by simpa using r1) q1 rfl h0
      exact ⟨_, w', by simp [execOp, ho, resolve, hqx, hqy, invoke, builtin, hrun], (Grow.refl hs).grown r2 (fun k e => by cases e), fun E' B hB => ⟨some g, vs, hpos, q1, .inr ⟨g, cap, cur, rfl, rfl, Nat.le_trans hB s2, hs.none s2, s3, s4, s5, fun e => absurd e (fun e => by simp [e] at h0), s6, s7⟩⟩⟩
  · have hy0 : ys = [] := List.eq_nil_of_length_eq_zero (by omega)
    subst hy0
    have hc := p4.full (.inr ⟨rfl, rfl⟩)
    simp only [List.length_nil] at hc hqx hqy
    subst hc
    have hrun : (Builtin.append_ #[t, t] o.type #[.slice a1 0 0, .slice a2 0 c2]).run Try.prog w = .ok (.slice a1 0 0) w := by
      have hl : ∀ (x : Addr), (loadCells x 0).run Try.prog w = .ok #[] w := fun x => by simpa using run_loadCells_list (P := Try.prog) w x [] (by simp)
      cases a1 <;> cases a2 <;> simp [Builtin.append_, run_underlying ht, run_sizeOf hi, Builtin.lenOf, Builtin.firstCells, hl, storeCells]
    exact ⟨.slice a1 0 0, w, by simp [execOp, ho, resolve, hqx, hqy, invoke, builtin, hrun], Grow.refl hs, fun E' B hB => ⟨none, [], hpos, .nil, .inl ⟨rfl, rfl, a1, rfl⟩⟩⟩

theorem evF_sound {glA : List GOp} (hf : AgFacts ops n fl) (hS : Sim N w0 H0 S0 E a0 W0 HF) (hfront : frontB ops n glA = true) (hfloat : floatB fl glA = true) :
    ∀ (l : List Oper) (gl : List GOp) (Γ : List Rel) (S F : St) (ts : List TypeId), GMs N ops l gl → Γ.length + l.length = n → (∀ j, j < l.length → l[j]? = ops[Γ.length + j]?) → (∀ j, j < l.length → gl[j]? = glA[Γ.length + j]?) →
      Slots ops n Γ S0 S E → FinI N w0 H0 ops Q n a0 W0 HF E Γ F → NewTys S0 F ts → evF gl S F ts K → (∀ W H a, Grow W0 HF W H → End N w0 H0 K a W → wpList Try.prog ops Q (ops.toList.drop n) a W) → AGL Try.prog ops Q n fl a0 W0 HF Γ l
  | [], _, Γ, S, F, ts, .nil, hn, _, _, _, hfin, _, h, hk => by
    simp only [List.length_nil, Nat.add_zero] at hn
    refine agl_nil fun W H hg => ?_
    have := hfin W H hg [] [] (fun a' E' hE hF => by
      show wpList Try.prog ops Q (ops.toList.drop n) a' W
      exact hk W H a' hg ⟨F, E', H, h, hF⟩)
    rw [hn] at this
    simpa using this
  | o :: l, g :: gl, Γ, S, F, ts, .cons hg ht, hn, hl, hgl, hsl, hfin, hN, h, hk => by
    simp only [List.length_cons] at hn
    have hoi : ops[Γ.length]? = some o := by have := hl 0 (by simp); simpa using this.symm
    have hgi : glA[Γ.length]? = some g := by have := hgl 0 (by simp); simpa using this.symm
    have hlt : Γ.length < n := by omega
    have recur : ∀ (R : Rel) (S' F' : St) (ts' : List TypeId), Slots ops n (Γ ++ [R]) S0 S' E → FinI N w0 H0 ops Q n a0 W0 HF E (Γ ++ [R]) F' → NewTys S0 F' ts' → evF gl S' F' ts' K → AGL Try.prog ops Q n fl a0 W0 HF (Γ ++ [R]) l := fun R S' F' ts' h1 h2 h3 h4 =>
      evF_sound hf hS hfront hfloat l gl (Γ ++ [R]) S' F' ts' ht (by simp; omega) (fun j hj => by have := hl (j + 1) (by simp; omega); rw [List.length_append, List.length_singleton, Nat.add_assoc, Nat.add_comm 1 j]; simpa using this)
        (fun j hj => by have := hgl (j + 1) (by simp; omega); rw [List.length_append, List.length_singleton, Nat.add_assoc, Nat.add_comm 1 j]; simpa using this) h1 h2 h3 h4 hk
    have hfr := hfront
    unfold frontB at hfr
    rw [List.all_eq_true] at hfr
    have hfr1 := hfr Γ.length (by simpa using hlt)
    rw [hoi, hgi] at hfr1
    simp only [Bool.and_eq_true, List.all_eq_true] at hfr1
    obtain ⟨hsrc, hgsrc⟩ := hfr1
    have hops : ∀ {a w H}, Grow W0 HF w H → Preds ops Γ o a w H → OutSame ops n a0 a → OpdOk S E H a g.op.opds := fun hw hp ho' x hx y hy =>
      slots_opd hf hS hsl hlt hoi hw hp ho' (hsrc x hx) y hy
    have hobj : ∀ {w H}, Grow W0 HF w H → Objs w0.heap.size S E w H := fun hw i o' hi => by rw [hsl.1] at hi; exact (hS.ob i o' hi).grow hw hS.sub
    have hgd := hg.gd
    have hflt : fl.contains Γ.length = true → g.op.flo = true := fun hc => by
      unfold floatB at hfloat
      rw [List.all_eq_true] at hfloat
      have := hfloat Γ.length (by simpa using hc)
      rw [hgi] at this
      exact this
    -- a value
    have val : evA g.op S (fun s => evF gl (S.put? g.d s) (F.put? g.d s) ts K) → (∀ a w H, Grow W0 HF w H → Preds ops Γ o a w H → OutSame ops n a0 a → Region.wanted o (yielded ops a.tmps) = true) → AGL Try.prog ops Q n fl a0 W0 HF Γ (o :: l) := fun hA hwant => by
      rw [hg.d] at hA
      have fin : ∀ s, FinI N w0 H0 ops Q n a0 W0 HF E (Γ ++ [shRel E s]) (F.put? o.dst s) := fun s => fin_step hfin hoi fun W H a' E' v _ hE hF hv => ⟨E', hE, hF.put (hv.mono (fun _ _ h => h) hE) hg.lt⟩
      by_cases hc : fl.contains Γ.length = true
      · obtain ⟨s, hk', hv⟩ := float_val (E := E) rfl hg.op (hflt hc) hA
        refine ⟨shRel E s, keeps_sh E s, ?_, recur _ _ _ _ (slots_put hsl hoi s) (fin s) (newTys_put hN) hk'⟩
        rw [if_pos hc]
        intro a w H hw hp ho'
        obtain ⟨v, hv1, hv2⟩ := hv a H (hops hw hp ho')
        exact ⟨v, .inl ⟨hwant a w H hw hp ho', hv1⟩, hv2⟩
      · obtain ⟨s, hk', hv⟩ := evA_sound (E := E) rfl hg.op hA
        refine ⟨shRel E s, keeps_sh E s, ?_, recur _ _ _ _ (slots_put hsl hoi s) (fin s) (newTys_put hN) hk'⟩
        rw [if_neg hc]
        intro a w H hw hp ho'
        rw [if_pos (hwant a w H hw hp ho')]
        exact hv w0.heap.size a w H hw.sub (hobj hw) (hops hw hp ho')
    -- an operation that is passed by
    have skip : evF gl (S.del? g.d) (F.del? g.d) ts K → (∀ a w H, Grow W0 HF w H → Preds ops Γ o a w H → OutSame ops n a0 a → Region.wanted o (yielded ops a.tmps) = false) → AGL Try.prog ops Q n fl a0 W0 HF Γ (o :: l) := fun hA hwant => by
      rw [hg.d] at hA
      refine ⟨fun v _ _ => v = undef, keeps_eq undef, ?_, recur _ _ _ _ (slots_del hsl hoi _) (fin_step hfin hoi fun W H a' E' v _ hE hF hv => ⟨E', hE, by have hv' : v = undef := hv; rw [hv']; exact hF.del?⟩) (newTys_del hN) hA⟩
      split
      · intro a w H hw hp ho'
        exact ⟨undef, .inr ⟨hwant a w H hw hp ho', rfl⟩, rfl⟩
      · intro a w H hw hp ho'
        rw [if_neg (by rw [hwant a w H hw hp ho']; exact Bool.false_ne_true)]
    -- a new variable
    have newv : ∀ (t : TypeId) (cs : List Sh), cs.all Sh.one = true → ts.contains t = false → evF gl (S.del? g.d) ((F.newO (.box t cs)).put? g.d (.ptr F.n 0 0)) (t :: ts) K → fl.contains Γ.length = false → o.guard = none →
        (∀ a w H, Grow W0 HF w H → Preds ops Γ o a w H → OutSame ops n a0 a → ∃ vs, RepL H E cs vs ∧ (execOp a.eval o).run Try.prog w = .ok (.value (.pointer (some ⟨w.heap.size, 0, none⟩))) (w.alloc (.cells vs.toArray t))) → AGL Try.prog ops Q n fl a0 W0 HF Γ (o :: l) := fun t cs h1 hts hA hc hgn hrun => by
      rw [hg.d] at hA
      refine ⟨boxRel E W0.heap.size t cs, keeps_box _ _ _ _, ?_, recur _ _ _ _ (slots_del hsl hoi _) (fin_step hfin hoi fun W H a' E' v _ hE hF hv => fin_box hS hN hts h1 hg.lt hE hF hv) (newTys_box hN) hA⟩
      rw [if_neg (by rw [hc]; exact Bool.false_ne_true)]
      intro a w H hw hp ho'
      rw [if_pos (wanted_none hgn)]
      obtain ⟨vs, hr, he⟩ := hrun a w H hw hp ho'
      unfold Oper.wp
      rw [he]
      exact ⟨_, H, rfl, (Grow.refl hw.sub).alloc _, _, vs, rfl, hw.below.size, hw.sub.none (Nat.le_refl _), heap_alloc_new w _, hr⟩
    have hnfl : g.op.flo = false → fl.contains Γ.length = false := fun hh => by
      cases hc : fl.contains Γ.length with
      | false => rfl
      | true => rw [hflt hc] at hh; cases hh
    -- a new row
    have newr : ∀ (e : TypeId) (k : Nat) (es : List (List Sh)), ts.contains e = false → evF gl (S.del? g.d) ((F.newO (.row e k es)).put? g.d (.own F.n)) (e :: ts) K → fl.contains Γ.length = false → o.guard = none →
        (∀ a w H, Grow W0 HF w H → Preds ops Γ o a w H → OutSame ops n a0 a → ∃ v w' H', (execOp a.eval o).run Try.prog w = .ok (.value v) w' ∧ Grow w H w' H' ∧ rowRel E W0.heap.size e k es v w' H') → AGL Try.prog ops Q n fl a0 W0 HF Γ (o :: l) := fun e k es hts hA hc hgn hrun => by
      rw [hg.d] at hA
      refine ⟨rowRel E W0.heap.size e k es, keeps_row _ _ _ _ _, ?_, recur _ _ _ _ (slots_del hsl hoi _) (fin_step hfin hoi fun W H a' E' v _ hE hF hv => fin_row hS hN hts hg.lt hE hF hv) (newTys_row hN) hA⟩
      rw [if_neg (by rw [hc]; exact Bool.false_ne_true)]
      intro a w H hw hp ho'
      rw [if_pos (wanted_none hgn)]
      obtain ⟨v, w', H', he, hgr, hr⟩ := hrun a w H hw hp ho'
      unfold Oper.wp
      rw [he]
      exact ⟨_, H', rfl, hgr, hr⟩
    have gcase : ∀ t b, g.g = some (t, b) → (oB (S.opd (.tmp t)) fun s => match s with
      | .v (.bool bb) => (bb = b → evA g.op S fun s => evF gl (S.put? g.d s) (F.put? g.d s) ts K) ∧ (bb = !b → evF gl (S.del? g.d) (F.del? g.d) ts K)
      | _ => False) → AGL Try.prog ops Q n fl a0 W0 HF Γ (o :: l) := fun t b hgg hh => by
      rw [hgg] at hgd hgsrc
      obtain ⟨j, oj, g1, g2, g3⟩ := hgd
      rw [g1] at hgsrc
      simp only [Bool.and_eq_true] at hgsrc
      obtain ⟨s, hs, hh⟩ := oB_elim hh
      cases s with
      | v q =>
        cases q with
        | bool bb =>
          have hv : ∀ a w H, Grow W0 HF w H → Preds ops Γ o a w H → OutSame ops n a0 a → Region.wanted o (yielded ops a.tmps) = (bb == b) := fun a w H hw hp ho' => by
            have hR := slots_opd hf hS hsl hlt hoi hw hp ho' (x := .tmp t) hgsrc.2 _ hs
            exact wanted_some g1 ((dstv_of g2 g3).trans (bool_of hR))
          by_cases hb : bb = b
          · exact val (hh.1 hb) (fun a w H hw hp ho' => by rw [hv a w H hw hp ho']; simp [hb])
          · have hb' : bb = !b := by cases bb <;> cases b <;> simp_all
            exact skip (hh.2 hb') (fun a w H hw hp ho' => by rw [hv a w H hw hp ho']; simp [hb])
        | _ => exact hh.elim
      | _ => exact hh.elim
    have ncase : g.g = none → evA g.op S (fun s => evF gl (S.put? g.d s) (F.put? g.d s) ts K) → AGL Try.prog ops Q n fl a0 W0 HF Γ (o :: l) := fun hgg hh => by
      rw [hgg] at hgd
      exact val hh (fun _ _ _ _ _ _ => wanted_none hgd)
    have hopm := hg.op
    obtain ⟨gd, gg, gop⟩ := g
    simp only at hsrc hgd hops val skip newv hnfl gcase ncase hopm
    unfold evF at h
    simp only at h
    cases gg with
    | none =>
      replace hgd : o.guard = none := hgd
      cases gop with
      | alc t zs =>
        obtain ⟨p, hp, hts, h⟩ := oB_elim h
        cases hp
        generalize hop : o.op = oo at hopm
        cases hopm with
        | @alc t' i' z' zs' q1 q2 q3 =>
          refine newv t (zs.map ZSh.sh) (zs_one zs) hts h (hnfl rfl) hgd (fun a w H hw hp ho' => ⟨_, zs_rep H E zs, ?_⟩)
          have e : (zs.map ZSh.val).toArray = z'.cells := by rw [← q3]
          rw [e]
          simp [execOp, hop, Instr.alloc, run_zero q1 q2, newVar, newRow]
      | box t x =>
        obtain ⟨p, hp, hts, h⟩ := oB_elim h
        obtain ⟨s, hs, hp⟩ := Option.bind_eq_some_iff.1 hp
        split at hp
        · rename_i h1
          cases hp
          generalize hop : o.op = oo at hopm
          cases hopm with
          | box =>
            refine newv t s.cells h1 hts h (hnfl rfl) hgd (fun a w H hw hp ho' => ⟨_, cells_rep ((hops hw hp ho').get (by simp [SOp.opds]) hs) h1, ?_⟩)
            simp [execOp, hop, Instr.box, newVar, newRow]
        · cases hp
      | app x y e k bytes =>
        rcases h with h | h
        · exact ncase rfl h
        · obtain ⟨s, hs, hA1⟩ := oB_elim h
          clear h
          obtain ⟨j, hj, hA2⟩ := oB_elim hA1
          clear hA1
          simp only at hs hj hA2
          split at hA2
          · obtain ⟨hk1, hk2, b1, b2, hts, h⟩ := hA2
            subst hk1
            generalize hop : o.op = oo at hopm
            cases hopm with
            | app q1 q2 q3 q4 q5 =>
              exact newr _ _ _ hts h (hnfl rfl) hgd fun a w H hw hp ho' => by
                obtain ⟨v, w', r1, r2, r3⟩ := front_app hop q1 q2 q3 q4 q5 hw.sub ((hops hw hp ho').get (by simp [SOp.opds]) hs) ((hops hw hp ho').get (by simp [SOp.opds]) hj) hk2 b1 b2
                exact ⟨v, w', H, r1, r2, r3 _ _ hw.below.size⟩
          · exact hA2.elim
      | _ => exact ncase rfl h
    | some tb =>
      obtain ⟨t, b⟩ := tb
      exact gcase t b rfl h
end
end Go.Proofs.Ytijblpkdfmkcfaa
namespace Go.Proofs.Ytijblpkdfmkcfaa
set_option linter.unusedSimpArgs false
set_option linter.unusedVariables false
open Go.RowKit Go.Maps

def SOp.flo2 : SOp → Bool
  | .mv _ | .ext _ _ | .nck _ | .fa _ _ | .bin _ _ _ | .not _ | .cnv _ _ | .pick _ _ _ | .bld _ _ => true
  | _ => false

/-- It comes to its value in whatever world. -/
theorem float_val2 {o : Oper} {S : St} {E : Env} {op : Op} {so : SOp} {k : Sh → Prop} (ho : o.op = op) (hm : OpM op so) (hfl : so.flo2 = true) (h : evA so S k) :
    ∃ s, k s ∧ ∀ (a : Act) (H : Hp), OpdOk S E H a so.opds → ∃ v, (∀ w', (execOp a.eval o).run Try.prog w' = .ok (.value v) w') ∧ Rep H E s v := by
  by_cases h1 : so.flo = true
  · exact float_val ho hm h1 h
  cases hm with
  | mv => exact absurd rfl h1
  | asg => exact absurd rfl h1
  | ext => exact absurd rfl h1
  | nck => exact absurd rfl h1
  | @fa t x j fs f i hu hf hi hz =>
    obtain ⟨s, hs, h⟩ := oB_elim h
    have run : ∀ (a : Act) b o', a.eval x = .pointer (some ⟨b, o', none⟩) → ∀ w, (execOp a.eval o).run Try.prog w = .ok (.value (.pointer (some ⟨b, o' + f.offset, none⟩))) w := fun a b o' e w => by
      simp [execOp, ho, e, Instr.fieldAt, run_underlying hu, hf, Instr.sureAddr, fieldPlace, run_sizeOf hi, hz, Addr.add_lit]
    cases s with
    | ptr i idx o' =>
      refine ⟨_, h, fun a H h3 => ?_⟩
      have hr := h3.get (by simp [SOp.opds]) hs
      generalize hq : a.eval x = q at hr
      cases hr with
      | ptr h => exact ⟨_, run a _ _ hq, by rw [Nat.add_assoc]; exact .ptr h⟩
    | fp e o' =>
      refine ⟨_, h, fun a H h3 => ?_⟩
      have hr := h3.get (by simp [SOp.opds]) hs
      generalize hq : a.eval x = q at hr
      cases hr with
      | fp b1 b2 b3 => exact ⟨_, run a _ _ hq, by rw [Nat.add_assoc]; exact .fp b1 b2 b3⟩
    | _ => exact h.elim
  | @bin op t x y t2 =>
    obtain ⟨s, hs, h⟩ := oB_elim h
    obtain ⟨j, hj, h⟩ := oB_elim h
    cases s with
    | v p => cases p with
      | int k1 a1 => cases j with
        | v q => cases q with
          | int k2 b1 =>
            obtain ⟨rfl, h⟩ := h
            obtain ⟨r, hr, h⟩ := oB_elim h
            refine ⟨_, h, fun a H h3 => ?_⟩
            have hR := h3.get (by simp [SOp.opds]) hs
            have hJ := h3.get (by simp [SOp.opds]) hj
            generalize hqx : a.eval x = qx at hR
            generalize hqy : a.eval y = qy at hJ
            cases hR; cases hJ
            refine ⟨r, fun w => ?_, .v ?_⟩
            · have := run_intBin (t := t) x y hr w
              simp only [execOp, ho, hqx, hqy, Sem.run_bind] at this ⊢
              rw [this]; rfl
            · cases op <;> simp [intBin] at hr <;> (first | (obtain ⟨h0, rfl⟩ := hr) | subst hr) <;> rfl
          | _ => exact h.elim
        | _ => exact h.elim
      | _ => exact h.elim
    | _ => exact h.elim
  | @not t x =>
    obtain ⟨s, hs, h⟩ := oB_elim h
    cases s with
    | v p => cases p with
      | bool b =>
        refine ⟨_, h, fun a H h3 => ?_⟩
        have hR := h3.get (by simp [SOp.opds]) hs
        generalize hqx : a.eval x = qx at hR
        cases hR
        exact ⟨.bool !b, fun w => by simp [execOp, ho, hqx, Op.unary], .v rfl⟩
      | _ => exact h.elim
    | _ => exact h.elim
  | @cnv src dst x d k hs0 hd =>
    obtain ⟨s, hs, h⟩ := oB_elim h
    cases s with
    | v p => cases p with
      | int kf n =>
        refine ⟨_, h, fun a H h3 => ?_⟩
        have hR := h3.get (by simp [SOp.opds]) hs
        generalize hqx : a.eval x = qx at hR
        cases hR
        exact ⟨.int k (k.wrap n), fun w => by simp [execOp, ho, hqx, convert, run_underlying hs0, run_underlying hd, Conv.intToInt], .v rfl⟩
      | _ => exact h.elim
    | _ => exact h.elim
  | @pick c x y =>
    obtain ⟨s, hs, h⟩ := oB_elim h
    cases s with
    | v p => cases p with
      | bool bb =>
        obtain ⟨r, hr, h⟩ := oB_elim h
        obtain ⟨p1, p2⟩ := pickO_spec hr
        refine ⟨_, h, fun a H h3 => ?_⟩
        have hR := h3.get (by simp [SOp.opds]) hs
        generalize hq : a.eval c = q at hR
        cases hR
        cases bb
        · exact ⟨a.eval y, fun w => by simp [execOp, ho, hq, asBool], h3.get (by simp [SOp.opds]) (p2 rfl)⟩
        · exact ⟨a.eval x, fun w => by simp [execOp, ho, hq, asBool], h3.get (by simp [SOp.opds]) (p1 rfl)⟩
      | _ => exact h.elim
    | _ => exact h.elim
  | @bld t parts zs ps it z pl hit hz hzs hb hp =>
    obtain ⟨cs, hf, h⟩ := oB_elim h
    refine ⟨_, h, fun a H h3 => ?_⟩
    obtain ⟨out, g1, g2, g3⟩ := fill_rep (H := H) (E := E) (a := a) parts.toList ps _ cs z.cells hp (by rw [hzs]; exact zs_rep H E zs) (zs_one zs) hf h3
    refine ⟨.agg out, fun w => ?_, by have := Rep.agg g2 g3; simpa using this⟩
    have := run_build (P := Try.prog) w t (parts.map fun (i, x) => (i, a.eval x)) out (by rw [hb]; simpa using g1)
    simp only [execOp, ho, Sem.run_bind, this, Result.andThen_ok]; rfl
  | _ => cases hfl

theorem evOp_flo2 {d : Option Nat} {so : SOp} {S : St} {K : St → Prop} (hfl : so.flo2 = true) (h : evOp d so S K) : evA so S fun s => K (S.put? d s) := by
  cases so <;> first | exact h | cases hfl

/-! ### The orders -/
def readyB (ops : Array Oper) (done : List Nat) (i : Nat) : Bool := decide (i < ops.size) && !done.contains i && (match ops[i]? with | some o => (wl o).all done.contains | none => false)
def apartB (ops : Array Oper) (done : List Nat) (i : Nat) : Bool := match ops[i]? with
  | some oi => (List.range ops.size).all fun j => decide (j = i) || done.contains j || (match ops[j]? with | some oj => (wl oj).contains i || oi.apart ops oj | none => true)
  | none => false
def floB (gl : List GOp) (i : Nat) : Bool := match gl[i]? with | some g => g.op.flo2 | none => false
def heads : OTr → List Nat
  | .leaf => []
  | .flo i _ => [i]
  | .step i _ => [i]
  | .alt a b => heads a ++ heads b
mutual
def otChk (ops : Array Oper) (gl : List GOp) (done : List Nat) : OTr → Bool
  | .leaf => (List.range ops.size).all done.contains
  | .flo i t => readyB ops done i && floB gl i && apartB ops done i && otChk ops gl (i :: done) t
  | .step i t => readyB ops done i && (List.range ops.size).all (fun j => !readyB ops done j || decide (j = i)) && otChk ops gl (i :: done) t
  | .alt a b => (List.range ops.size).all (fun j => !readyB ops done j || (heads a ++ heads b).contains j) && (heads a ++ heads b).any (readyB ops done) && otSub ops gl done a && otSub ops gl done b
def otSub (ops : Array Oper) (gl : List GOp) (done : List Nat) : OTr → Bool
  | .leaf => false
  | .flo _ _ => false
  | .step i t => otChk ops gl (i :: done) t
  | .alt a b => otSub ops gl done a && otSub ops gl done b
end
/-- The orders' tree. -/
def mkTr (ops : Array Oper) (gl : List GOp) : Nat → List Nat → OTr
  | 0, _ => .leaf
  | f + 1, done => match (List.range ops.size).find? (fun i => readyB ops done i && floB gl i && apartB ops done i) with
    | some i => .flo i (mkTr ops gl f (i :: done))
    | none => match (List.range ops.size).filter (readyB ops done) with
      | [] => .leaf
      | i :: is => is.foldl (fun t j => .alt t (.step j (mkTr ops gl f (j :: done)))) (.step i (mkTr ops gl f (i :: done)))

section
variable {N : Nat} {w0 w w' : World} {H0 H H' : Hp} {S : St} {E : Env} {a : Act} {o : Oper} {K : St → Prop} {ops : Array Oper} {Q : Exit → Act → World → Prop} {gl : List GOp}

/-- The branch that begins with i. -/
theorem branch {i : Nat} {done : List Nat} {L : St → Prop} : ∀ {t : OTr}, (heads t).contains i = true → otSub ops gl done t = true → evTr t gl S L → ∃ s, otChk ops gl (i :: done) s = true ∧ oB gl[i]? fun g => evG g S fun S' => evTr s gl S' L
  | .leaf, h, _, _ => by simp [heads] at h
  | .flo _ _, _, h, _ => by simp [otSub] at h
  | .step j s, h, hc, he => by
    simp only [heads, List.contains_cons, List.contains_nil, Bool.or_false, beq_iff_eq] at h
    subst h
    simp only [otSub] at hc
    exact ⟨s, hc, he⟩
  | .alt x y, h, hc, he => by
    simp only [otSub, Bool.and_eq_true] at hc
    simp only [heads] at h
    rw [List.contains_eq_mem, decide_eq_true_eq, List.mem_append] at h
    rcases h with h | h
    · exact branch (by rw [List.contains_eq_mem, decide_eq_true_eq]; exact h) hc.1 he.1
    · exact branch (by rw [List.contains_eq_mem, decide_eq_true_eq]; exact h) hc.2 he.2

/-- One operation. -/
theorem evG_wpOp {g : GOp} {i : Nat} {K' : Act → World → Prop} {L : St → Prop} (hoi : ops[i]? = some o) (hg : GM N ops o g) (h : evG g S L) (hS : Sim N w0 H0 S E a w H) (hK : ∀ S' E' a' w' H', L S' → Sim N w0 H0 S' E' a' w' H' → K' a' w') : wpOp Try.prog ops Q i K' a w := by
  have run : evOp o.dst g.op S L → o.wp Try.prog a w K' Q := fun hk => by
    refine Oper.wp_post ?_ (evOp_sound hS hg.lt rfl hg.op hk)
    rintro a' w' ⟨S', E', H', hk', hS'⟩
    exact hK S' E' a' w' H' hk' hS'
  unfold wpOp
  rw [hoi]
  simp only
  unfold evG at h
  have hgd := hg.gd
  split at h
  · rename_i hn
    rw [hn] at hgd
    rw [if_pos (wanted_none hgd)]
    rw [hg.d] at h
    exact .inl (run h)
  · rename_i t b hn
    rw [hn] at hgd
    obtain ⟨j, oj, g1, g2, g3⟩ := hgd
    obtain ⟨s, hs, h⟩ := oB_elim h
    have hR := hS.opd hs
    cases s with
    | v q =>
      cases q with
      | bool bb =>
        have hv : dstv ops a j = .bool bb := (dstv_of g2 g3).trans (bool_of hR)
        rw [wanted_some g1 hv]
        rw [hg.d] at h
        by_cases hb : bb = b
        · rw [if_pos (by simp [hb])]
          exact .inl (run (h.1 hb))
        · rw [if_neg (by simp [hb])]
          have hb' : bb = !b := by cases bb <;> cases b <;> simp_all
          exact hK _ _ _ _ _ (h.2 hb') (hS.put (v := undef) (.tup .nil) hg.lt)
      | _ => exact h.elim
    | tup cs =>
      cases cs with
      | nil =>
        have hv : a.eval (.tmp t) = undef := by
          generalize a.eval (.tmp t) = q at hR
          cases hR with
          | tup h => cases h; rfl
        rw [wanted_tup g1 g2 g3 hv, if_neg (by simp)]
        rw [hg.d] at h
        exact hK _ _ _ _ _ h (hS.put (v := undef) (.tup .nil) hg.lt)
      | cons _ _ => exact h.elim
    | _ => exact h.elim
/-- A float. -/
theorem evG_flo {g : GOp} {L : St → Prop} (hg : GM N ops o g) (hfl : g.op.flo2 = true) (h : evG g S L) (hS : Sim N w0 H0 S E a w H) : ∃ v, Yields Try.prog ops o v a ∧ ∃ S' E' , L S' ∧ Sim N w0 H0 S' E' (a.put o.dst v) w H := by
  have run : evOp o.dst g.op S L → ∃ v, (∀ w', (execOp a.eval o).run Try.prog w' = .ok (.value v) w') ∧ ∃ S' E', L S' ∧ Sim N w0 H0 S' E' (a.put o.dst v) w H := fun hk => by
    obtain ⟨s, hk', hv⟩ := float_val2 (E := E) rfl hg.op hfl (evOp_flo2 hfl hk)
    obtain ⟨v, hv1, hv2⟩ := hv a H (hS.opds _)
    exact ⟨v, hv1, _, E, hk', hS.put hv2 hg.lt⟩
  unfold evG at h
  have hgd := hg.gd
  split at h
  · rename_i hn
    rw [hn] at hgd
    rw [hg.d] at h
    obtain ⟨v, hv, hr⟩ := run h
    exact ⟨v, .inl ⟨wanted_none hgd, hv⟩, hr⟩
  · rename_i t b hn
    rw [hn] at hgd
    obtain ⟨j, oj, g1, g2, g3⟩ := hgd
    obtain ⟨s, hs, h⟩ := oB_elim h
    have hR := hS.opd hs
    cases s with
    | v q =>
      cases q with
      | bool bb =>
        have hv : dstv ops a j = .bool bb := (dstv_of g2 g3).trans (bool_of hR)
        have hw := wanted_some (b := b) g1 hv
        rw [hg.d] at h
        by_cases hb : bb = b
        · obtain ⟨v, hv, hr⟩ := run (h.1 hb)
          exact ⟨v, .inl ⟨by rw [hw]; simp [hb], hv⟩, hr⟩
        · have hb' : bb = !b := by cases bb <;> cases b <;> simp_all
          exact ⟨undef, .inr ⟨by rw [hw]; simp [hb], rfl⟩, _, E, h.2 hb', hS.put (v := undef) (.tup .nil) hg.lt⟩
      | _ => exact h.elim
    | tup cs =>
      cases cs with
      | nil =>
        have hv : a.eval (.tmp t) = undef := by
          generalize a.eval (.tmp t) = q at hR
          cases hR with
          | tup h => cases h; rfl
        rw [hg.d] at h
        exact ⟨undef, .inr ⟨wanted_tup g1 g2 g3 hv, rfl⟩, _, E, h, hS.put (v := undef) (.tup .nil) hg.lt⟩
      | cons _ _ => exact h.elim
    | _ => exact h.elim

theorem GMs.at : ∀ {l : List Oper} {gl : List GOp} {i : Nat} {o : Oper} {g : GOp}, GMs N ops l gl → l[i]? = some o → gl[i]? = some g → GM N ops o g
  | _, _, i, _, _, .nil, h, _ => by simp at h
  | _, _, 0, _, _, .cons hg _, h, h' => by simp at h h'; subst h; subst h'; exact hg
  | _, _, i + 1, _, _, .cons _ ht, h, h' => GMs.at ht (by simpa using h) (by simpa using h')

theorem evTr_sound (hsel : Region.noSelect ops = true) (hQ : ∀ c a (d : Option Tmp) v w, Q (.panic c) (Act.put a d v) w → Q (.panic c) a w) (hgl : GMs N ops ops.toList gl) :
    ∀ (fuel : Nat) (t : OTr) (done : List Nat) (listed : Array Bool) (S : St) (E : Env) (a : Act) (w : World) (H : Hp), leftN listed = fuel → listed.size = ops.size → (∀ i, i < ops.size → listed.getD i false = done.contains i) → (∀ i, done.contains i = true → i < ops.size) → otChk ops gl done t = true →
      evTr t gl S K → Sim N w0 H0 S E a w H → (∀ a w, End N w0 H0 K a w → Q .normal a w) → wpAny Try.prog .any ops Q fuel listed a w := by
  intro fuel
  induction fuel with
  | zero =>
    intro t done listed S E a w H hl hsz hd hdl hc he hS hk
    have hall : ∀ i, i < ops.size → done.contains i = true := fun i hi => (hd i hi).symm.trans (leftN_zero hl i (by omega))
    have hno : ∀ i, readyB ops done i = false := fun i => by
      unfold readyB
      by_cases hi : i < ops.size
      · rw [hall i hi]; simp
      · simp [hi]
    cases t with
    | leaf =>
      refine ⟨?_, hk _ _ ⟨S, E, H, he, hS⟩⟩
      refine List.eq_nil_iff_forall_not_mem.2 fun i hi => ?_
      obtain ⟨h1, oi, hoi, _⟩ := mem_ready.1 hi
      have hlt : i < ops.size := (Array.getElem?_eq_some_iff.1 hoi).1
      have h2 := leftN_zero hl i (by omega)
      have : i < listed.size := by omega
      simp [this] at h1 h2
      rw [h1] at h2; cases h2
    | flo i t => simp [otChk, hno] at hc
    | step i t => simp [otChk, hno] at hc
    | alt x y => simp [otChk, hno] at hc
  | succ fuel ih =>
    intro t done listed S E a w H hl hsz hd hdl hc he hS hk
    have hrd : ∀ i, i ∈ Region.ready .any ops listed ↔ readyB ops done i = true := fun i => by
      rw [mem_ready]
      unfold readyB
      cases hoi : ops[i]? with
      | none => simp
      | some o =>
        have hlt : i < ops.size := (Array.getElem?_eq_some_iff.1 hoi).1
        have hls : i < listed.size := by omega
        have h1 : listed.getD i true = listed.getD i false := by simp [hls]
        rw [h1, hd i hlt]
        simp only [Option.some.injEq, exists_eq_left', Bool.and_eq_true, decide_eq_true_eq, hlt, true_and, Bool.not_eq_true', List.all_eq_true]
        refine and_congr_right fun _ => ⟨fun h j hj => ?_, fun h e he hb => ?_⟩
        · obtain ⟨e, he, hb, rfl⟩ := waits_spec (wl_spec hj)
          have := h e he hb
          by_cases hlt2 : e.on < ops.size
          · rw [← hd _ hlt2]; exact this
          · have : ¬ e.on < listed.size := by omega
            simp_all
        · have hm : e.on ∈ wl o := by
            unfold wl
            exact List.mem_filterMap.2 ⟨e, by simpa using he, by rw [if_pos hb]⟩
          have h2 := h _ hm
          by_cases hlt2 : e.on < ops.size
          · rw [hd _ hlt2]; exact h2
          · exact absurd (hdl _ h2) hlt2
    have hstep : ∀ i, readyB ops done i = true → i < ops.size ∧ done.contains i = false ∧ leftN (listed.setIfInBounds i true) = fuel ∧ (listed.setIfInBounds i true).size = ops.size ∧ (∀ j, j < ops.size → (listed.setIfInBounds i true).getD j false = (i :: done).contains j) ∧ ∀ j, (i :: done).contains j = true → j < ops.size := fun i hi => by
      have hi' := hi
      unfold readyB at hi'
      simp only [Bool.and_eq_true, decide_eq_true_eq, Bool.not_eq_true'] at hi'
      obtain ⟨⟨h1, h2⟩, _⟩ := hi'
      have hf : listed.getD i false = false := (hd i h1).trans h2
      have := leftN_set (listed := listed) (by omega) hf
      refine ⟨h1, h2, by omega, by simpa using hsz, fun j hj => ?_, fun j hj => ?_⟩
      rotate_left
      · simp only [List.contains_cons, Bool.or_eq_true, beq_iff_eq] at hj
        rcases hj with rfl | hj
        · exact h1
        · exact hdl j hj
      by_cases e : i = j
      · subst e
        simp [show i < listed.size from by omega]
      · rw [getD_set_ne false e, hd j hj, List.contains_cons]
        simp [show ¬ j = i from fun e' => e e'.symm]
    have hat : ∀ i, i < ops.size → ∃ o, ops[i]? = some o := fun i hi => ⟨ops[i], by simp [hi]⟩
    have single : ∀ i s, readyB ops done i = true → otChk ops gl (i :: done) s = true → (oB gl[i]? fun g => evG g S fun S' => evTr s gl S' K) → wpOp Try.prog ops Q i (wpAny Try.prog .any ops Q fuel (listed.setIfInBounds i true)) a w := fun i s hi hcs hes => by
      obtain ⟨h1, h2, h3, h4, h5, h6⟩ := hstep i hi
      obtain ⟨oi, hoi⟩ := hat i h1
      obtain ⟨g, hg, hes⟩ := oB_elim hes
      exact evG_wpOp hoi (hgl.at (by simpa using hoi) hg) hes hS fun S' E' a' w' H' hL hS' => ih s (i :: done) _ S' E' a' w' H' h3 h4 h5 h6 hcs hL hS' hk
    cases t with
    | leaf =>
      exfalso
      simp only [otChk, List.all_eq_true, List.mem_range] at hc
      have : leftN listed = 0 := by
        unfold leftN
        rw [List.countP_eq_zero]
        intro b hb
        obtain ⟨i, hi, rfl⟩ := List.mem_iff_getElem.1 hb
        have hi2 : i < listed.size := by simpa using hi
        have h1 := hd i (by omega)
        rw [hc i (by omega)] at h1
        simp [hi2] at h1 ⊢
        exact h1
      omega
    | flo i t =>
      simp only [otChk, Bool.and_eq_true] at hc
      obtain ⟨⟨⟨c1, c2⟩, c3⟩, c4⟩ := hc
      obtain ⟨h1, h2, h3, h4, h5, h7⟩ := hstep i c1
      obtain ⟨oi, hoi⟩ := hat i h1
      obtain ⟨g, hg, hes⟩ := oB_elim he
      have hfl : g.op.flo2 = true := by unfold floB at c2; rw [hg] at c2; exact c2
      obtain ⟨v, hy, S', E', hL, hS'⟩ := evG_flo (hgl.at (by simpa using hoi) hg) hfl hes hS
      refine wpAny_first hoi (Region.noSelect_spec hsel) (fun c a w h => hQ c a _ _ w h) fuel listed a w ?_ ((hrd i).2 c1) hy (ih t (i :: done) _ S' E' _ w H h3 h4 h5 h7 c4 hL hS' hk)
      intro j oj hoj hne hunj hnw
      unfold apartB at c3
      rw [hoi] at c3
      simp only [List.all_eq_true, List.mem_range, Bool.or_eq_true, decide_eq_true_eq] at c3
      have hlt : j < ops.size := (Array.getElem?_eq_some_iff.1 hoj).1
      have hls : j < listed.size := by omega
      have c5 := c3 j hlt
      rw [hoj] at c5
      simp only [Bool.or_eq_true] at c5
      rcases c5 with (c5 | c5) | (c5 | c5)
      · exact absurd c5 hne
      · have h6 := hd j hlt
        rw [c5] at h6
        simp [hls] at hunj h6
        rw [hunj] at h6; cases h6
      · obtain ⟨e, he', hb, he2⟩ := waits_spec (wl_spec (by simpa using c5))
        exact absurd he2 (hnw e he' hb)
      · exact c5
    | step i t =>
      simp only [otChk, Bool.and_eq_true, List.all_eq_true, List.mem_range, Bool.or_eq_true, Bool.not_eq_true', decide_eq_true_eq] at hc
      obtain ⟨⟨c1, c2⟩, c3⟩ := hc
      refine ⟨fun h0 => ?_, fun j hj => ?_⟩
      · have := (hrd i).2 c1; rw [h0] at this; cases this
      · have hr := (hrd j).1 hj
        have hji : j = i := (c2 j (hstep j hr).1).resolve_left (by rw [hr]; simp)
        subst hji
        exact single j t hr c3 he
    | alt x y =>
      simp only [otChk, Bool.and_eq_true, List.all_eq_true, List.mem_range, Bool.or_eq_true, Bool.not_eq_true', List.any_eq_true] at hc
      obtain ⟨⟨⟨c1, c2⟩, c3⟩, c4⟩ := hc
      refine ⟨fun h0 => ?_, fun j hj => ?_⟩
      · obtain ⟨i, _, hi⟩ := c2
        have := (hrd i).2 hi; rw [h0] at this; cases this
      · have hr := (hrd j).1 hj
        have hh := (c1 j (hstep j hr).1).resolve_left (by rw [hr]; simp)
        obtain ⟨s, hcs, hes⟩ := branch (t := .alt x y) hh (by simp only [otSub, Bool.and_eq_true]; exact ⟨c3, c4⟩) he
        exact single j s hr hcs hes
/-- Every operation waits for earlier ones alone. -/
def wlLow (ops : Array Oper) : Bool := (List.range ops.size).all fun i => match ops[i]? with | some o => (wl o).all fun j => decide (j < i) | none => true
theorem low_ready {ops : Array Oper} {done : List Nat} (h : wlLow ops = true) : ∀ (n i : Nat), i < n → i < ops.size → done.contains i = false → ∃ j, readyB ops done j = true
  | 0, i, h0, _, _ => by omega
  | n + 1, i, hn, hi, hd => by
    by_cases hr : readyB ops done i = true
    · exact ⟨i, hr⟩
    · obtain ⟨o, ho⟩ : ∃ o, ops[i]? = some o := ⟨ops[i], by simp [hi]⟩
      have hlow := List.all_eq_true.1 h i (List.mem_range.2 hi)
      rw [ho] at hlow
      simp only [List.all_eq_true, decide_eq_true_eq] at hlow
      unfold readyB at hr
      rw [ho, hd] at hr
      simp only [hi, decide_true, Bool.true_and, Bool.not_false, List.all_eq_true, Classical.not_forall] at hr
      obtain ⟨j, hj, hj2⟩ := hr
      have hlt := hlow j hj
      exact low_ready h n j (by omega) (by omega) (by simpa using hj2)
theorem rdyW_ready {ops : Array Oper} {done : List Nat} {i : Nat} (h : readyB ops done i = true) : rdyW (ops.toList.map wl) done i = true := by
  unfold readyB at h
  unfold rdyW
  simp only [Bool.and_eq_true, decide_eq_true_eq] at h
  obtain ⟨⟨h1, h2⟩, h3⟩ := h
  rw [List.getElem?_map, Array.getElem?_toList]
  cases ho : ops[i]? with
  | none => rw [ho] at h3; cases h3
  | some o => rw [ho] at h3; rw [h2]; exact h3
theorem evCf_sound (hsel : Region.noSelect ops = true) (hlow : wlLow ops = true) (hgl : GMs N ops ops.toList gl) {I : List Nat → St → Prop}
    (hI : ∀ done S' i, I done S' → rdyW (ops.toList.map wl) done i = true → oB gl[i]? fun g => evG g S' fun S2 => I (i :: done) S2)
    (hk : ∀ done S E a w H, I done S → (∀ i, i < ops.size → done.contains i = true) → Sim N w0 H0 S E a w H → Q .normal a w) :
    ∀ (fuel : Nat) (done : List Nat) (listed : Array Bool) (S : St) (E : Env) (a : Act) (w : World) (H : Hp), leftN listed = fuel → listed.size = ops.size → (∀ i, i < ops.size → listed.getD i false = done.contains i) → (∀ i, done.contains i = true → i < ops.size) →
      I done S → Sim N w0 H0 S E a w H → wpAny Try.prog .any ops Q fuel listed a w := by
  intro fuel
  induction fuel with
  | zero =>
    intro done listed S E a w H hl hsz hd hdl he hS
    have hall : ∀ i, i < ops.size → done.contains i = true := fun i hi => (hd i hi).symm.trans (leftN_zero hl i (by omega))
    refine ⟨?_, hk done S E a w H he hall hS⟩
    refine List.eq_nil_iff_forall_not_mem.2 fun i hi => ?_
    obtain ⟨h1, oi, hoi, _⟩ := mem_ready.1 hi
    have hlt : i < ops.size := (Array.getElem?_eq_some_iff.1 hoi).1
    have h2 := leftN_zero hl i (by omega)
    have : i < listed.size := by omega
    simp [this] at h1 h2
    rw [h1] at h2; cases h2
  | succ fuel ih =>
    intro done listed S E a w H hl hsz hd hdl he hS
    have hrd : ∀ i, i ∈ Region.ready .any ops listed ↔ readyB ops done i = true := fun i => by
      rw [mem_ready]
      unfold readyB
      cases hoi : ops[i]? with
      | none => simp
      | some o =>
        have hlt : i < ops.size := (Array.getElem?_eq_some_iff.1 hoi).1
        have hls : i < listed.size := by omega
        have h1 : listed.getD i true = listed.getD i false := by simp [hls]
        rw [h1, hd i hlt]
        simp only [Option.some.injEq, exists_eq_left', Bool.and_eq_true, decide_eq_true_eq, hlt, true_and, Bool.not_eq_true', List.all_eq_true]
        refine and_congr_right fun _ => ⟨fun h j hj => ?_, fun h e he hb => ?_⟩
        · obtain ⟨e, he, hb, rfl⟩ := waits_spec (wl_spec hj)
          have := h e he hb
          by_cases hlt2 : e.on < ops.size
          · rw [← hd _ hlt2]; exact this
          · have : ¬ e.on < listed.size := by omega
            simp_all
        · have hm : e.on ∈ wl o := by
            unfold wl
            exact List.mem_filterMap.2 ⟨e, by simpa using he, by rw [if_pos hb]⟩
          have h2 := h _ hm
          by_cases hlt2 : e.on < ops.size
          · rw [hd _ hlt2]; exact h2
          · exact absurd (hdl _ h2) hlt2
    have hstep : ∀ i, readyB ops done i = true → i < ops.size ∧ done.contains i = false ∧ leftN (listed.setIfInBounds i true) = fuel ∧ (listed.setIfInBounds i true).size = ops.size ∧ (∀ j, j < ops.size → (listed.setIfInBounds i true).getD j false = (i :: done).contains j) ∧ ∀ j, (i :: done).contains j = true → j < ops.size := fun i hi => by
      have hi' := hi
      unfold readyB at hi'
      simp only [Bool.and_eq_true, decide_eq_true_eq, Bool.not_eq_true'] at hi'
      obtain ⟨⟨h1, h2⟩, _⟩ := hi'
      have hf : listed.getD i false = false := (hd i h1).trans h2
      have := leftN_set (listed := listed) (by omega) hf
      refine ⟨h1, h2, by omega, by simpa using hsz, fun j hj => ?_, fun j hj => ?_⟩
      rotate_left
      · simp only [List.contains_cons, Bool.or_eq_true, beq_iff_eq] at hj
        rcases hj with rfl | hj
        · exact h1
        · exact hdl j hj
      by_cases e : i = j
      · subst e
        simp [show i < listed.size from by omega]
      · rw [getD_set_ne false e, hd j hj, List.contains_cons]
        simp [show ¬ j = i from fun e' => e e'.symm]
    have hat : ∀ i, i < ops.size → ∃ o, ops[i]? = some o := fun i hi => ⟨ops[i], by simp [hi]⟩
    refine ⟨fun h0 => ?_, fun j hj => ?_⟩
    · have hex : ∃ i, i < ops.size ∧ done.contains i = false := by
        refine Classical.byContradiction fun hno => ?_
        have hall : ∀ i, i < ops.size → listed.getD i false = true := fun i hi => by
          rw [hd i hi]
          cases hc : done.contains i
          · exact absurd ⟨i, hi, hc⟩ hno
          · rfl
        have : leftN listed = 0 := by
          unfold leftN
          rw [List.countP_eq_zero]
          intro b hb
          obtain ⟨i, hi, rfl⟩ := List.mem_iff_getElem.1 hb
          have hi2 : i < listed.size := by simpa using hi
          have h1 := hall i (by omega)
          simp [hi2] at h1 ⊢
          exact h1
        omega
      obtain ⟨i, hi, hc⟩ := hex
      obtain ⟨j, hj⟩ := low_ready hlow (i + 1) i (by omega) hi hc
      have := (hrd j).2 hj; rw [h0] at this; cases this
    · have hr := (hrd j).1 hj
      obtain ⟨h1, h2, h3, h4, h5, h6⟩ := hstep j hr
      obtain ⟨oi, hoi⟩ := hat j h1
      obtain ⟨g, hg, hes⟩ := oB_elim (hI done S j he (rdyW_ready hr))
      exact evG_wpOp hoi (hgl.at (by simpa using hoi) hg) hes hS fun S' E' a' w' H' hL hS' => ih (j :: done) _ S' E' a' w' H' h3 h4 h5 h6 hL hS'
end
end Go.Proofs.Ytijblpkdfmkcfaa
