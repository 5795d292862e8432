/-
  The shadow machine: further operations.
-/
import Derived.Test.YtfcjkchpldfamaaSh4
import Derived.Test.YtfcjkchpldfamaaView
namespace Go.Proofs.Ytfcjkchpldfamaa
set_option linter.unusedSimpArgs false
set_option linter.unusedVariables false
open Go.RowKit Go.Maps

section
variable {o : Oper} {S : St} {E : Env}

theorem good_ixa2 {t x j e i kf n es ri et} (ho : o.op = .indexAddr t x j) (hu : Try.prog.underlying t = some (.slice e)) (hi : Try.prog.info? e = some i)
    (h : S.opd x = some (.own ri)) (hg : getA S.O ri = some (.row et i.size es)) (hj : S.opd j = some (.v (.int kf n))) (h0 : 0 ≤ n) (he : n.toNat < es.length) : Good o S E [x, j] (.ptr ri n.toNat 0) := good_same fun B a w H h1 h2 h3 => by
  have hR := h3.get (by simp) h
  have hJ := h3.get (by simp) hj
  generalize hq : a.eval x = q at hR
  generalize hqj : a.eval j = qj at hJ
  cases hJ
  cases hR with
  | own hE _ =>
    obtain ⟨u, ob, xs, g1, _, g2, g3⟩ := h2 _ _ hg
    rw [hE] at g1; cases g1
    rcases g3 with ⟨rfl, _⟩ | ⟨g, cap, cur, rfl, rfl, g4⟩
    · simp at he
    · refine ⟨.pointer (some ⟨g, n.toNat * i.size + 0, none⟩), ?_, .ptr hE⟩
      simp [execOp, ho, hq, hqj, Instr.indexAt, run_underlying hu, asIntOf, run_sizeOf hi, h0, show n < (es.length : Int) from by omega, Addr.add_lit]

theorem good_ixp {t x j e i kf n N s s'} (ho : o.op = .indexAddr t x j) (hu : Try.prog.underlying t = some (.array N e)) (hi : Try.prog.info? e = some i)
    (h : S.opd x = some s) (hj : S.opd j = some (.v (.int kf n))) (h0 : 0 ≤ n) (hn : n < N)
    (hs : (∃ i' idx o, s = .ptr i' idx o ∧ s' = .ptr i' idx (o + n.toNat * i.size)) ∨ (∃ e o, s = .fp e o ∧ s' = .fp e (o + n.toNat * i.size))) : Good o S E [x, j] s' := good_same fun B a w H h1 h2 h3 => by
  have hR := h3.get (by simp) h
  have hJ := h3.get (by simp) hj
  generalize hqj : a.eval j = qj at hJ
  cases hJ
  have hrun : ∀ b o', a.eval x = .pointer (some ⟨b, o', none⟩) → (execOp a.eval o).run Try.prog w = .ok (.value (.pointer (some ⟨b, o' + n.toNat * i.size, none⟩))) w := fun b o' e => by
    simp [execOp, ho, e, hqj, Instr.indexAt, run_underlying hu, asIntOf, Instr.sureAddr, run_sizeOf hi, h0, hn, Addr.add_lit]
  rcases hs with ⟨i', idx, o', rfl, rfl⟩ | ⟨e, o', rfl, rfl⟩
  · generalize hq : a.eval x = q at hR
    cases hR with
    | ptr h => exact ⟨_, hrun _ _ hq, by rw [Nat.add_assoc]; exact .ptr h⟩
  · generalize hq : a.eval x = q at hR
    cases hR with
    | fp b1 b2 b3 => exact ⟨_, hrun _ _ hq, by rw [Nat.add_assoc]; exact .fp b1 b2 b3⟩

theorem good_len {t x e s n} (ho : o.op = .call ⟨.builtin .len, #[x], #[t]⟩) (hu : Try.prog.underlying t = some (.slice e)) (h : S.opd x = some s)
    (hs : (∃ k full es, s = .sl k full es ∧ n = es.length) ∨ (∃ i et k es, s = .own i ∧ getA S.O i = some (.row et k es) ∧ n = es.length)) : Good o S E [x] (.v (.int .i64 n)) := good_same fun B a w H h1 h2 h3 => by
  have hR := h3.get (by simp) h
  generalize hq : a.eval x = q at hR
  have hrun : ∀ ao cap, q = .slice ao n cap → (execOp a.eval o).run Try.prog w = .ok (.value (.int .i64 n)) w := fun ao cap e => by
    simp [execOp, ho, resolve, hq, e, invoke, builtin, Builtin.len_, run_underlying hu, goInt]
  refine ⟨.int .i64 n, ?_, .v rfl⟩
  rcases hs with ⟨k, full, es, rfl, rfl⟩ | ⟨i, et, k, es, rfl, hg, rfl⟩
  · cases hR with
    | sl hE hn hc hm hf ha hat => exact hrun _ _ (by rw [hn])
  · cases hR with
    | own hE _ =>
      obtain ⟨u, ob, xs, g1, _, g2, g3⟩ := h2 _ _ hg
      rw [hE] at g1; cases g1
      rcases g3 with ⟨rfl, _, ad, rfl⟩ | ⟨g, cap, cur, rfl, rfl, g4⟩
      · exact hrun _ _ rfl
      · exact hrun _ _ rfl

theorem zsh_rep (H : Hp) (E : Env) (z : ZSh) : Rep H E z.sh z.val := by
  cases z with
  | sl k => exact .sl .nil rfl (Nat.le_refl _) (Nat.zero_le _) ⟨fun _ => rfl, fun _ _ => rfl⟩ (fun _ => rfl) (fun j u h => by simp at h)
  | mp kt => exact .mpn (fun _ => rfl)
  | _ => exact .v rfl
theorem zsh_one (z : ZSh) : z.sh.one = true := by cases z <;> rfl
theorem zsh_pure (z : ZSh) : z.sh.pure = true := by cases z <;> rfl
theorem zs_rep (H : Hp) (E : Env) : ∀ (zs : List ZSh), RepL H E (zs.map ZSh.sh) (zs.map ZSh.val)
  | [] => .nil
  | z :: zs => .cons (zsh_rep H E z) (zs_rep H E zs)
theorem zs_one (zs : List ZSh) : (zs.map ZSh.sh).all Sh.one = true := by simp [zsh_one]

theorem good_lkp {t kt e i m key ok f n} {z : ZSh} (ho : o.op = .lookup t m key ok) (hu : Try.prog.underlying t = some (.map kt e)) (hk : Try.prog.underlying kt = some (.int .i64)) (hi : Try.prog.info? e = some i) (hz : i.zero = some z.val)
    (h : S.opd m = some (.mp kt f)) (hj : S.opd key = some (.v (.int .i64 n))) (n1 : -9223372036854775808 ≤ n) (n2 : n ≤ 9223372036854775807) :
    Good o S E [m, key] (if ok then .tup [(f n).getD z.sh, .v (.bool (f n).isSome)] else (f n).getD z.sh) := good_same fun B a w H h1 h2 h3 => by
  have hR := h3.get (by simp) h
  have hJ := h3.get (by simp) hj
  generalize hq : a.eval m = q at hR
  generalize hqj : a.eval key = qj at hJ
  cases hJ
  have hzr := run_zero hi hz
  have K := int_keyed (P := Try.prog) hk
  have hkey := keyOf_int_mk (P := Try.prog) hk (wf64 n1 n2)
  cases hR with
  | mpn hf =>
    have r1 := Maps.look_nil (P := Try.prog) (w := w) false K hu (hzr w) hkey
    have r2 := Maps.look_nil (P := Try.prog) (w := w) true K hu (hzr w) hkey
    cases ok with
    | false => exact ⟨z.val, by simp [execOp, ho, hq, hqj, r1], by simpa [hf] using zsh_rep H E z⟩
    | true => exact ⟨.tuple #[z.val, .bool false], by simp [execOp, ho, hq, hqj, r2], by simpa [hf] using Rep.tup (.cons (zsh_rep H E z) (.cons (.v rfl) .nil))⟩
  | mp hb hm hN hnone hsome =>
    rename_i b oo N F
    obtain ⟨r1, r2⟩ := hm.lookup (h1 _ _ hb) hk hu (hzr w) n1 n2
    have hv : Rep H E ((f n).getD z.sh) ((F n).getD z.val) := by
      cases hf : f n with
      | none => rw [(hnone n).1 hf]; exact zsh_rep H E z
      | some s =>
        cases hF : F n with
        | none => rw [(hnone n).2 hF] at hf; cases hf
        | some u => exact (hsome n s u hf hF).mono (fun _ _ h => h) (E0_le _)
    have hb' : (F n).isSome = (f n).isSome := by
      have := hnone n
      cases hf : f n <;> cases hF : F n <;> simp_all
    cases ok with
    | false => exact ⟨_, by simp [execOp, ho, hq, hqj, r1], hv⟩
    | true => exact ⟨_, by simp [execOp, ho, hq, hqj, r2]; rfl, by simpa [hb'] using Rep.tup (.cons hv (.cons (.v rfl) .nil))⟩

theorem good_lkp2 {t kt e i m key ok f n ri M} {z : ZSh} (ho : o.op = .lookup t m key ok) (hu : Try.prog.underlying t = some (.map kt e)) (hk : Try.prog.underlying kt = some (.int .i64)) (hi : Try.prog.info? e = some i) (hz : i.zero = some z.val)
    (h : S.opd m = some (.own ri)) (hg : getA S.O ri = some (.map kt M f)) (hj : S.opd key = some (.v (.int .i64 n))) (n1 : -9223372036854775808 ≤ n) (n2 : n ≤ 9223372036854775807) :
    Good o S E [m, key] (if ok then .tup [(f n).getD z.sh, .v (.bool (f n).isSome)] else (f n).getD z.sh) := good_same fun B a w H h1 h2 h3 => by
  have hR := h3.get (by simp) h
  have hJ := h3.get (by simp) hj
  generalize hq : a.eval m = q at hR
  generalize hqj : a.eval key = qj at hJ
  cases hJ
  have hzr := run_zero hi hz
  obtain ⟨b, oo, F, e1, e2, e3, e4, e5, e6, hnone, hsome⟩ := h2 _ _ hg
  cases hR with
  | own hE _ =>
    rw [hE] at e1; cases e1
    obtain ⟨r1, r2⟩ := e5.lookup e4 hk hu (hzr w) n1 n2
    have hv : Rep H E ((f n).getD z.sh) ((F n).getD z.val) := by
      cases hf : f n with
      | none => rw [(hnone n).1 hf]; exact zsh_rep H E z
      | some s =>
        cases hF : F n with
        | none => rw [(hnone n).2 hF] at hf; cases hf
        | some u => exact (hsome n s u hf hF).mono (fun _ _ h => h) (E0_le _)
    have hb' : (F n).isSome = (f n).isSome := by
      have := hnone n
      cases hf : f n <;> cases hF : F n <;> simp_all
    cases ok with
    | false => exact ⟨_, by simp [execOp, ho, hq, hqj, r1], hv⟩
    | true => exact ⟨_, by simp [execOp, ho, hq, hqj, r2]; rfl, by simpa [hb'] using Rep.tup (.cons hv (.cons (.v rfl) .nil))⟩

theorem good_ext {x i cs s} (ho : o.op = .extract x i) (h : S.opd x = some (.tup cs)) (hi : cs[i]? = some s) : Good o S E [x] s := good_same fun B a w H h1 h2 h3 => by
  have hR := h3.get (by simp) h
  generalize hq : a.eval x = q at hR
  cases hR with
  | tup hL =>
    obtain ⟨u, hu, hr⟩ := hL.get hi
    exact ⟨u, by simp [execOp, ho, hq, Instr.extract, hu], hr⟩

theorem run_intBin {op : BinOp} {t : TypeId} {k : IntKind} {x y : Int} {r : Value} (x1 y1 : Operand) (h : intBin op k x y = some r) (w : World) :
    ((do eqGuard op t x1 y1 (.int k x) (.int k y); binOp op t (.int k x) (.int k y) : Sem Value)).run Try.prog w = .ok r w := by
  cases op <;> simp [intBin] at h <;> (first | (obtain ⟨h0, rfl⟩ := h) | subst h) <;>
    simp_all [eqGuard, binOp, Op.intArith, Op.intDiv, Op.intCmp]

theorem good_bin {op t x y t2 k p q r} (ho : o.op = .binOp op t x y t2) (hx : S.opd x = some (.v (.int k p))) (hy : S.opd y = some (.v (.int k q))) (hr : intBin op k p q = some r) : Good o S E [x, y] (.v r) := good_same fun B a w H h1 h2 h3 => by
  have hR := h3.get (by simp) hx
  have hJ := h3.get (by simp) hy
  generalize hqx : a.eval x = qx at hR
  generalize hqy : a.eval y = qy at hJ
  cases hR; cases hJ
  refine ⟨r, ?_, .v ?_⟩
  · have := run_intBin (t := t) x y hr w
    simp only [execOp, ho, hqx, hqy, Sem.run_bind] at this ⊢
    rw [this]; rfl
  · cases op <;> simp [intBin] at hr <;> (first | (obtain ⟨h0, rfl⟩ := hr) | subst hr) <;> rfl

theorem good_eqv {t x y t2 sx sy b} {neg : Bool} (ho : o.op = .binOp (if neg then .neq else .eql) t x y t2) (hx : S.opd x = some sx) (hy : S.opd y = some sy) (hb : EqSh t sx sy b) : Good o S E [x, y] (.v (.bool (if neg then !b else b))) := good_same fun B a w H h1 h2 h3 => by
  obtain ⟨r1, r2⟩ := hb H E w _ _ x y h1 (h3.get (by simp) hx) (h3.get (by simp) hy)
  refine ⟨.bool (if neg then !b else b), ?_, .v rfl⟩
  cases neg
  · simp only [execOp, ho, Sem.run_bind] at r1 ⊢
    simp only [Bool.false_eq_true, if_false] at r1 ⊢
    rw [r1]; rfl
  · simp only [execOp, ho, Sem.run_bind] at r2 ⊢
    simp only [if_true] at r2 ⊢
    rw [r2]; rfl

theorem good_not {t x b} (ho : o.op = .unOp .not t x) (hx : S.opd x = some (.v (.bool b))) : Good o S E [x] (.v (.bool !b)) := good_same fun B a w H h1 h2 h3 => by
  have hR := h3.get (by simp) hx
  generalize hqx : a.eval x = qx at hR
  cases hR
  exact ⟨.bool !b, by simp [execOp, ho, hqx, Op.unary], .v rfl⟩

theorem good_cnv {src dst x d k kf n} (ho : o.op = .convert src dst x) (hs : Try.prog.underlying src = some d) (hd : Try.prog.underlying dst = some (.int k)) (hx : S.opd x = some (.v (.int kf n))) : Good o S E [x] (.v (.int k (k.wrap n))) := good_same fun B a w H h1 h2 h3 => by
  have hR := h3.get (by simp) hx
  generalize hqx : a.eval x = qx at hR
  cases hR
  exact ⟨.int k (k.wrap n), by simp [execOp, ho, hqx, convert, run_underlying hs, run_underlying hd, Conv.intToInt], .v rfl⟩

theorem callFunc_enter {f : FuncId} {fn : Func} (hf : Try.prog.funcs[f]? = some fn) (hb : fn.body.isSome = true) (hn : (fn.name == "runtime.NumGoroutine") = false) : Enters f := fun args w => by
  have h1 : fn.body ≠ none := by intro h; rw [h] at hb; cases hb
  have h2 : ¬ fn.name = "runtime.NumGoroutine" := by simpa using hn
  simp [callFunc, program, Sem.run, hf, h2, h1]

theorem map_arr (args : Array Operand) (f : Operand → Value) : (args.toList.map f).toArray = args.map f := by apply Array.ext'; simp

theorem good_call {f args tys l r} (ho : o.op = .call ⟨.value (.func f), args, tys⟩) (hE : Enters f) (hl : S.args args.toList = some l) (hr : Ok f l r) : Good o S E args.toList r := by
  intro B a w H h1 h2 h3
  have hA := args_rep h2 h3 hl
  have hc := hr w H _ h1 hA
  have e : (execOp a.eval o).run Try.prog w = .ok (.enter f (args.toList.map a.eval).toArray) w := by
    have := hE (args.map a.eval) w
    rw [map_arr]
    simp [execOp, ho, resolve, Act.eval, Deferred.ofValue, invoke]
    exact this
  unfold Oper.wp
  rw [e, Oper.upon_enter]
  refine Calls.mono hc fun e' w' he => ?_
  obtain ⟨v, H', rfl, hg, hrr⟩ := he
  exact ⟨v, H', rfl, hg, hrr.mono (fun _ _ h => h) (E0_le _)⟩

theorem good_callv {x args tys l r f first cap} (ho : o.op = .call ⟨.value x, args, tys⟩) (hx : S.opd x = some (.fn (.func f) first cap)) (hE : Enters f) (hl : S.args args.toList = some l) (hr : Ok f (first ++ l ++ cap) r) : Good o S E (x :: args.toList) r := by
  intro B a w H h1 h2 h3
  have hA := args_rep h2 (fun x hx => h3 x (by simp [hx])) hl
  have hF := h3.get (by simp) hx
  generalize hq : a.eval x = q at hF
  cases hF with
  | fn f1 f2 =>
    rename_i vs us
    have hc := hr w H _ h1 ((f1.append hA).append f2)
    have e : (execOp a.eval o).run Try.prog w = .ok (.enter f ((vs ++ args.toList.map a.eval) ++ us).toArray) w := by
      have := hE ((vs ++ args.toList.map a.eval) ++ us).toArray w
      have e2 : ((vs ++ args.toList.map a.eval) ++ us).toArray = vs.toArray ++ args.map a.eval ++ us.toArray := by apply Array.ext'; simp
      rw [e2] at this ⊢
      simp only [execOp, ho, resolve, hq, Deferred.ofValue, invoke, Sem.run_bind, Sem.run_pure, Result.andThen_ok]
      exact this
    unfold Oper.wp
    rw [e, Oper.upon_enter]
    refine Calls.mono hc fun e' w' he => ?_
    obtain ⟨v, H', rfl, hg, hrr⟩ := he
    exact ⟨v, H', rfl, hg, hrr.mono (fun _ _ h => h) (E0_le _)⟩

theorem good_mkf {f first cap l1 l2} (ho : o.op = .makeFunc f first cap) (h1' : S.args first.toList = some l1) (h2' : S.args cap.toList = some l2) : Good o S E (first.toList ++ cap.toList) (.fn f l1 l2) := good_same fun B a w H h1 h2 h3 => by
  have A := args_rep h2 (fun x hx => h3 x (by simp [hx])) h1'
  have C := args_rep h2 (fun x hx => h3 x (List.mem_append.2 (.inr hx))) h2'
  have R := Rep.fn (E := E) (f := f) A C
  rw [map_arr, map_arr] at R
  exact ⟨_, by simp [execOp, ho, Instr.makeFunc], R⟩

theorem good_mki {t x d s} (ho : o.op = .makeInterface t x) (hd : Try.prog.underlying t = some d) (hn : ∀ ms, d ≠ .interface ms) (hx : (S.opd x).bind S.arg = some s) : Good o S E [x] (.ifc t s) := good_same fun B a w H h1 h2 h3 => by
  obtain ⟨y, hy, hs⟩ := Option.bind_eq_some_iff.1 hx
  have hR := arg_rep h2 (h3.get (by simp) hy) hs
  refine ⟨.iface t (a.eval x), ?_, .ifc hR⟩
  cases d <;> simp [execOp, ho, Instr.makeInterface, run_underlying hd] <;> exact absurd rfl (hn _)

theorem good_pick {c x y bb s} (ho : o.op = .pick c x y) (hc : S.opd c = some (.v (.bool bb))) (h1' : bb = true → S.opd x = some s) (h2' : bb = false → S.opd y = some s) : Good o S E [c, x, y] s := good_same fun B a w H h1 h2 h3 => by
  have hR := h3.get (by simp) hc
  generalize hq : a.eval c = q at hR
  cases hR
  cases bb
  · exact ⟨a.eval y, by simp [execOp, ho, hq, asBool], h3.get (by simp) (h2' rfl)⟩
  · exact ⟨a.eval x, by simp [execOp, ho, hq, asBool], h3.get (by simp) (h1' rfl)⟩

theorem good_mm {x y tys k p q} {mx : Bool} (ho : o.op = .call ⟨.builtin (if mx then .max else .min), #[x, y], tys⟩) (hx : S.opd x = some (.v (.int k p))) (hy : S.opd y = some (.v (.int k q))) : Good o S E [x, y] (.v (.int k (if mx then max p q else min p q))) := good_same fun B a w H h1 h2 h3 => by
  have hR := h3.get (by simp) hx
  have hJ := h3.get (by simp) hy
  generalize hqx : a.eval x = qx at hR
  generalize hqy : a.eval y = qy at hJ
  cases hR; cases hJ
  refine ⟨.int k (if mx then max p q else min p q), ?_, .v rfl⟩
  cases mx
  · simp [execOp, ho, resolve, hqx, hqy, invoke, builtin, Builtin.min_, Builtin.min2]
    split <;> omega
  · simp [execOp, ho, resolve, hqx, hqy, invoke, builtin, Builtin.max_, Builtin.max2]
    split <;> omega

theorem good_nck {x s} (ho : o.op = .nilCheck x) (hx : S.opd x = some s) (hs : (∃ i idx o, s = .ptr i idx o) ∨ (∃ e o, s = .fp e o) ∨ (∃ f a b, s = .fn (.func f) a b)) : Good o S E [x] s := good_same fun B a w H h1 h2 h3 => by
  have hR := h3.get (by simp) hx
  refine ⟨a.eval x, ?_, hR⟩
  generalize hq : a.eval x = q at hR
  rcases hs with ⟨i, idx, o', rfl⟩ | ⟨e, o', rfl⟩ | ⟨f, b, c, rfl⟩ <;> cases hR <;> simp [execOp, ho, hq]
end
end Go.Proofs.Ytfcjkchpldfamaa
