/-
  AtomClaims, by shadows.
-/
import Derived.Test.YtcbdgnjdpfgobaaK10c
import Derived.Test.YtcbdgnjdpfgobaaK10g
import Derived.Test.YtcbdgnjdpfgobaaScAtomClaims
import Derived.Test.YtcbdgnjdpfgobaaMC
namespace Go.Proofs.Ytcbdgnjdpfgobaa
set_option linter.unusedSimpArgs false
set_option linter.unusedVariables false
open Go.RowKit Go.Maps

theorem infoI64 : (Try.prog.info? 2).map (fun i => (i.zero, i.size, i.bytes)) = some (some (.int .i64 0), 1, 8) := by kernel_rfl
theorem gen_max4 {tys : Array TypeId} {x y z u : Operand} {k : IntKind} {a b c d : Int} : GenRel (.call ⟨.builtin .max, #[x, y, z, u], tys⟩) [x, y, z, u] [.v (.int k a), .v (.int k b), .v (.int k c), .v (.int k d)] (.v (.int k (max (max (max a b) c) d))) := gen_val fun o A w H ho hS hA => by
  cases hA with
  | cons h1 hA =>
    cases hA with
    | cons h2 hA =>
      cases hA with
      | cons h3 hA =>
        cases hA with
        | cons h4 hA =>
          generalize q1 : A.eval x = v1 at h1
          generalize q2 : A.eval y = v2 at h2
          generalize q3 : A.eval z = v3 at h3
          generalize q4 : A.eval u = v4 at h4
          cases h1; cases h2; cases h3; cases h4
          refine ⟨_, ?_, .v rfl⟩
          have hm : ∀ p q : Int, (if p < q then q else p) = max p q := fun p q => by split <;> omega
          simp [execOp, ho, resolve, q1, q2, q3, q4, invoke, builtin, Builtin.max_, Builtin.max2, hm]
theorem bit_low (x : Int) : bitsI .and .i64 x 1023 = x % 1024 := by
  have e : (BitVec.ofInt 64 x &&& BitVec.ofInt 64 1023).toNat = (x % 1024).toNat := by
    rw [BitVec.toNat_and, BitVec.toNat_ofInt]
    have : (BitVec.ofInt 64 1023).toNat = 2 ^ 10 - 1 := rfl
    rw [this, Nat.and_two_pow_sub_one_eq_mod]
    omega
  show IntKind.i64.wrap ((BitVec.ofInt 64 x &&& BitVec.ofInt 64 1023).toNat : Int) = x % 1024
  rw [e, IntKind.wrap_i64]
  omega
abbrev opsC (K a b c : Int) : List (List Sh) := [[sI K, sI 0, sI a], [sI K, sI 0, sI b], [sI K, sI 0, sI c]]
abbrev clL (K a b c : Int) : List OpV := [⟨K, 0, a⟩, ⟨K, 0, b⟩, ⟨K, 0, c⟩]
noncomputable abbrev clW (K f a b c : Int) : WorldM atm := begunW (clL K a b c) ⟨f, 0, 0⟩ zWord
noncomputable abbrev clV (K f a b c : Int) (ps : List PickV) (i : Nat) : WorldM atm := aloneN (runI (clW K f a b c) isStep ps i) 10 3
theorem cl_start (K f a b c : Int) (ho : ∀ o ∈ clL K a b c, checkA o = 0) : AtJ (clL K a b c) (clW K f a b c) 0 ∧ Wd (clW K f a b c).m 0 = ⟨f, 0, 0⟩ ∧ ∀ j, j < 3 → liveAt (clW K f a b c) j = true := by
  obtain ⟨_, hmk, _, _, hw0, _⟩ := begun_ok (clL K a b c) ⟨f, 0, 0⟩ zWord (by simp)
  refine ⟨atJ_begun (by simp) fun o h => ⟨ho o h, ?_⟩, ?_, fun j hj => ?_⟩
  · have : o = ⟨K, 0, a⟩ ∨ o = ⟨K, 0, b⟩ ∨ o = ⟨K, 0, c⟩ := by simpa using h
    rcases this with rfl | rfl | rfl <;> exact .inl rfl
  · unfold clW begunW; rw [hmk]; exact hw0
  · unfold clW begunW
    rw [hmk]
    match j, hj with
    | 0, _ => rfl
    | 1, _ => rfl
    | 2, _ => rfl
theorem cl_done {K f a b c : Int} (hJ : AtJ (clL K a b c) (clW K f a b c) 0) (ps : List PickV) (i : Nat) : AtJ (clL K a b c) (runI (clW K f a b c) isStep ps i) 0 ∧ AtJ (clL K a b c) (clV K f a b c ps i) 3 ∧ doneW (clV K f a b c ps i) = true ∧ (clV K f a b c ps i).tasks.length = 3 ∧
    ∀ j, j < 3 → ∃ (y : TaskM atm) (s : AtmV), (clV K f a b c ps i).tasks[j]? = some y ∧ y.code = some s ∧ s.fin = true := by
  have hJi := atJ_runI hJ ps i
  have hJ3 := atJ_alone hJi (N := 10) (by decide) 3 (by simp)
  have hl := hJ3.at'.len
  have hl3 : (clV K f a b c ps i).tasks.length = 3 := hl
  refine ⟨hJi, hJ3, doneW_of fun j hj => hJ3.done j (by rw [hl] at hj; exact hj), hl, fun j hj => ?_⟩
  obtain ⟨o, ho⟩ : ∃ o, (clL K a b c)[j]? = some o := ⟨_, List.getElem?_eq_getElem (by simp; omega)⟩
  obtain ⟨y, hy⟩ : ∃ y, (clV K f a b c ps i).tasks[j]? = some y := ⟨_, List.getElem?_eq_getElem (by omega)⟩
  obtain ⟨s, hs⟩ := hJ3.at'.task j o y ho hy
  refine ⟨y, s, hy, hs.code, ?_⟩
  have h1 := hJ3.done j hj
  rw [live_of hy, hs.live] at h1
  simpa using h1
theorem cl_max {f a b c : Int} (ps : List PickV) (i : Nat) : (Wd (clV 1 f a b c ps i).m 0).val = max (max (max f a) b) c := by
  obtain ⟨hJ, h0, hlive⟩ := cl_start 1 f a b c (fun o h => by
    have : o = ⟨1, 0, a⟩ ∨ o = ⟨1, 0, b⟩ ∨ o = ⟨1, 0, c⟩ := by simpa using h
    rcases this with rfl | rfl | rfl <;> rfl)
  obtain ⟨_, hJ3, _⟩ := cl_done hJ ps i
  have hM : MaxJ f a b c (clW 1 f a b c) := ⟨hJ.at', by
    rw [h0]
    unfold finMax
    rw [hlive 0 (by decide), hlive 1 (by decide), hlive 2 (by decide)]
    simp only [if_true]; omega⟩
  have hst := fun w p (hp : p.kind = 0) (h : MaxJ f a b c w) => maxJ_step h p hp
  have hMi : MaxJ f a b c (runI (clW 1 f a b c) isStep ps i) := run_keeps0 (I := MaxJ f a b c) hst _ (sel_step ps i) hM
  have hM3 : ∀ k, MaxJ f a b c (aloneN (runI (clW 1 f a b c) isStep ps i) 10 k) := fun k => by
    induction k with
    | zero => exact hMi
    | succ k ih => exact goes_keeps (I := MaxJ f a b c) _ hst 10 ih
  have hv := (hM3 3).val
  rw [hv]
  unfold finMax
  rw [hJ3.done 0 (by decide), hJ3.done 1 (by decide), hJ3.done 2 (by decide)]
  simp only [Bool.false_eq_true, if_false]
theorem cl_claim {a b c : Int} (ha : a ≠ 0) (hb : b ≠ 0) (hc : c ≠ 0) (ps : List PickV) (i : Nat) : ∃ (k : Nat) (o : OpV), k < 3 ∧ (clL 3 a b c)[k]? = some o ∧ o.n ≠ 0 ∧ (Wd (clV 3 0 a b c ps i).m 0).val = o.n ∧
    ∀ (j : Nat) (y : TaskM atm) (s : AtmV), (clV 3 0 a b c ps i).tasks[j]? = some y → y.code = some s → s.fin = true → (j = k → s.answer = 0) ∧ (j ≠ k → s.answer = o.n) := by
  have hm : ∀ o ∈ clL 3 a b c, o.kind = 3 ∧ o.loc = 0 ∧ o.n ≠ 0 := fun o h => by
    have : o = ⟨3, 0, a⟩ ∨ o = ⟨3, 0, b⟩ ∨ o = ⟨3, 0, c⟩ := by simpa using h
    rcases this with rfl | rfl | rfl
    · exact ⟨rfl, rfl, ha⟩
    · exact ⟨rfl, rfl, hb⟩
    · exact ⟨rfl, rfl, hc⟩
  obtain ⟨hJ, h0, hlive⟩ := cl_start 3 0 a b c (fun o h => by
    obtain ⟨h1, h2, h3⟩ := hm o h
    unfold checkA
    rw [if_neg (by omega), if_neg (by omega), if_neg (fun h => h3 h.2)])
  obtain ⟨_, hJ3, _⟩ := cl_done hJ ps i
  have hM : ClaimJ (clL 3 a b c) (clW 3 0 a b c) := ⟨hJ.at', hm, .inl ⟨by rw [h0], hlive⟩⟩
  have hst := fun w p (hp : p.kind = 0) (h : ClaimJ (clL 3 a b c) w) => claimJ_step h p hp
  have hMi : ClaimJ (clL 3 a b c) (runI (clW 3 0 a b c) isStep ps i) := run_keeps0 (I := ClaimJ (clL 3 a b c)) hst _ (sel_step ps i) hM
  have hM3 : ∀ k, ClaimJ (clL 3 a b c) (aloneN (runI (clW 3 0 a b c) isStep ps i) 10 k) := fun k => by
    induction k with
    | zero => exact hMi
    | succ k ih => exact goes_keeps (I := ClaimJ (clL 3 a b c)) _ hst 10 ih
  rcases (hM3 3).val with ⟨_, hall⟩ | ⟨k, o, y, s, h1, h2, h3, h4, h5, h6, h7⟩
  · have := hall 0 (by simp)
    rw [hJ3.done 0 (by decide)] at this; cases this
  · refine ⟨k, o, (List.getElem?_eq_some_iff.1 h1).1, h1, (hm o (List.mem_of_getElem? h1)).2.2, h6, fun j y2 s2 hy2 hs2 hf2 => ⟨fun e => ?_, fun e => h7 j y2 s2 e hy2 hs2 hf2⟩⟩
    subst e
    rw [h2] at hy2; cases hy2
    rw [h3] at hs2; cases hs2
    exact h5

/-! ### The walk -/
def AcInv (f a b c : Int) (ps : List PickV) (m : Nat) (S : St) : Prop :=
  ∃ K : Int, ((K = 1 ∧ m = 2) ∨ (K = 3 ∧ m = 1) ∨ (K = 5 ∧ m = 0)) ∧ S = ⟨[(1, .sl 3 2 (ps.map ePick)), (2, sI f), (3, .ptr 0 0 0), (7, sI K)], [(0, .box 119 [sI a, sI b, sI c])], 1⟩
def AcInv1 (f a b c : Int) (ps : List PickV) (K f0 a' b' c' : Int) (m : Nat) (S : St) : Prop :=
  ∃ i : Nat, i ≤ 3 ∧ m = 3 - i ∧ S = ⟨[(1, .sl 3 2 (ps.map ePick)), (2, sI f), (3, .ptr 0 0 0), (7, sI K), (8, .ptr 1 0 0), (38, .agg [sI a, sI b, sI c]), (39, sI i)], [(0, .box 119 [sI a, sI b, sI c]), (1, .box 94 [sI f0, sU 0, sU 0, sI 0, sU 0, sU 0, .own 2, .sl 3 2 (ps.map ePick)]), (2, .row 99 3 ((opsC K a' b' c').take i))], 3⟩
def AcInv2 (f a b c : Int) (ps : List PickV) (K f0 a' b' c' : Int) (m : Nat) (S : St) : Prop :=
  ∃ i : Nat, i ≤ ps.length ∧ m = ps.length - i ∧ S = ⟨[(1, .sl 3 2 (ps.map ePick)), (2, sI f), (3, .ptr 0 0 0), (7, sI K), (11, .ptr 1 0 0), (12, .sl 3 0 (opsC K a' b' c')), (73, .sl 3 2 (ps.map ePick)), (74, sI ps.length), (75, sI i)], [(0, .box 119 [sI a, sI b, sI c]), (1, boxW (runI (clW K f0 a' b' c') isStep ps i))], 2⟩
def AcInv3 (f a b c : Int) (ps : List PickV) (K f0 a' b' c' : Int) (n : Nat) (m : Nat) (S : St) : Prop :=
  ∃ i : Nat, i ≤ 3 ∧ m = 3 - i ∧ S = ⟨[(1, .sl 3 2 (ps.map ePick)), (2, sI f), (3, .ptr 0 0 0), (7, sI K), (11, .ptr 1 0 0), (12, .sl 3 0 (opsC K a' b' c')), (16, sI 0), (17, sI ((i + 1 : Nat) : Int))], [(0, .box 119 [sI a, sI b, sI c]), (1, boxW (aloneN (runI (clW K f0 a' b' c') isStep ps n) 10 i))], 2⟩
def AcInv4 (f a b c : Int) (ps : List PickV) (K f0 a' b' c' : Int) (n k : Nat) (v : Int) (m : Nat) (S : St) : Prop :=
  ∃ i : Nat, i ≤ 3 ∧ m = 3 - i ∧ S = ⟨[(1, .sl 3 2 (ps.map ePick)), (2, sI f), (3, .ptr 0 0 0), (7, sI K), (11, .ptr 1 0 0), (12, .sl 3 0 (opsC K a' b' c')), (16, sI (if k < i then 1 else 0)), (18, sI v), (111, sI i)], [(0, .box 119 [sI a, sI b, sI c]), (1, boxW (clV K f0 a' b' c' ps n))], 2⟩
set_option maxHeartbeats 16000000 in
theorem ok_AtomClaims (a b c : Int) (ps : List PickV) (f : Int) : Ok 13 [.agg [sI a, sI b, sI c], .sl 3 2 (ps.map ePick), sI f] (sB true) := by
  refine ok_of_tr Try.func13 tr_AtomClaims rfl ?_
  have ka := ok_l10awake
  have hK := shK atm
  by_cases hg : (120 : Int) < (ps.length : Int)
  · skip
    unfold evFn sc_AtomClaims rv_AtomClaims
    have F1 := @hg
    refine eS fun K1 hn1 hr1 he1 => ?_
    refine eO fun K2 hk2 => ?_
    refine tL F1 ?_
    refine hk2 _ ?_
    refine hn1 (some ([1, 2, 3], none)) _ ?_
    refine eS fun K3 hn3 hr3 he3 => ?_
    refine eS fun K4 hn4 hr4 he4 => ?_
    refine eO fun K5 hk5 => ?_
    refine tZ F1 ?_
    refine hk5 _ ?_
    refine hn4 (some ([1, 2, 3, 24], none)) _ ?_
    refine eCt ?_
    refine eS fun K6 hn6 hr6 he6 => ?_
    refine eO fun K7 hk7 => ?_
    refine tS 1 F1 ?_
    refine Or.inl (Or.inl ⟨_, ka, ?_⟩)
    refine tL F1 ?_
    refine hk7 _ ?_
    refine hn6 (some ([6], none)) _ ?_
    refine hr3 _ ?_
    exact sf1 F1
  have ki : ∀ w, (isAgg 2).run Try.prog w = .ok false w := Try.isAgg2
  obtain ⟨iF, hiF, _, hsF, _⟩ := info_parts infoI64
  obtain ⟨a', ha'⟩ : ∃ a', a' = 3 * (a % 1024) + 1 := ⟨_, rfl⟩
  obtain ⟨b', hb'⟩ : ∃ b', b' = 3 * (b % 1024) + 2 := ⟨_, rfl⟩
  obtain ⟨c', hc'⟩ : ∃ c', c' = 3 * (c % 1024) + 3 := ⟨_, rfl⟩
  have hnx : ∀ i, i < 3 → ∃ x, [sI a, sI b, sI c][i]? = some (sI x) ∧ (opsC 1 a b c).take (i + 1) = (opsC 1 a b c).take i ++ [[sI 1, sI 0, sI x]] ∧ (opsC 3 a' b' c').take (i + 1) = (opsC 3 a' b' c').take i ++ [[sI 3, sI 0, sI (3 * (x % 1024) + i + 1)]] ∧ ((opsC 1 a b c).take i).length = i ∧ ((opsC 3 a' b' c').take i).length = i := fun i hi =>
    match i, hi with
    | 0, _ => ⟨a, rfl, rfl, by rw [show 3 * (a % 1024) + ((0 : Nat) : Int) + 1 = a' by rw [ha']; omega]; rfl, rfl, rfl⟩
    | 1, _ => ⟨b, rfl, rfl, by rw [show 3 * (b % 1024) + ((1 : Nat) : Int) + 1 = b' by rw [hb']; omega]; rfl, rfl, rfl⟩
    | 2, _ => ⟨c, rfl, rfl, by rw [show 3 * (c % 1024) + ((2 : Nat) : Int) + 1 = c' by rw [hc']; omega]; rfl, rfl, rfl⟩
  have na : a' ≠ 0 := by omega
  have nb : b' ≠ 0 := by omega
  have nc : c' ≠ 0 := by omega
  have hop3 : opsM (clL 3 a' b' c') = clL 3 a' b' c' := by
    have h3 : ∀ n : Int, n ≠ 0 → okOp ⟨3, 0, n⟩ = true := fun n hn => by
      unfold okOp checkA
      rw [if_neg (by simp), if_neg (by simp), if_neg (fun h => hn h.2)]; rfl
    show ([⟨3, 0, a'⟩, ⟨3, 0, b'⟩, ⟨3, 0, c'⟩] : List OpV).filter okOp = _
    simp only [List.filter_cons, h3 a' na, h3 b' nb, h3 c' nc, if_true, List.filter_nil]
  have hck3 : ∀ o ∈ clL 3 a' b' c', checkA o = 0 := fun o h => by rw [← hop3] at h; exact (opsM_mem h).1
  have hck1 : ∀ o ∈ clL 1 a b c, checkA o = 0 := fun o h => by
    have : o = ⟨1, 0, a⟩ ∨ o = ⟨1, 0, b⟩ ∨ o = ⟨1, 0, c⟩ := by simpa using h
    rcases this with rfl | rfl | rfl <;> rfl
  have b1 := ok_l10begun ⟨⟨f, 0, 0⟩, zWord, 0, clL 1 a b c, 2, ps⟩ (by simp)
  change Ok _ [.agg [sI f, sU 0, sU 0, sI 0, sU 0, sU 0, .sl 3 0 (opsC 1 a b c), .sl 3 2 (ps.map ePick)]] (.tup [eWorld (runI (clW 1 f a b c) isStep ps 0), .sl 3 0 (opsC 1 a b c), sB true]) at b1
  have b3 := ok_l10begun ⟨⟨0, 0, 0⟩, zWord, 0, clL 3 a' b' c', 2, ps⟩ (by simp)
  rw [show (⟨⟨0, 0, 0⟩, zWord, 0, clL 3 a' b' c', 2, ps⟩ : RunV).ops = clL 3 a' b' c' from rfl, hop3] at b3
  change Ok _ [.agg [sI 0, sU 0, sU 0, sI 0, sU 0, sU 0, .sl 3 0 (opsC 3 a' b' c'), .sl 3 2 (ps.map ePick)]] (.tup [eWorld (runI (clW 3 0 a' b' c') isStep ps 0), .sl 3 0 (opsC 3 a' b' c'), sB true]) at b3
  have hJ1 := (cl_start 1 f a b c hck1).1
  have hJ3 := (cl_start 3 0 a' b' c' hck3).1
  have hO : ∀ (K f a b c : Int) i, WorldOk (runI (clW K f a b c) isStep ps i) (2 + i) := fun K f a b c i => runI_ok (begun_ok _ _ _ (by simp)).1 _ _ _
  have hsucc := fun {K f a b c : Int} {i p} => runI_succ (w := clW K f a b c) (q := isStep) (ps := ps) (i := i) (p := p)
  clear ha' hb' hc'
  unfold evFn sc_AtomClaims rv_AtomClaims
  have F1 := And.intro @hK @hg
  refine eS fun K1 hn1 hr1 he1 => ?_
  refine eO fun K2 hk2 => ?_
  refine tL F1 ?_
  refine hk2 _ ?_
  refine hn1 (some ([1, 2, 3], none)) _ ?_
  refine eS fun K3 hn3 hr3 he3 => ?_
  refine eS fun K4 hn4 hr4 he4 => ?_
  refine eO fun K5 hk5 => ?_
  refine tZ F1 ?_
  refine hk5 _ ?_
  refine hn4 (some ([1, 2, 3, 24], none)) _ ?_
  refine eCf ?_
  refine hn3 (some ([1, 2, 3], none)) _ ?_
  refine eS fun K6 hn6 hr6 he6 => ?_
  refine eS fun K7 hn7 hr7 he7 => ?_
  refine eO fun K8 hk8 => ?_
  refine tL F1 ?_
  refine hk8 _ ?_
  refine hn7 (some ([1, 2, 3, 7], none)) _ ?_
  refine eB fun K9 hn9 hx9 hr9 he9 => ?_
  refine eW (AcInv f a b c ps) (2) (some ([1, 2, 3, 7], some ([0], 1))) ([]) ?_ ?_
  · try refine lp0 ?_
    exact ⟨1, .inl ⟨rfl, rfl⟩, by rfl⟩
  · intro k S1 hI
    obtain ⟨K, hcase, rfl⟩ := hI
    intro K10 hn10 hr10 he10
    rcases hcase with ⟨rfl, rfl⟩ | ⟨rfl, rfl⟩ | ⟨rfl, rfl⟩
    · skip
      refine eS fun K11 hn11 hr11 he11 => ?_
      refine eS fun K12 hn12 hr12 he12 => ?_
      refine eO fun K13 hk13 => ?_
      refine tZ F1 ?_
      refine hk13 _ ?_
      refine hn12 (some ([1, 2, 3, 7, 27], none)) _ ?_
      refine eCt ?_
      refine hn11 (some ([1, 2, 3, 7], none)) _ ?_
      refine eS fun K14 hn14 hr14 he14 => ?_
      refine eB fun K15 hn15 hx15 hr15 he15 => ?_
      refine eS fun K16 hn16 hr16 he16 => ?_
      refine eO fun K17 hk17 => ?_
      refine tZ F1 ?_
      refine hk17 _ ?_
      refine hn16 (some ([1, 2, 3, 7, 8], none)) _ ?_
      refine eS fun K18 hn18 hr18 he18 => ?_
      refine eS fun K19 hn19 hr19 he19 => ?_
      refine eO fun K20 hk20 => ?_
      refine tZ F1 ?_
      refine hk20 _ ?_
      refine hn19 (some ([1, 2, 3, 7, 8, 33], none)) _ ?_
      refine eCt ?_
      refine eO fun K21 hk21 => ?_
      refine tC 3 F1 ?_
      refine tZ F1 ?_
      refine hk21 _ ?_
      refine hn18 (some ([1, 2, 3, 7, 8], none)) _ ?_
      refine eS fun K22 hn22 hr22 he22 => ?_
      refine eS fun K23 hn23 hr23 he23 => ?_
      refine eO fun K24 hk24 => ?_
      refine tC 1 F1 ?_
      refine tL F1 ?_
      refine hk24 _ ?_
      refine hn23 (some ([1, 2, 3, 7, 8, 38, 39], none)) _ ?_
      refine eB fun K25 hn25 hx25 hr25 he25 => ?_
      refine eW (AcInv1 f a b c ps 1 f a b c) (3) (some ([1, 2, 3, 7, 8, 38, 39], some ([0, 1, 2], 3))) ([.cell 1 6 (some 99) 3]) ?_ ?_
      · try refine lp0 ?_
        exact ⟨0, by omega, by omega, by rfl⟩
      · intro k S1 hI
        obtain ⟨i, hi', rfl, rfl⟩ := hI
        have hcase1 : i = 3 ∨ i < 3 := by omega
        intro K26 hn26 hr26 he26
        rcases hcase1 with hcc | hcc
        · skip
          have w2 : ¬ (i : Int) < 3 := by omega
          subst hcc
          have F2 := And.intro F1 @w2
          refine eS fun K27 hn27 hr27 he27 => ?_
          refine eO fun K28 hk28 => ?_
          refine tZ F2 ?_
          refine hk28 _ ?_
          refine hn27 (some ([1, 2, 3, 7, 8, 38, 39, 40], none)) _ ?_
          refine eS fun K29 hn29 hr29 he29 => ?_
          refine eCf ?_
          refine he29 2 _ ?_
          refine he26 2 _ ?_
          refine hx25 _ ?_
          refine hn22 (some ([1, 2, 3, 7, 8], none)) _ ?_
          refine eS fun K30 hn30 hr30 he30 => ?_
          refine eO fun K31 hk31 => ?_
          refine tC 1 F2 ?_
          refine tS 1 F2 ?_
          refine Or.inl (Or.inl ⟨_, b1, ?_⟩)
          refine tC 6 F2 ?_
          refine tL F2 ?_
          refine hk31 _ ?_
          refine hn30 (some ([1, 2, 3, 7, 11, 12, 13], none)) _ ?_
          refine eS fun K32 hn32 hr32 he32 => ?_
          refine eS fun K33 hn33 hr33 he33 => ?_
          refine eO fun K34 hk34 => ?_
          refine tC 6 F2 ?_
          refine tL F2 ?_
          refine hk34 _ ?_
          refine hn33 (some ([1, 2, 3, 7, 11, 12, 72], none)) _ ?_
          refine eCf ?_
          refine hn32 (some ([1, 2, 3, 7, 11, 12], none)) _ ?_
          refine eS fun K35 hn35 hr35 he35 => ?_
          refine eS fun K36 hn36 hr36 he36 => ?_
          refine eO fun K37 hk37 => ?_
          refine tL F2 ?_
          refine hk37 _ ?_
          refine hn36 (some ([1, 2, 3, 7, 11, 12, 73, 74, 75], none)) _ ?_
          refine eB fun K38 hn38 hx38 hr38 he38 => ?_
          refine eW (AcInv2 f a b c ps 1 f a b c) (ps.length) (some ([1, 2, 3, 7, 11, 12, 73, 74, 75], some ([0, 3], 2))) ([]) ?_ ?_
          · try refine lp0 ?_
            exact ⟨0, by omega, by omega, by rfl⟩
          · intro k S1 hI
            obtain ⟨j, hj', rfl, rfl⟩ := hI
            have hcase2 : j = ps.length ∨ (∃ p, ps[j]? = some p ∧ p.kind = 0) ∨ (∃ p, ps[j]? = some p ∧ ¬ p.kind = 0) := by
              rcases Nat.lt_or_ge j ps.length with h | h
              · by_cases h2 : (ps[j]).kind = 0
                · exact .inr (.inl ⟨_, List.getElem?_eq_getElem h, h2⟩)
                · exact .inr (.inr ⟨_, List.getElem?_eq_getElem h, h2⟩)
              · exact .inl (by omega)
            intro K39 hn39 hr39 he39
            rcases hcase2 with hcd | ⟨p, hp, hpk⟩ | ⟨p, hp, hpk⟩
            · skip
              have z2 : ¬ (j : Int) < (ps.length : Int) := by omega
              have hOn := fun K f a b c k => aloneN_ok (hO K f a b c j) 10 k
              have F3 := And.intro F2 @z2
              refine eS fun K40 hn40 hr40 he40 => ?_
              refine eO fun K41 hk41 => ?_
              refine tZ F3 ?_
              refine hk41 _ ?_
              refine hn40 (some ([1, 2, 3, 7, 11, 12, 73, 74, 75, 76], none)) _ ?_
              refine eS fun K42 hn42 hr42 he42 => ?_
              refine eCf ?_
              refine he42 4 _ ?_
              refine he39 4 _ ?_
              refine hx38 _ ?_
              refine hn35 (some ([1, 2, 3, 7, 11, 12], none)) _ ?_
              refine eS fun K43 hn43 hr43 he43 => ?_
              refine eO fun K44 hk44 => ?_
              refine tL F3 ?_
              refine hk44 _ ?_
              refine hn43 (some ([1, 2, 3, 7, 11, 12, 16], none)) _ ?_
              refine eS fun K45 hn45 hr45 he45 => ?_
              refine eS fun K46 hn46 hr46 he46 => ?_
              refine eO fun K47 hk47 => ?_
              refine tL F3 ?_
              refine hk47 _ ?_
              refine hn46 (some ([1, 2, 3, 7, 11, 12, 16, 17], none)) _ ?_
              refine eB fun K48 hn48 hx48 hr48 he48 => ?_
              refine eW (AcInv3 f a b c ps 1 f a b c j) (3) (some ([1, 2, 3, 7, 11, 12, 16, 17], some ([0, 1], 2))) ([]) ?_ ?_
              · try refine lp0 ?_
                exact ⟨0, by omega, by omega, by rfl⟩
              · intro k S1 hI
                obtain ⟨t, ht', rfl, rfl⟩ := hI
                have hcase3 : t = 3 ∨ t < 3 := by omega
                intro K49 hn49 hr49 he49
                rcases hcase3 with hce | hce
                · skip
                  have y2 : ¬ ((t + 1 : Nat) : Int) ≤ 3 := by omega
                  subst hce
                  obtain ⟨_, _, dm, lm, tm⟩ := cl_done hJ1 ps j
                  obtain ⟨_, _, dc, lc, tc⟩ := cl_done hJ3 ps j
                  have vm := cl_max (f := f) (a := a) (b := b) (c := c) ps j
                  obtain ⟨k, o, hk3, hko, hon, vc, hans⟩ := cl_claim na nb nc ps j
                  have k5m := ok_kWDone (clV 1 f a b c ps j) (worldOk_eight (hOn 1 f a b c 3))
                  have k5c := ok_kWDone (clV 3 0 a' b' c' ps j) (worldOk_eight (hOn 3 0 a' b' c' 3))
                  have k6m := ok_l10word (clV 1 f a b c ps j) 0 (hOn 1 f a b c 3) (by omega)
                  have k6c := ok_l10word (clV 3 0 a' b' c' ps j) 0 (hOn 3 0 a' b' c' 3) (by omega)
                  rw [dm] at k5m
                  rw [dc] at k5c
                  simp only [eWord, vm] at k6m
                  simp only [eWord, vc] at k6c
                  have lm' : ((clV 1 f a b c ps j).tasks.length : Int) = 3 := by rw [lm]; rfl
                  have lc' : ((clV 3 0 a' b' c' ps j).tasks.length : Int) = 3 := by rw [lc]; rfl
                  have F4 := And.intro F3 (And.intro @y2 (And.intro @lm' @lc'))
                  refine eS fun K50 hn50 hr50 he50 => ?_
                  refine eS fun K51 hn51 hr51 he51 => ?_
                  refine eO fun K52 hk52 => ?_
                  refine tZ F4 ?_
                  refine hk52 _ ?_
                  refine hn51 (some ([1, 2, 3, 7, 11, 12, 16, 17, 90], none)) _ ?_
                  refine eCf ?_
                  refine he50 6 _ ?_
                  refine he49 6 _ ?_
                  refine hx48 _ ?_
                  refine hn45 (some ([1, 2, 3, 7, 11, 12, 16], none)) _ ?_
                  refine eS fun K53 hn53 hr53 he53 => ?_
                  refine eS fun K54 hn54 hr54 he54 => ?_
                  refine eO fun K55 hk55 => ?_
                  refine tC 1 F4 ?_
                  refine tS 1 F4 ?_
                  refine Or.inl (Or.inl ⟨_, k5m, ?_⟩)
                  refine tC 4 F4 ?_
                  refine tC 2 F4 ?_
                  refine tL F4 ?_
                  refine hk55 _ ?_
                  refine hn54 (some ([1, 2, 3, 7, 11, 12, 16, 107], none)) _ ?_
                  refine eCf ?_
                  refine hn53 (some ([1, 2, 3, 7, 11, 12, 16], none)) _ ?_
                  refine eS fun K56 hn56 hr56 he56 => ?_
                  refine eO fun K57 hk57 => ?_
                  refine tC 1 F4 ?_
                  refine tS 1 F4 ?_
                  refine Or.inl (Or.inl ⟨_, k6m, ?_⟩)
                  refine tL F4 ?_
                  refine hk57 _ ?_
                  refine hn56 (some ([1, 2, 3, 7, 11, 12, 16, 18], none)) _ ?_
                  refine eS fun K58 hn58 hr58 he58 => ?_
                  refine eS fun K59 hn59 hr59 he59 => ?_
                  refine eO fun K60 hk60 => ?_
                  refine tL F4 ?_
                  refine hk60 _ ?_
                  refine hn59 (some ([1, 2, 3, 7, 11, 12, 16, 18, 111], none)) _ ?_
                  refine eB fun K61 hn61 hx61 hr61 he61 => ?_
                  refine eW (AcInv4 f a b c ps 1 f a b c j 4 (max (max (max f a) b) c)) (3) (some ([1, 2, 3, 7, 11, 12, 16, 18, 111], some ([0, 1], 2))) ([]) ?_ ?_
                  · try refine lp0 ?_
                    exact ⟨0, by omega, by omega, by rw [if_neg (by omega)]; rfl⟩
                  · intro k S1 hI
                    obtain ⟨u, hu', rfl, rfl⟩ := hI
                    have hcase4 : u = 3 ∨ (u < 3 ∧ u = k) ∨ (u < 3 ∧ u ≠ k) := by omega
                    intro K62 hn62 hr62 he62
                    rcases hcase4 with hcf | ⟨hcf, huk⟩ | ⟨hcf, huk⟩
                    · skip
                      have x2 : ¬ (u : Int) < 3 := by omega
                      subst hcf
                      have x3 : (if k < 3 then (1 : Int) else 0) = 1 := if_pos hk3
                      have x4 : (if 4 < 3 then (1 : Int) else 0) = 0 := if_neg (by omega)
                      have F5 := And.intro F4 (And.intro @x2 (And.intro @x3 @x4))
                      refine eS fun K63 hn63 hr63 he63 => ?_
                      refine eO fun K64 hk64 => ?_
                      refine tZ F5 ?_
                      refine hk64 _ ?_
                      refine hn63 (some ([1, 2, 3, 7, 11, 12, 16, 18, 111, 112], none)) _ ?_
                      refine eS fun K65 hn65 hr65 he65 => ?_
                      refine eCf ?_
                      refine he65 8 _ ?_
                      refine he62 8 _ ?_
                      refine hx61 _ ?_
                      refine hn58 (some ([1, 2, 3, 7, 16, 18], none)) _ ?_
                      refine eS fun K66 hn66 hr66 he66 => ?_
                      refine eO fun K67 hk67 => ?_
                      refine tC 2 F5 ?_
                      refine tC 3 F5 ?_
                      refine tC 4 F5 ?_
                      refine tC 4 F5 ?_
                      refine tC 1 F5 ?_
                      refine tC 1 F5 ?_
                      refine tC 1 F5 ?_
                      refine tC 1 F5 ?_
                      refine tC 1 F5 ?_
                      refine tS 1 F5 ?_
                      refine ⟨_, gen_max4, ?_⟩
                      refine tC 1 F5 ?_
                      refine tL F5 ?_
                      refine hk67 _ ?_
                      refine hn66 (some ([1, 2, 3, 7, 186], none)) _ ?_
                      refine eCf ?_
                      refine hn15 _ ?_
                      refine hn14 (some ([1, 2, 3, 7], none)) _ ?_
                      refine eO fun K68 hk68 => ?_
                      refine tC 2 F5 ?_
                      refine tL F5 ?_
                      refine hk68 _ ?_
                      refine hn10 (1) (some ([1, 2, 3, 7], some ([0], 1))) _ ?_ ?_
                      all_goals try refine lp0 ?_
                      · omega
                      · exact ⟨3, .inr (.inl ⟨rfl, rfl⟩), by rfl⟩
                    · skip
                      have x2 : (u : Int) < 3 := by omega
                      have x3 : IntKind.i64.wrap ((u : Int) + 1) = ((u + 1 : Nat) : Int) := by rw [IntKind.wrap_i64]; omega
                      obtain ⟨ym, sm, tm1, tm2, tm3⟩ := tm u hcf
                      obtain ⟨yc, sc, tc1, tc2, tc3⟩ := tc u hcf
                      have cm : eCode atm ym.code = .ifc 141 (.agg (cAtm sm)) := by rw [tm2]; rfl
                      have cc : eCode atm yc.code = .ifc 141 (.agg (cAtm sc)) := by rw [tc2]; rfl
                      have k7m := ok_kCode ym
                      have k7c := ok_kCode yc
                      rw [cm] at k7m
                      rw [cc] at k7c
                      have k8m := ok_aAnswer sm
                      have k8c := ok_aAnswer sc
                      rw [if_pos tm3, tm3] at k8m
                      rw [if_pos tc3, tc3, (hans u yc sc tc1 tc2 tc3).1 huk] at k8c
                      have x4 : u < (clV 1 f a b c ps j).tasks.length := by omega
                      have x5 : u < (clV 3 0 a' b' c' ps j).tasks.length := by omega
                      have x6 : (if k < u then (1 : Int) else 0) = 0 := if_neg (by omega)
                      have x7 : (if 4 < u then (1 : Int) else 0) = 0 := if_neg (by omega)
                      have x8 : (if 4 < u + 1 then (1 : Int) else 0) = 0 := if_neg (by omega)
                      have x9 : (if k < u + 1 then (1 : Int) else 0) = 1 := if_pos (by omega)
                      have hkl : (opsC 3 a' b' c')[u]? = some [sI 3, sI 0, sI o.n] := by
                        rw [huk]
                        rcases three_cases hko with ⟨e, rfl⟩ | ⟨e, rfl⟩ | ⟨e, rfl⟩ <;> rw [e] <;> rfl
                      have F6 := And.intro F4 (And.intro @x2 (And.intro @x3 (And.intro @lm' (And.intro @lc' (And.intro @tm1 (And.intro @tc1 (And.intro @x4 (And.intro @x5 (And.intro @x6 (And.intro @x7 @hkl))))))))))
                      refine eS fun K69 hn69 hr69 he69 => ?_
                      refine eO fun K70 hk70 => ?_
                      refine tZ F6 ?_
                      refine hk70 _ ?_
                      refine hn69 (some ([1, 2, 3, 7, 11, 12, 16, 18, 111, 112], none)) _ ?_
                      refine eS fun K71 hn71 hr71 he71 => ?_
                      refine eCt ?_
                      refine hn71 (some ([1, 2, 3, 7, 11, 12, 16, 18, 111], none)) _ ?_
                      refine eS fun K72 hn72 hr72 he72 => ?_
                      refine eB fun K73 hn73 hx73 hr73 he73 => ?_
                      refine eS fun K74 hn74 hr74 he74 => ?_
                      refine eO fun K75 hk75 => ?_
                      refine tL F6 ?_
                      refine hk75 _ ?_
                      refine hn74 (some ([1, 2, 3, 7, 11, 12, 16, 18, 19, 111], none)) _ ?_
                      refine eS fun K76 hn76 hr76 he76 => ?_
                      refine eO fun K77 hk77 => ?_
                      refine tC 2 F6 ?_
                      refine tC 2 F6 ?_
                      refine tC 1 F6 ?_
                      refine tS 1 F6 ?_
                      refine Or.inl (Or.inl ⟨_, k7m, ?_⟩)
                      refine tS 1 F6 ?_
                      refine Or.inl (Or.inl ⟨_, k8m, ?_⟩)
                      refine tL F6 ?_
                      refine hk77 _ ?_
                      refine hn76 (some ([1, 2, 3, 7, 11, 12, 16, 18, 19, 20, 21, 111], none)) _ ?_
                      refine eS fun K78 hn78 hr78 he78 => ?_
                      refine eS fun K79 hn79 hr79 he79 => ?_
                      refine eO fun K80 hk80 => ?_
                      refine tC 5 F6 ?_
                      refine tC 3 F6 ?_
                      refine tC 5 F6 ?_
                      refine tC 5 F6 ?_
                      refine tC 3 F6 ?_
                      refine tC 6 F6 ?_
                      refine tC 2 F6 ?_
                      refine tC 1 F6 ?_
                      refine tL F6 ?_
                      refine hk80 _ ?_
                      refine hn79 (some ([1, 2, 3, 7, 11, 12, 16, 18, 20, 111, 155], none)) _ ?_
                      refine eCf ?_
                      refine hn78 (some ([1, 2, 3, 7, 11, 12, 16, 18, 20, 111], none)) _ ?_
                      refine eS fun K81 hn81 hr81 he81 => ?_
                      refine eO fun K82 hk82 => ?_
                      refine tC 2 F6 ?_
                      refine tC 3 F6 ?_
                      refine tL F6 ?_
                      refine hk82 _ ?_
                      refine hn81 (some ([1, 2, 3, 7, 11, 12, 16, 18, 111, 161], none)) _ ?_
                      refine eCf ?_
                      refine hn73 _ ?_
                      refine hn72 (some ([1, 2, 3, 7, 11, 12, 16, 18, 111], none)) _ ?_
                      refine eO fun K83 hk83 => ?_
                      refine tC 1 F6 ?_
                      refine tL F6 ?_
                      refine hk83 _ ?_
                      refine hn62 (3 - (u + 1)) (some ([1, 2, 3, 7, 11, 12, 16, 18, 111], some ([0, 1], 2))) _ ?_ ?_
                      all_goals try refine lp0 ?_
                      · omega
                      · exact ⟨u + 1, by omega, by omega, by first | (rw [x8]; done) | (rw [x9]; done) | (rw [x8]; rfl) | (rw [x9]; rfl)⟩
                    · skip
                      have x2 : (u : Int) < 3 := by omega
                      have x3 : IntKind.i64.wrap ((u : Int) + 1) = ((u + 1 : Nat) : Int) := by rw [IntKind.wrap_i64]; omega
                      obtain ⟨ym, sm, tm1, tm2, tm3⟩ := tm u hcf
                      obtain ⟨yc, sc, tc1, tc2, tc3⟩ := tc u hcf
                      have cm : eCode atm ym.code = .ifc 141 (.agg (cAtm sm)) := by rw [tm2]; rfl
                      have cc : eCode atm yc.code = .ifc 141 (.agg (cAtm sc)) := by rw [tc2]; rfl
                      have k7m := ok_kCode ym
                      have k7c := ok_kCode yc
                      rw [cm] at k7m
                      rw [cc] at k7c
                      have k8m := ok_aAnswer sm
                      have k8c := ok_aAnswer sc
                      rw [if_pos tm3, tm3] at k8m
                      rw [if_pos tc3, tc3, (hans u yc sc tc1 tc2 tc3).2 huk] at k8c
                      have x4 : u < (clV 1 f a b c ps j).tasks.length := by omega
                      have x5 : u < (clV 3 0 a' b' c' ps j).tasks.length := by omega
                      have x6 : (if k < u then (1 : Int) else 0) = if k < u + 1 then 1 else 0 := by
                        by_cases h : k < u
                        · rw [if_pos h, if_pos (by omega)]
                        · rw [if_neg h, if_neg (by omega)]
                      have x7 : (if 4 < u then (1 : Int) else 0) = 0 := if_neg (by omega)
                      have x8 : (if 4 < u + 1 then (1 : Int) else 0) = 0 := if_neg (by omega)
                      have xo1 : (o.n != 0) = true := by simpa using hon
                      have xo2 : (o.n == 0) = false := by simpa using hon
                      have F7 := And.intro F4 (And.intro @x2 (And.intro @x3 (And.intro @lm' (And.intro @lc' (And.intro @tm1 (And.intro @tc1 (And.intro @x4 (And.intro @x5 (And.intro @x7 (And.intro @xo1 @xo2))))))))))
                      refine eS fun K84 hn84 hr84 he84 => ?_
                      refine eO fun K85 hk85 => ?_
                      refine tZ F7 ?_
                      refine hk85 _ ?_
                      refine hn84 (some ([1, 2, 3, 7, 11, 12, 16, 18, 111, 112], none)) _ ?_
                      refine eS fun K86 hn86 hr86 he86 => ?_
                      refine eCt ?_
                      refine hn86 (some ([1, 2, 3, 7, 11, 12, 16, 18, 111], none)) _ ?_
                      refine eS fun K87 hn87 hr87 he87 => ?_
                      refine eB fun K88 hn88 hx88 hr88 he88 => ?_
                      refine eS fun K89 hn89 hr89 he89 => ?_
                      refine eO fun K90 hk90 => ?_
                      refine tL F7 ?_
                      refine hk90 _ ?_
                      refine hn89 (some ([1, 2, 3, 7, 11, 12, 16, 18, 19, 111], none)) _ ?_
                      refine eS fun K91 hn91 hr91 he91 => ?_
                      refine eO fun K92 hk92 => ?_
                      refine tC 2 F7 ?_
                      refine tC 2 F7 ?_
                      refine tC 1 F7 ?_
                      refine tS 1 F7 ?_
                      refine Or.inl (Or.inl ⟨_, k7m, ?_⟩)
                      refine tS 1 F7 ?_
                      refine Or.inl (Or.inl ⟨_, k8m, ?_⟩)
                      refine tL F7 ?_
                      refine hk92 _ ?_
                      refine hn91 (some ([1, 2, 3, 7, 11, 12, 16, 18, 19, 20, 21, 111], none)) _ ?_
                      refine eS fun K93 hn93 hr93 he93 => ?_
                      refine eS fun K94 hn94 hr94 he94 => ?_
                      refine eO fun K95 hk95 => ?_
                      refine tC 5 F7 ?_
                      refine tC 3 F7 ?_
                      refine tC 5 F7 ?_
                      refine tC 5 F7 ?_
                      refine tC 3 F7 ?_
                      refine tC 6 F7 ?_
                      refine tC 2 F7 ?_
                      refine tC 1 F7 ?_
                      refine tL F7 ?_
                      refine hk95 _ ?_
                      refine hn94 (some ([1, 2, 3, 7, 11, 12, 16, 18, 20, 111, 155], none)) _ ?_
                      refine eCf ?_
                      refine hn93 (some ([1, 2, 3, 7, 11, 12, 16, 18, 20, 111], none)) _ ?_
                      refine eS fun K96 hn96 hr96 he96 => ?_
                      refine eO fun K97 hk97 => ?_
                      refine tC 2 F7 ?_
                      refine tC 3 F7 ?_
                      refine tL F7 ?_
                      refine hk97 _ ?_
                      refine hn96 (some ([1, 2, 3, 7, 11, 12, 16, 18, 111, 161], none)) _ ?_
                      refine eCf ?_
                      refine hn88 _ ?_
                      refine hn87 (some ([1, 2, 3, 7, 11, 12, 16, 18, 111], none)) _ ?_
                      refine eO fun K98 hk98 => ?_
                      refine tC 1 F7 ?_
                      refine tL F7 ?_
                      refine hk98 _ ?_
                      refine hn62 (3 - (u + 1)) (some ([1, 2, 3, 7, 11, 12, 16, 18, 111], some ([0, 1], 2))) _ ?_ ?_
                      all_goals try refine lp0 ?_
                      · omega
                      · exact ⟨u + 1, by omega, by omega, by first | (rw [x8]; done) | (rw [← x6]; done) | (rw [x8]; rfl) | (rw [← x6]; rfl)⟩
                · skip
                  have y2 : ((t + 1 : Nat) : Int) ≤ 3 := by omega
                  have y3 : IntKind.i64.wrap (((t + 1 : Nat) : Int) + 1) = ((t + 1 + 1 : Nat) : Int) := by rw [IntKind.wrap_i64]; omega
                  have k4 : ∀ (K f a b c : Int), AtJ (clL K a b c) (clW K f a b c) 0 → ∃ bb, Ok 33 [eWorld (aloneN (runI (clW K f a b c) isStep ps j) 10 t), sI ((t + 1 : Nat) : Int), sI 10] (.tup [eWorld (aloneN (runI (clW K f a b c) isStep ps j) 10 (t + 1)), sB bb]) := fun K f a b c hJ => by
                    have hJn := atJ_alone (cl_done hJ ps j).1 (N := 10) (by decide) t (by show t ≤ 3; omega)
                    have k4 := ok_kAlone (aloneN (runI (clW K f a b c) isStep ps j) 10 t) ((t + 1 : Nat) : Int) 10 (hOn K f a b c t) (by show 2 + j + t * 10 + 10 ≤ 900; omega)
                    have hal := alone_eq (w := aloneN (runI (clW K f a b c) isStep ps j) 10 t) (m := t) (by rw [hJn.at'.len]; show t < 3; omega) (hJn.go t) 10
                    rw [show ((t + 1 : Nat) : Int) = (t : Int) + 1 by omega] at k4 ⊢
                    rw [show (10 : Int) = ((10 : Nat) : Int) from rfl, hal] at k4
                    exact ⟨_, k4⟩
                  obtain ⟨bm, km⟩ := k4 1 f a b c hJ1
                  obtain ⟨bc, kc⟩ := k4 3 0 a' b' c' hJ3
                  have F8 := And.intro F3 (And.intro @y2 @y3)
                  refine eS fun K99 hn99 hr99 he99 => ?_
                  refine eS fun K100 hn100 hr100 he100 => ?_
                  refine eO fun K101 hk101 => ?_
                  refine tZ F8 ?_
                  refine hk101 _ ?_
                  refine hn100 (some ([1, 2, 3, 7, 11, 12, 16, 17, 90], none)) _ ?_
                  refine eCt ?_
                  refine hn99 (some ([1, 2, 3, 7, 11, 12, 16, 17], none)) _ ?_
                  refine eS fun K102 hn102 hr102 he102 => ?_
                  refine eB fun K103 hn103 hx103 hr103 he103 => ?_
                  refine eO fun K104 hk104 => ?_
                  refine tC 1 F8 ?_
                  refine tS 1 F8 ?_
                  refine tS 1 F8 ?_
                  refine Or.inl (Or.inl ⟨_, km, ?_⟩)
                  refine tZ F8 ?_
                  refine hk104 _ ?_
                  refine hn103 _ ?_
                  refine hn102 (some ([1, 2, 3, 7, 11, 12, 16, 17], none)) _ ?_
                  refine eO fun K105 hk105 => ?_
                  refine tC 2 F8 ?_
                  refine tL F8 ?_
                  refine hk105 _ ?_
                  refine hn49 (3 - (t + 1)) (some ([1, 2, 3, 7, 11, 12, 16, 17], some ([0, 1], 2))) _ ?_ ?_
                  all_goals try refine lp0 ?_
                  · omega
                  · exact ⟨t + 1, by omega, by omega, rfl⟩
            · skip
              have hlt := (List.getElem?_eq_some_iff.1 hp).1
              have z2 : (j : Int) < (ps.length : Int) := by omega
              have z3 : IntKind.i64.wrap ((j : Int) + 1) = ((j + 1 : Nat) : Int) := by rw [IntKind.wrap_i64]; omega
              have z4 : (p.kind == 0) = true := by simpa using hpk
              have k3 := fun K f a b c => ok_kStep (runI (clW K f a b c) isStep ps j) p (hO K f a b c j) (by omega)
              have hn := fun (K f a b c : Int) => hsucc (K := K) (f := f) (a := a) (b := b) (c := c) hp
              have F9 := And.intro F2 (And.intro @z2 (And.intro @z3 (And.intro @z4 @hp)))
              refine eS fun K106 hn106 hr106 he106 => ?_
              refine eO fun K107 hk107 => ?_
              refine tZ F9 ?_
              refine hk107 _ ?_
              refine hn106 (some ([1, 2, 3, 7, 11, 12, 73, 74, 75, 76], none)) _ ?_
              refine eS fun K108 hn108 hr108 he108 => ?_
              refine eCt ?_
              refine hn108 (some ([1, 2, 3, 7, 11, 12, 73, 74, 75], none)) _ ?_
              refine eS fun K109 hn109 hr109 he109 => ?_
              refine eB fun K110 hn110 hx110 hr110 he110 => ?_
              refine eS fun K111 hn111 hr111 he111 => ?_
              refine eO fun K112 hk112 => ?_
              refine tC 1 F9 ?_
              refine tC 1 F9 ?_
              refine tZ F9 ?_
              refine hk112 _ ?_
              refine hn111 (some ([1, 2, 3, 7, 11, 12, 15, 73, 74, 75], none)) _ ?_
              refine eS fun K113 hn113 hr113 he113 => ?_
              refine eO fun K114 hk114 => ?_
              refine tC 2 F9 ?_
              refine tZ F9 ?_
              refine hk114 _ ?_
              refine hn113 (some ([1, 2, 3, 7, 11, 12, 15, 73, 74, 75, 81], none)) _ ?_
              refine eCt ?_
              refine eO fun K115 hk115 => ?_
              refine tC 1 F9 ?_
              refine tC 1 F9 ?_
              refine tS 1 F9 ?_
              refine Or.inl (Or.inl ⟨_, k3 1 f a b c, ?_⟩)
              refine tZ F9 ?_
              refine hk115 _ ?_
              refine hn110 _ ?_
              refine hn109 (some ([1, 2, 3, 7, 11, 12, 73, 74, 75], none)) _ ?_
              refine eO fun K116 hk116 => ?_
              refine tC 1 F9 ?_
              refine tL F9 ?_
              refine hk116 _ ?_
              refine hn39 (ps.length - (j + 1)) (some ([1, 2, 3, 7, 11, 12, 73, 74, 75], some ([0, 1], 2))) _ ?_ ?_
              all_goals try refine lp0 ?_
              · omega
              · exact ⟨j + 1, by omega, by omega, by rw [hn, if_pos (show isStep p = true from z4)]⟩
            · skip
              have hlt := (List.getElem?_eq_some_iff.1 hp).1
              have z2 : (j : Int) < (ps.length : Int) := by omega
              have z3 : IntKind.i64.wrap ((j : Int) + 1) = ((j + 1 : Nat) : Int) := by rw [IntKind.wrap_i64]; omega
              have z4 : (p.kind == 0) = false := by simpa using hpk
              have hn := fun (K f a b c : Int) => hsucc (K := K) (f := f) (a := a) (b := b) (c := c) hp
              have F10 := And.intro F2 (And.intro @z2 (And.intro @z3 (And.intro @z4 @hp)))
              refine eS fun K117 hn117 hr117 he117 => ?_
              refine eO fun K118 hk118 => ?_
              refine tZ F10 ?_
              refine hk118 _ ?_
              refine hn117 (some ([1, 2, 3, 7, 11, 12, 73, 74, 75, 76], none)) _ ?_
              refine eS fun K119 hn119 hr119 he119 => ?_
              refine eCt ?_
              refine hn119 (some ([1, 2, 3, 7, 11, 12, 73, 74, 75], none)) _ ?_
              refine eS fun K120 hn120 hr120 he120 => ?_
              refine eB fun K121 hn121 hx121 hr121 he121 => ?_
              refine eS fun K122 hn122 hr122 he122 => ?_
              refine eO fun K123 hk123 => ?_
              refine tC 1 F10 ?_
              refine tC 1 F10 ?_
              refine tZ F10 ?_
              refine hk123 _ ?_
              refine hn122 (some ([1, 2, 3, 7, 11, 12, 15, 73, 74, 75], none)) _ ?_
              refine eS fun K124 hn124 hr124 he124 => ?_
              refine eO fun K125 hk125 => ?_
              refine tC 2 F10 ?_
              refine tZ F10 ?_
              refine hk125 _ ?_
              refine hn124 (some ([1, 2, 3, 7, 11, 12, 15, 73, 74, 75, 81], none)) _ ?_
              refine eCf ?_
              refine hn121 _ ?_
              refine hn120 (some ([1, 2, 3, 7, 11, 12, 73, 74, 75], none)) _ ?_
              refine eO fun K126 hk126 => ?_
              refine tC 1 F10 ?_
              refine tL F10 ?_
              refine hk126 _ ?_
              refine hn39 (ps.length - (j + 1)) (some ([1, 2, 3, 7, 11, 12, 73, 74, 75], some ([0, 1], 2))) _ ?_ ?_
              all_goals try refine lp0 ?_
              · omega
              · exact ⟨j + 1, by omega, by omega, by rw [hn, if_neg (show ¬ isStep p = true by unfold isStep; rw [z4]; simp)]⟩
        · skip
          have w2 : (i : Int) < 3 := by omega
          have w3 : IntKind.i64.wrap ((i : Int) + 1) = ((i + 1 : Nat) : Int) := by rw [IntKind.wrap_i64]; omega
          obtain ⟨x, hx0, hx1, hx2, hx3, hx4⟩ := hnx i hcc
          have w5 : (i + 1) * 24 ≤ 140737488355328 := by omega
          have w6 := bit_low x
          have w7 : IntKind.i64.wrap (3 * (x % 1024)) = 3 * (x % 1024) := by rw [IntKind.wrap_i64]; omega
          have w8 : IntKind.i64.wrap (3 * (x % 1024) + (i : Int)) = 3 * (x % 1024) + i := by rw [IntKind.wrap_i64]; omega
          have w9 : IntKind.i64.wrap (3 * (x % 1024) + (i : Int) + 1) = 3 * (x % 1024) + i + 1 := by rw [IntKind.wrap_i64]; omega
          have F11 := And.intro F1 (And.intro @w2 (And.intro @w3 (And.intro @hx3 (And.intro @hx4 (And.intro @w5 (And.intro @w6 (And.intro @w7 (And.intro @w8 @w9))))))))
          refine eS fun K127 hn127 hr127 he127 => ?_
          refine eO fun K128 hk128 => ?_
          refine tZ F11 ?_
          refine hk128 _ ?_
          refine hn127 (some ([1, 2, 3, 7, 8, 38, 39, 40], none)) _ ?_
          refine eS fun K129 hn129 hr129 he129 => ?_
          refine eCt ?_
          refine hn129 (some ([1, 2, 3, 7, 8, 38, 39], none)) _ ?_
          refine eS fun K130 hn130 hr130 he130 => ?_
          refine eB fun K131 hn131 hx131 hr131 he131 => ?_
          refine eS fun K132 hn132 hr132 he132 => ?_
          refine eO fun K133 hk133 => ?_
          refine tS 1 F11 ?_
          refine tS 1 F11 ?_
          refine ⟨_, gen_index1 (n := (i : Int)) Try.underlying119 hiF hsF ki (by omega) (by omega) (by rw [Int.toNat_natCast]; exact hx0), ?_⟩
          refine tL F11 ?_
          refine hk133 _ ?_
          refine hn132 (some ([1, 2, 3, 7, 8, 9, 10, 38, 39], none)) _ ?_
          refine eS fun K134 hn134 hr134 he134 => ?_
          refine eS fun K135 hn135 hr135 he135 => ?_
          refine eO fun K136 hk136 => ?_
          refine tZ F11 ?_
          refine hk136 _ ?_
          refine hn135 (some ([1, 2, 3, 7, 8, 9, 10, 38, 39, 44], none)) _ ?_
          refine eCf ?_
          refine hn134 (some ([1, 2, 3, 7, 8, 10, 38, 39], none)) _ ?_
          refine eO fun K137 hk137 => ?_
          refine tC 2 F11 ?_
          refine tC 4 F11 ?_
          refine tC 1 F11 ?_
          refine tZ F11 ?_
          refine hk137 _ ?_
          refine hn131 _ ?_
          refine hn130 (some ([1, 2, 3, 7, 8, 38, 39], none)) _ ?_
          refine eO fun K138 hk138 => ?_
          refine tC 1 F11 ?_
          refine tL F11 ?_
          refine hk138 _ ?_
          refine hn26 (3 - (i + 1)) (some ([1, 2, 3, 7, 8, 38, 39], some ([0, 1, 3], 3))) _ ?_ ?_
          all_goals try refine lp0 ?_
          · omega
          · exact ⟨i + 1, by omega, by omega, by rw [hx1]⟩
    · skip
      refine eS fun K139 hn139 hr139 he139 => ?_
      refine eS fun K140 hn140 hr140 he140 => ?_
      refine eO fun K141 hk141 => ?_
      refine tZ F1 ?_
      refine hk141 _ ?_
      refine hn140 (some ([1, 2, 3, 7, 27], none)) _ ?_
      refine eCt ?_
      refine hn139 (some ([1, 2, 3, 7], none)) _ ?_
      refine eS fun K142 hn142 hr142 he142 => ?_
      refine eB fun K143 hn143 hx143 hr143 he143 => ?_
      refine eS fun K144 hn144 hr144 he144 => ?_
      refine eO fun K145 hk145 => ?_
      refine tZ F1 ?_
      refine hk145 _ ?_
      refine hn144 (some ([1, 2, 3, 7, 8], none)) _ ?_
      refine eS fun K146 hn146 hr146 he146 => ?_
      refine eS fun K147 hn147 hr147 he147 => ?_
      refine eO fun K148 hk148 => ?_
      refine tZ F1 ?_
      refine hk148 _ ?_
      refine hn147 (some ([1, 2, 3, 7, 8, 33], none)) _ ?_
      refine eCf ?_
      refine hn146 (some ([1, 2, 3, 7, 8], none)) _ ?_
      refine eS fun K149 hn149 hr149 he149 => ?_
      refine eS fun K150 hn150 hr150 he150 => ?_
      refine eO fun K151 hk151 => ?_
      refine tC 1 F1 ?_
      refine tL F1 ?_
      refine hk151 _ ?_
      refine hn150 (some ([1, 2, 3, 7, 8, 38, 39], none)) _ ?_
      refine eB fun K152 hn152 hx152 hr152 he152 => ?_
      refine eW (AcInv1 f a b c ps 3 0 a' b' c') (3) (some ([1, 2, 3, 7, 8, 38, 39], some ([0, 1, 2], 3))) ([.cell 1 6 (some 99) 3]) ?_ ?_
      · try refine lp0 ?_
        exact ⟨0, by omega, by omega, by rfl⟩
      · intro k S1 hI
        obtain ⟨i, hi', rfl, rfl⟩ := hI
        have hcase1 : i = 3 ∨ i < 3 := by omega
        intro K153 hn153 hr153 he153
        rcases hcase1 with hcc | hcc
        · skip
          have w2 : ¬ (i : Int) < 3 := by omega
          subst hcc
          have F12 := And.intro F1 @w2
          refine eS fun K154 hn154 hr154 he154 => ?_
          refine eO fun K155 hk155 => ?_
          refine tZ F12 ?_
          refine hk155 _ ?_
          refine hn154 (some ([1, 2, 3, 7, 8, 38, 39, 40], none)) _ ?_
          refine eS fun K156 hn156 hr156 he156 => ?_
          refine eCf ?_
          refine he156 2 _ ?_
          refine he153 2 _ ?_
          refine hx152 _ ?_
          refine hn149 (some ([1, 2, 3, 7, 8], none)) _ ?_
          refine eS fun K157 hn157 hr157 he157 => ?_
          refine eO fun K158 hk158 => ?_
          refine tC 1 F12 ?_
          refine tS 1 F12 ?_
          refine Or.inl (Or.inl ⟨_, b3, ?_⟩)
          refine tC 6 F12 ?_
          refine tL F12 ?_
          refine hk158 _ ?_
          refine hn157 (some ([1, 2, 3, 7, 11, 12, 13], none)) _ ?_
          refine eS fun K159 hn159 hr159 he159 => ?_
          refine eS fun K160 hn160 hr160 he160 => ?_
          refine eO fun K161 hk161 => ?_
          refine tC 6 F12 ?_
          refine tL F12 ?_
          refine hk161 _ ?_
          refine hn160 (some ([1, 2, 3, 7, 11, 12, 72], none)) _ ?_
          refine eCf ?_
          refine hn159 (some ([1, 2, 3, 7, 11, 12], none)) _ ?_
          refine eS fun K162 hn162 hr162 he162 => ?_
          refine eS fun K163 hn163 hr163 he163 => ?_
          refine eO fun K164 hk164 => ?_
          refine tL F12 ?_
          refine hk164 _ ?_
          refine hn163 (some ([1, 2, 3, 7, 11, 12, 73, 74, 75], none)) _ ?_
          refine eB fun K165 hn165 hx165 hr165 he165 => ?_
          refine eW (AcInv2 f a b c ps 3 0 a' b' c') (ps.length) (some ([1, 2, 3, 7, 11, 12, 73, 74, 75], some ([0, 3], 2))) ([]) ?_ ?_
          · try refine lp0 ?_
            exact ⟨0, by omega, by omega, by rfl⟩
          · intro k S1 hI
            obtain ⟨j, hj', rfl, rfl⟩ := hI
            have hcase2 : j = ps.length ∨ (∃ p, ps[j]? = some p ∧ p.kind = 0) ∨ (∃ p, ps[j]? = some p ∧ ¬ p.kind = 0) := by
              rcases Nat.lt_or_ge j ps.length with h | h
              · by_cases h2 : (ps[j]).kind = 0
                · exact .inr (.inl ⟨_, List.getElem?_eq_getElem h, h2⟩)
                · exact .inr (.inr ⟨_, List.getElem?_eq_getElem h, h2⟩)
              · exact .inl (by omega)
            intro K166 hn166 hr166 he166
            rcases hcase2 with hcd | ⟨p, hp, hpk⟩ | ⟨p, hp, hpk⟩
            · skip
              have z2 : ¬ (j : Int) < (ps.length : Int) := by omega
              have hOn := fun K f a b c k => aloneN_ok (hO K f a b c j) 10 k
              have F13 := And.intro F12 @z2
              refine eS fun K167 hn167 hr167 he167 => ?_
              refine eO fun K168 hk168 => ?_
              refine tZ F13 ?_
              refine hk168 _ ?_
              refine hn167 (some ([1, 2, 3, 7, 11, 12, 73, 74, 75, 76], none)) _ ?_
              refine eS fun K169 hn169 hr169 he169 => ?_
              refine eCf ?_
              refine he169 4 _ ?_
              refine he166 4 _ ?_
              refine hx165 _ ?_
              refine hn162 (some ([1, 2, 3, 7, 11, 12], none)) _ ?_
              refine eS fun K170 hn170 hr170 he170 => ?_
              refine eO fun K171 hk171 => ?_
              refine tL F13 ?_
              refine hk171 _ ?_
              refine hn170 (some ([1, 2, 3, 7, 11, 12, 16], none)) _ ?_
              refine eS fun K172 hn172 hr172 he172 => ?_
              refine eS fun K173 hn173 hr173 he173 => ?_
              refine eO fun K174 hk174 => ?_
              refine tL F13 ?_
              refine hk174 _ ?_
              refine hn173 (some ([1, 2, 3, 7, 11, 12, 16, 17], none)) _ ?_
              refine eB fun K175 hn175 hx175 hr175 he175 => ?_
              refine eW (AcInv3 f a b c ps 3 0 a' b' c' j) (3) (some ([1, 2, 3, 7, 11, 12, 16, 17], some ([0, 1], 2))) ([]) ?_ ?_
              · try refine lp0 ?_
                exact ⟨0, by omega, by omega, by rfl⟩
              · intro k S1 hI
                obtain ⟨t, ht', rfl, rfl⟩ := hI
                have hcase3 : t = 3 ∨ t < 3 := by omega
                intro K176 hn176 hr176 he176
                rcases hcase3 with hce | hce
                · skip
                  have y2 : ¬ ((t + 1 : Nat) : Int) ≤ 3 := by omega
                  subst hce
                  obtain ⟨_, _, dm, lm, tm⟩ := cl_done hJ1 ps j
                  obtain ⟨_, _, dc, lc, tc⟩ := cl_done hJ3 ps j
                  have vm := cl_max (f := f) (a := a) (b := b) (c := c) ps j
                  obtain ⟨k, o, hk3, hko, hon, vc, hans⟩ := cl_claim na nb nc ps j
                  have k5m := ok_kWDone (clV 1 f a b c ps j) (worldOk_eight (hOn 1 f a b c 3))
                  have k5c := ok_kWDone (clV 3 0 a' b' c' ps j) (worldOk_eight (hOn 3 0 a' b' c' 3))
                  have k6m := ok_l10word (clV 1 f a b c ps j) 0 (hOn 1 f a b c 3) (by omega)
                  have k6c := ok_l10word (clV 3 0 a' b' c' ps j) 0 (hOn 3 0 a' b' c' 3) (by omega)
                  rw [dm] at k5m
                  rw [dc] at k5c
                  simp only [eWord, vm] at k6m
                  simp only [eWord, vc] at k6c
                  have lm' : ((clV 1 f a b c ps j).tasks.length : Int) = 3 := by rw [lm]; rfl
                  have lc' : ((clV 3 0 a' b' c' ps j).tasks.length : Int) = 3 := by rw [lc]; rfl
                  have F14 := And.intro F13 (And.intro @y2 (And.intro @lm' @lc'))
                  refine eS fun K177 hn177 hr177 he177 => ?_
                  refine eS fun K178 hn178 hr178 he178 => ?_
                  refine eO fun K179 hk179 => ?_
                  refine tZ F14 ?_
                  refine hk179 _ ?_
                  refine hn178 (some ([1, 2, 3, 7, 11, 12, 16, 17, 90], none)) _ ?_
                  refine eCf ?_
                  refine he177 6 _ ?_
                  refine he176 6 _ ?_
                  refine hx175 _ ?_
                  refine hn172 (some ([1, 2, 3, 7, 11, 12, 16], none)) _ ?_
                  refine eS fun K180 hn180 hr180 he180 => ?_
                  refine eS fun K181 hn181 hr181 he181 => ?_
                  refine eO fun K182 hk182 => ?_
                  refine tC 1 F14 ?_
                  refine tS 1 F14 ?_
                  refine Or.inl (Or.inl ⟨_, k5c, ?_⟩)
                  refine tC 4 F14 ?_
                  refine tC 2 F14 ?_
                  refine tL F14 ?_
                  refine hk182 _ ?_
                  refine hn181 (some ([1, 2, 3, 7, 11, 12, 16, 107], none)) _ ?_
                  refine eCf ?_
                  refine hn180 (some ([1, 2, 3, 7, 11, 12, 16], none)) _ ?_
                  refine eS fun K183 hn183 hr183 he183 => ?_
                  refine eO fun K184 hk184 => ?_
                  refine tC 1 F14 ?_
                  refine tS 1 F14 ?_
                  refine Or.inl (Or.inl ⟨_, k6c, ?_⟩)
                  refine tL F14 ?_
                  refine hk184 _ ?_
                  refine hn183 (some ([1, 2, 3, 7, 11, 12, 16, 18], none)) _ ?_
                  refine eS fun K185 hn185 hr185 he185 => ?_
                  refine eS fun K186 hn186 hr186 he186 => ?_
                  refine eO fun K187 hk187 => ?_
                  refine tL F14 ?_
                  refine hk187 _ ?_
                  refine hn186 (some ([1, 2, 3, 7, 11, 12, 16, 18, 111], none)) _ ?_
                  refine eB fun K188 hn188 hx188 hr188 he188 => ?_
                  refine eW (AcInv4 f a b c ps 3 0 a' b' c' j k o.n) (3) (some ([1, 2, 3, 7, 11, 12, 16, 18, 111], some ([0, 1], 2))) ([]) ?_ ?_
                  · try refine lp0 ?_
                    exact ⟨0, by omega, by omega, by rw [if_neg (by omega)]; rfl⟩
                  · intro k S1 hI
                    obtain ⟨u, hu', rfl, rfl⟩ := hI
                    have hcase4 : u = 3 ∨ (u < 3 ∧ u = k) ∨ (u < 3 ∧ u ≠ k) := by omega
                    intro K189 hn189 hr189 he189
                    rcases hcase4 with hcf | ⟨hcf, huk⟩ | ⟨hcf, huk⟩
                    · skip
                      have x2 : ¬ (u : Int) < 3 := by omega
                      subst hcf
                      have x3 : (if k < 3 then (1 : Int) else 0) = 1 := if_pos hk3
                      have x4 : (if 4 < 3 then (1 : Int) else 0) = 0 := if_neg (by omega)
                      have F15 := And.intro F14 (And.intro @x2 (And.intro @x3 @x4))
                      refine eS fun K190 hn190 hr190 he190 => ?_
                      refine eO fun K191 hk191 => ?_
                      refine tZ F15 ?_
                      refine hk191 _ ?_
                      refine hn190 (some ([1, 2, 3, 7, 11, 12, 16, 18, 111, 112], none)) _ ?_
                      refine eS fun K192 hn192 hr192 he192 => ?_
                      refine eCf ?_
                      refine he192 8 _ ?_
                      refine he189 8 _ ?_
                      refine hx188 _ ?_
                      refine hn185 (some ([1, 2, 3, 7, 16, 18], none)) _ ?_
                      refine eS fun K193 hn193 hr193 he193 => ?_
                      refine eO fun K194 hk194 => ?_
                      refine tC 2 F15 ?_
                      refine tC 3 F15 ?_
                      refine tC 4 F15 ?_
                      refine tC 4 F15 ?_
                      refine tC 1 F15 ?_
                      refine tC 1 F15 ?_
                      refine tC 1 F15 ?_
                      refine tC 1 F15 ?_
                      refine tC 1 F15 ?_
                      refine tS 1 F15 ?_
                      skip
                      refine tC 1 F15 ?_
                      refine tL F15 ?_
                      refine hk194 _ ?_
                      refine hn193 (some ([1, 2, 3, 7, 186], none)) _ ?_
                      refine eCf ?_
                      refine hn143 _ ?_
                      refine hn142 (some ([1, 2, 3, 7], none)) _ ?_
                      refine eO fun K195 hk195 => ?_
                      refine tC 2 F15 ?_
                      refine tL F15 ?_
                      refine hk195 _ ?_
                      refine hn10 (0) (some ([1, 2, 3, 7], some ([0], 1))) _ ?_ ?_
                      all_goals try refine lp0 ?_
                      · omega
                      · exact ⟨5, .inr (.inr ⟨rfl, rfl⟩), by rfl⟩
                    · skip
                      have x2 : (u : Int) < 3 := by omega
                      have x3 : IntKind.i64.wrap ((u : Int) + 1) = ((u + 1 : Nat) : Int) := by rw [IntKind.wrap_i64]; omega
                      obtain ⟨ym, sm, tm1, tm2, tm3⟩ := tm u hcf
                      obtain ⟨yc, sc, tc1, tc2, tc3⟩ := tc u hcf
                      have cm : eCode atm ym.code = .ifc 141 (.agg (cAtm sm)) := by rw [tm2]; rfl
                      have cc : eCode atm yc.code = .ifc 141 (.agg (cAtm sc)) := by rw [tc2]; rfl
                      have k7m := ok_kCode ym
                      have k7c := ok_kCode yc
                      rw [cm] at k7m
                      rw [cc] at k7c
                      have k8m := ok_aAnswer sm
                      have k8c := ok_aAnswer sc
                      rw [if_pos tm3, tm3] at k8m
                      rw [if_pos tc3, tc3, (hans u yc sc tc1 tc2 tc3).1 huk] at k8c
                      have x4 : u < (clV 1 f a b c ps j).tasks.length := by omega
                      have x5 : u < (clV 3 0 a' b' c' ps j).tasks.length := by omega
                      have x6 : (if k < u then (1 : Int) else 0) = 0 := if_neg (by omega)
                      have x7 : (if 4 < u then (1 : Int) else 0) = 0 := if_neg (by omega)
                      have x8 : (if 4 < u + 1 then (1 : Int) else 0) = 0 := if_neg (by omega)
                      have x9 : (if k < u + 1 then (1 : Int) else 0) = 1 := if_pos (by omega)
                      have hkl : (opsC 3 a' b' c')[u]? = some [sI 3, sI 0, sI o.n] := by
                        rw [huk]
                        rcases three_cases hko with ⟨e, rfl⟩ | ⟨e, rfl⟩ | ⟨e, rfl⟩ <;> rw [e] <;> rfl
                      have F16 := And.intro F14 (And.intro @x2 (And.intro @x3 (And.intro @lm' (And.intro @lc' (And.intro @tm1 (And.intro @tc1 (And.intro @x4 (And.intro @x5 (And.intro @x6 (And.intro @x7 @hkl))))))))))
                      refine eS fun K196 hn196 hr196 he196 => ?_
                      refine eO fun K197 hk197 => ?_
                      refine tZ F16 ?_
                      refine hk197 _ ?_
                      refine hn196 (some ([1, 2, 3, 7, 11, 12, 16, 18, 111, 112], none)) _ ?_
                      refine eS fun K198 hn198 hr198 he198 => ?_
                      refine eCt ?_
                      refine hn198 (some ([1, 2, 3, 7, 11, 12, 16, 18, 111], none)) _ ?_
                      refine eS fun K199 hn199 hr199 he199 => ?_
                      refine eB fun K200 hn200 hx200 hr200 he200 => ?_
                      refine eS fun K201 hn201 hr201 he201 => ?_
                      refine eO fun K202 hk202 => ?_
                      refine tL F16 ?_
                      refine hk202 _ ?_
                      refine hn201 (some ([1, 2, 3, 7, 11, 12, 16, 18, 19, 111], none)) _ ?_
                      refine eS fun K203 hn203 hr203 he203 => ?_
                      refine eO fun K204 hk204 => ?_
                      refine tC 2 F16 ?_
                      refine tC 2 F16 ?_
                      refine tC 1 F16 ?_
                      refine tS 1 F16 ?_
                      refine Or.inl (Or.inl ⟨_, k7c, ?_⟩)
                      refine tS 1 F16 ?_
                      refine Or.inl (Or.inl ⟨_, k8c, ?_⟩)
                      refine tL F16 ?_
                      refine hk204 _ ?_
                      refine hn203 (some ([1, 2, 3, 7, 11, 12, 16, 18, 19, 20, 21, 111], none)) _ ?_
                      refine eS fun K205 hn205 hr205 he205 => ?_
                      refine eS fun K206 hn206 hr206 he206 => ?_
                      refine eO fun K207 hk207 => ?_
                      refine tC 5 F16 ?_
                      refine tC 3 F16 ?_
                      refine tC 5 F16 ?_
                      refine tC 5 F16 ?_
                      refine tC 3 F16 ?_
                      refine tC 6 F16 ?_
                      refine tC 2 F16 ?_
                      refine tC 1 F16 ?_
                      refine tL F16 ?_
                      refine hk207 _ ?_
                      refine hn206 (some ([1, 2, 3, 7, 11, 12, 16, 18, 20, 111, 155], none)) _ ?_
                      refine eCf ?_
                      refine hn205 (some ([1, 2, 3, 7, 11, 12, 16, 18, 20, 111], none)) _ ?_
                      refine eS fun K208 hn208 hr208 he208 => ?_
                      refine eO fun K209 hk209 => ?_
                      refine tC 2 F16 ?_
                      refine tC 3 F16 ?_
                      refine tL F16 ?_
                      refine hk209 _ ?_
                      refine hn208 (some ([1, 2, 3, 7, 11, 12, 16, 18, 111, 161], none)) _ ?_
                      refine eCt ?_
                      refine eO fun K210 hk210 => ?_
                      refine tC 2 F16 ?_
                      refine tL F16 ?_
                      refine hk210 _ ?_
                      refine hn200 _ ?_
                      refine hn199 (some ([1, 2, 3, 7, 11, 12, 16, 18, 111], none)) _ ?_
                      refine eO fun K211 hk211 => ?_
                      refine tC 1 F16 ?_
                      refine tL F16 ?_
                      refine hk211 _ ?_
                      refine hn189 (3 - (u + 1)) (some ([1, 2, 3, 7, 11, 12, 16, 18, 111], some ([0, 1], 2))) _ ?_ ?_
                      all_goals try refine lp0 ?_
                      · omega
                      · exact ⟨u + 1, by omega, by omega, by first | (rw [x8]; done) | (rw [x9]; done) | (rw [x8]; rfl) | (rw [x9]; rfl)⟩
                    · skip
                      have x2 : (u : Int) < 3 := by omega
                      have x3 : IntKind.i64.wrap ((u : Int) + 1) = ((u + 1 : Nat) : Int) := by rw [IntKind.wrap_i64]; omega
                      obtain ⟨ym, sm, tm1, tm2, tm3⟩ := tm u hcf
                      obtain ⟨yc, sc, tc1, tc2, tc3⟩ := tc u hcf
                      have cm : eCode atm ym.code = .ifc 141 (.agg (cAtm sm)) := by rw [tm2]; rfl
                      have cc : eCode atm yc.code = .ifc 141 (.agg (cAtm sc)) := by rw [tc2]; rfl
                      have k7m := ok_kCode ym
                      have k7c := ok_kCode yc
                      rw [cm] at k7m
                      rw [cc] at k7c
                      have k8m := ok_aAnswer sm
                      have k8c := ok_aAnswer sc
                      rw [if_pos tm3, tm3] at k8m
                      rw [if_pos tc3, tc3, (hans u yc sc tc1 tc2 tc3).2 huk] at k8c
                      have x4 : u < (clV 1 f a b c ps j).tasks.length := by omega
                      have x5 : u < (clV 3 0 a' b' c' ps j).tasks.length := by omega
                      have x6 : (if k < u then (1 : Int) else 0) = if k < u + 1 then 1 else 0 := by
                        by_cases h : k < u
                        · rw [if_pos h, if_pos (by omega)]
                        · rw [if_neg h, if_neg (by omega)]
                      have x7 : (if 4 < u then (1 : Int) else 0) = 0 := if_neg (by omega)
                      have x8 : (if 4 < u + 1 then (1 : Int) else 0) = 0 := if_neg (by omega)
                      have xo1 : (o.n != 0) = true := by simpa using hon
                      have xo2 : (o.n == 0) = false := by simpa using hon
                      have F17 := And.intro F14 (And.intro @x2 (And.intro @x3 (And.intro @lm' (And.intro @lc' (And.intro @tm1 (And.intro @tc1 (And.intro @x4 (And.intro @x5 (And.intro @x7 (And.intro @xo1 @xo2))))))))))
                      refine eS fun K212 hn212 hr212 he212 => ?_
                      refine eO fun K213 hk213 => ?_
                      refine tZ F17 ?_
                      refine hk213 _ ?_
                      refine hn212 (some ([1, 2, 3, 7, 11, 12, 16, 18, 111, 112], none)) _ ?_
                      refine eS fun K214 hn214 hr214 he214 => ?_
                      refine eCt ?_
                      refine hn214 (some ([1, 2, 3, 7, 11, 12, 16, 18, 111], none)) _ ?_
                      refine eS fun K215 hn215 hr215 he215 => ?_
                      refine eB fun K216 hn216 hx216 hr216 he216 => ?_
                      refine eS fun K217 hn217 hr217 he217 => ?_
                      refine eO fun K218 hk218 => ?_
                      refine tL F17 ?_
                      refine hk218 _ ?_
                      refine hn217 (some ([1, 2, 3, 7, 11, 12, 16, 18, 19, 111], none)) _ ?_
                      refine eS fun K219 hn219 hr219 he219 => ?_
                      refine eO fun K220 hk220 => ?_
                      refine tC 2 F17 ?_
                      refine tC 2 F17 ?_
                      refine tC 1 F17 ?_
                      refine tS 1 F17 ?_
                      refine Or.inl (Or.inl ⟨_, k7c, ?_⟩)
                      refine tS 1 F17 ?_
                      refine Or.inl (Or.inl ⟨_, k8c, ?_⟩)
                      refine tL F17 ?_
                      refine hk220 _ ?_
                      refine hn219 (some ([1, 2, 3, 7, 11, 12, 16, 18, 19, 20, 21, 111], none)) _ ?_
                      refine eS fun K221 hn221 hr221 he221 => ?_
                      refine eS fun K222 hn222 hr222 he222 => ?_
                      refine eO fun K223 hk223 => ?_
                      refine tC 5 F17 ?_
                      refine tC 3 F17 ?_
                      refine tC 5 F17 ?_
                      refine tC 5 F17 ?_
                      refine tC 3 F17 ?_
                      refine tC 6 F17 ?_
                      refine tC 2 F17 ?_
                      refine tC 1 F17 ?_
                      refine tL F17 ?_
                      refine hk223 _ ?_
                      refine hn222 (some ([1, 2, 3, 7, 11, 12, 16, 18, 20, 111, 155], none)) _ ?_
                      refine eCf ?_
                      refine hn221 (some ([1, 2, 3, 7, 11, 12, 16, 18, 20, 111], none)) _ ?_
                      refine eS fun K224 hn224 hr224 he224 => ?_
                      refine eO fun K225 hk225 => ?_
                      refine tC 2 F17 ?_
                      refine tC 3 F17 ?_
                      refine tL F17 ?_
                      refine hk225 _ ?_
                      refine hn224 (some ([1, 2, 3, 7, 11, 12, 16, 18, 111, 161], none)) _ ?_
                      refine eCf ?_
                      refine hn216 _ ?_
                      refine hn215 (some ([1, 2, 3, 7, 11, 12, 16, 18, 111], none)) _ ?_
                      refine eO fun K226 hk226 => ?_
                      refine tC 1 F17 ?_
                      refine tL F17 ?_
                      refine hk226 _ ?_
                      refine hn189 (3 - (u + 1)) (some ([1, 2, 3, 7, 11, 12, 16, 18, 111], some ([0, 1], 2))) _ ?_ ?_
                      all_goals try refine lp0 ?_
                      · omega
                      · exact ⟨u + 1, by omega, by omega, by first | (rw [x8]; done) | (rw [← x6]; done) | (rw [x8]; rfl) | (rw [← x6]; rfl)⟩
                · skip
                  have y2 : ((t + 1 : Nat) : Int) ≤ 3 := by omega
                  have y3 : IntKind.i64.wrap (((t + 1 : Nat) : Int) + 1) = ((t + 1 + 1 : Nat) : Int) := by rw [IntKind.wrap_i64]; omega
                  have k4 : ∀ (K f a b c : Int), AtJ (clL K a b c) (clW K f a b c) 0 → ∃ bb, Ok 33 [eWorld (aloneN (runI (clW K f a b c) isStep ps j) 10 t), sI ((t + 1 : Nat) : Int), sI 10] (.tup [eWorld (aloneN (runI (clW K f a b c) isStep ps j) 10 (t + 1)), sB bb]) := fun K f a b c hJ => by
                    have hJn := atJ_alone (cl_done hJ ps j).1 (N := 10) (by decide) t (by show t ≤ 3; omega)
                    have k4 := ok_kAlone (aloneN (runI (clW K f a b c) isStep ps j) 10 t) ((t + 1 : Nat) : Int) 10 (hOn K f a b c t) (by show 2 + j + t * 10 + 10 ≤ 900; omega)
                    have hal := alone_eq (w := aloneN (runI (clW K f a b c) isStep ps j) 10 t) (m := t) (by rw [hJn.at'.len]; show t < 3; omega) (hJn.go t) 10
                    rw [show ((t + 1 : Nat) : Int) = (t : Int) + 1 by omega] at k4 ⊢
                    rw [show (10 : Int) = ((10 : Nat) : Int) from rfl, hal] at k4
                    exact ⟨_, k4⟩
                  obtain ⟨bm, km⟩ := k4 1 f a b c hJ1
                  obtain ⟨bc, kc⟩ := k4 3 0 a' b' c' hJ3
                  have F18 := And.intro F13 (And.intro @y2 @y3)
                  refine eS fun K227 hn227 hr227 he227 => ?_
                  refine eS fun K228 hn228 hr228 he228 => ?_
                  refine eO fun K229 hk229 => ?_
                  refine tZ F18 ?_
                  refine hk229 _ ?_
                  refine hn228 (some ([1, 2, 3, 7, 11, 12, 16, 17, 90], none)) _ ?_
                  refine eCt ?_
                  refine hn227 (some ([1, 2, 3, 7, 11, 12, 16, 17], none)) _ ?_
                  refine eS fun K230 hn230 hr230 he230 => ?_
                  refine eB fun K231 hn231 hx231 hr231 he231 => ?_
                  refine eO fun K232 hk232 => ?_
                  refine tC 1 F18 ?_
                  refine tS 1 F18 ?_
                  refine tS 1 F18 ?_
                  refine Or.inl (Or.inl ⟨_, kc, ?_⟩)
                  refine tZ F18 ?_
                  refine hk232 _ ?_
                  refine hn231 _ ?_
                  refine hn230 (some ([1, 2, 3, 7, 11, 12, 16, 17], none)) _ ?_
                  refine eO fun K233 hk233 => ?_
                  refine tC 2 F18 ?_
                  refine tL F18 ?_
                  refine hk233 _ ?_
                  refine hn176 (3 - (t + 1)) (some ([1, 2, 3, 7, 11, 12, 16, 17], some ([0, 1], 2))) _ ?_ ?_
                  all_goals try refine lp0 ?_
                  · omega
                  · exact ⟨t + 1, by omega, by omega, rfl⟩
            · skip
              have hlt := (List.getElem?_eq_some_iff.1 hp).1
              have z2 : (j : Int) < (ps.length : Int) := by omega
              have z3 : IntKind.i64.wrap ((j : Int) + 1) = ((j + 1 : Nat) : Int) := by rw [IntKind.wrap_i64]; omega
              have z4 : (p.kind == 0) = true := by simpa using hpk
              have k3 := fun K f a b c => ok_kStep (runI (clW K f a b c) isStep ps j) p (hO K f a b c j) (by omega)
              have hn := fun (K f a b c : Int) => hsucc (K := K) (f := f) (a := a) (b := b) (c := c) hp
              have F19 := And.intro F12 (And.intro @z2 (And.intro @z3 (And.intro @z4 @hp)))
              refine eS fun K234 hn234 hr234 he234 => ?_
              refine eO fun K235 hk235 => ?_
              refine tZ F19 ?_
              refine hk235 _ ?_
              refine hn234 (some ([1, 2, 3, 7, 11, 12, 73, 74, 75, 76], none)) _ ?_
              refine eS fun K236 hn236 hr236 he236 => ?_
              refine eCt ?_
              refine hn236 (some ([1, 2, 3, 7, 11, 12, 73, 74, 75], none)) _ ?_
              refine eS fun K237 hn237 hr237 he237 => ?_
              refine eB fun K238 hn238 hx238 hr238 he238 => ?_
              refine eS fun K239 hn239 hr239 he239 => ?_
              refine eO fun K240 hk240 => ?_
              refine tC 1 F19 ?_
              refine tC 1 F19 ?_
              refine tZ F19 ?_
              refine hk240 _ ?_
              refine hn239 (some ([1, 2, 3, 7, 11, 12, 15, 73, 74, 75], none)) _ ?_
              refine eS fun K241 hn241 hr241 he241 => ?_
              refine eO fun K242 hk242 => ?_
              refine tC 2 F19 ?_
              refine tZ F19 ?_
              refine hk242 _ ?_
              refine hn241 (some ([1, 2, 3, 7, 11, 12, 15, 73, 74, 75, 81], none)) _ ?_
              refine eCt ?_
              refine eO fun K243 hk243 => ?_
              refine tC 1 F19 ?_
              refine tC 1 F19 ?_
              refine tS 1 F19 ?_
              refine Or.inl (Or.inl ⟨_, k3 3 0 a' b' c', ?_⟩)
              refine tZ F19 ?_
              refine hk243 _ ?_
              refine hn238 _ ?_
              refine hn237 (some ([1, 2, 3, 7, 11, 12, 73, 74, 75], none)) _ ?_
              refine eO fun K244 hk244 => ?_
              refine tC 1 F19 ?_
              refine tL F19 ?_
              refine hk244 _ ?_
              refine hn166 (ps.length - (j + 1)) (some ([1, 2, 3, 7, 11, 12, 73, 74, 75], some ([0, 1], 2))) _ ?_ ?_
              all_goals try refine lp0 ?_
              · omega
              · exact ⟨j + 1, by omega, by omega, by rw [hn, if_pos (show isStep p = true from z4)]⟩
            · skip
              have hlt := (List.getElem?_eq_some_iff.1 hp).1
              have z2 : (j : Int) < (ps.length : Int) := by omega
              have z3 : IntKind.i64.wrap ((j : Int) + 1) = ((j + 1 : Nat) : Int) := by rw [IntKind.wrap_i64]; omega
              have z4 : (p.kind == 0) = false := by simpa using hpk
              have hn := fun (K f a b c : Int) => hsucc (K := K) (f := f) (a := a) (b := b) (c := c) hp
              have F20 := And.intro F12 (And.intro @z2 (And.intro @z3 (And.intro @z4 @hp)))
              refine eS fun K245 hn245 hr245 he245 => ?_
              refine eO fun K246 hk246 => ?_
              refine tZ F20 ?_
              refine hk246 _ ?_
              refine hn245 (some ([1, 2, 3, 7, 11, 12, 73, 74, 75, 76], none)) _ ?_
              refine eS fun K247 hn247 hr247 he247 => ?_
              refine eCt ?_
              refine hn247 (some ([1, 2, 3, 7, 11, 12, 73, 74, 75], none)) _ ?_
              refine eS fun K248 hn248 hr248 he248 => ?_
              refine eB fun K249 hn249 hx249 hr249 he249 => ?_
              refine eS fun K250 hn250 hr250 he250 => ?_
              refine eO fun K251 hk251 => ?_
              refine tC 1 F20 ?_
              refine tC 1 F20 ?_
              refine tZ F20 ?_
              refine hk251 _ ?_
              refine hn250 (some ([1, 2, 3, 7, 11, 12, 15, 73, 74, 75], none)) _ ?_
              refine eS fun K252 hn252 hr252 he252 => ?_
              refine eO fun K253 hk253 => ?_
              refine tC 2 F20 ?_
              refine tZ F20 ?_
              refine hk253 _ ?_
              refine hn252 (some ([1, 2, 3, 7, 11, 12, 15, 73, 74, 75, 81], none)) _ ?_
              refine eCf ?_
              refine hn249 _ ?_
              refine hn248 (some ([1, 2, 3, 7, 11, 12, 73, 74, 75], none)) _ ?_
              refine eO fun K254 hk254 => ?_
              refine tC 1 F20 ?_
              refine tL F20 ?_
              refine hk254 _ ?_
              refine hn166 (ps.length - (j + 1)) (some ([1, 2, 3, 7, 11, 12, 73, 74, 75], some ([0, 1], 2))) _ ?_ ?_
              all_goals try refine lp0 ?_
              · omega
              · exact ⟨j + 1, by omega, by omega, by rw [hn, if_neg (show ¬ isStep p = true by unfold isStep; rw [z4]; simp)]⟩
        · skip
          have w2 : (i : Int) < 3 := by omega
          have w3 : IntKind.i64.wrap ((i : Int) + 1) = ((i + 1 : Nat) : Int) := by rw [IntKind.wrap_i64]; omega
          obtain ⟨x, hx0, hx1, hx2, hx3, hx4⟩ := hnx i hcc
          have w5 : (i + 1) * 24 ≤ 140737488355328 := by omega
          have w6 := bit_low x
          have w7 : IntKind.i64.wrap (3 * (x % 1024)) = 3 * (x % 1024) := by rw [IntKind.wrap_i64]; omega
          have w8 : IntKind.i64.wrap (3 * (x % 1024) + (i : Int)) = 3 * (x % 1024) + i := by rw [IntKind.wrap_i64]; omega
          have w9 : IntKind.i64.wrap (3 * (x % 1024) + (i : Int) + 1) = 3 * (x % 1024) + i + 1 := by rw [IntKind.wrap_i64]; omega
          have F21 := And.intro F1 (And.intro @w2 (And.intro @w3 (And.intro @hx3 (And.intro @hx4 (And.intro @w5 (And.intro @w6 (And.intro @w7 (And.intro @w8 @w9))))))))
          refine eS fun K255 hn255 hr255 he255 => ?_
          refine eO fun K256 hk256 => ?_
          refine tZ F21 ?_
          refine hk256 _ ?_
          refine hn255 (some ([1, 2, 3, 7, 8, 38, 39, 40], none)) _ ?_
          refine eS fun K257 hn257 hr257 he257 => ?_
          refine eCt ?_
          refine hn257 (some ([1, 2, 3, 7, 8, 38, 39], none)) _ ?_
          refine eS fun K258 hn258 hr258 he258 => ?_
          refine eB fun K259 hn259 hx259 hr259 he259 => ?_
          refine eS fun K260 hn260 hr260 he260 => ?_
          refine eO fun K261 hk261 => ?_
          refine tS 1 F21 ?_
          refine tS 1 F21 ?_
          refine ⟨_, gen_index1 (n := (i : Int)) Try.underlying119 hiF hsF ki (by omega) (by omega) (by rw [Int.toNat_natCast]; exact hx0), ?_⟩
          refine tL F21 ?_
          refine hk261 _ ?_
          refine hn260 (some ([1, 2, 3, 7, 8, 9, 10, 38, 39], none)) _ ?_
          refine eS fun K262 hn262 hr262 he262 => ?_
          refine eS fun K263 hn263 hr263 he263 => ?_
          refine eO fun K264 hk264 => ?_
          refine tZ F21 ?_
          refine hk264 _ ?_
          refine hn263 (some ([1, 2, 3, 7, 8, 9, 10, 38, 39, 44], none)) _ ?_
          refine eCt ?_
          refine eO fun K265 hk265 => ?_
          refine tS 1 F21 ?_
          refine tS 1 F21 ?_
          refine ⟨_, gen_bits (.inl rfl), ?_⟩
          refine tC 1 F21 ?_
          refine tC 2 F21 ?_
          refine tC 1 F21 ?_
          refine tL F21 ?_
          refine hk265 _ ?_
          refine hn262 (some ([1, 2, 3, 7, 8, 10, 38, 39], none)) _ ?_
          refine eO fun K266 hk266 => ?_
          refine tC 2 F21 ?_
          refine tC 4 F21 ?_
          refine tC 1 F21 ?_
          refine tZ F21 ?_
          refine hk266 _ ?_
          refine hn259 _ ?_
          refine hn258 (some ([1, 2, 3, 7, 8, 38, 39], none)) _ ?_
          refine eO fun K267 hk267 => ?_
          refine tC 1 F21 ?_
          refine tL F21 ?_
          refine hk267 _ ?_
          refine hn153 (3 - (i + 1)) (some ([1, 2, 3, 7, 8, 38, 39], some ([0, 1, 3], 3))) _ ?_ ?_
          all_goals try refine lp0 ?_
          · omega
          · exact ⟨i + 1, by omega, by omega, by rw [hx2]⟩
    · skip
      refine eS fun K268 hn268 hr268 he268 => ?_
      refine eS fun K269 hn269 hr269 he269 => ?_
      refine eO fun K270 hk270 => ?_
      refine tZ F1 ?_
      refine hk270 _ ?_
      refine hn269 (some ([1, 2, 3, 7, 27], none)) _ ?_
      refine eCf ?_
      refine he268 0 _ ?_
      refine he10 0 _ ?_
      refine hx9 _ ?_
      refine hn6 (some ([], none)) _ ?_
      refine eS fun K271 hn271 hr271 he271 => ?_
      refine eO fun K272 hk272 => ?_
      refine tS 1 F1 ?_
      refine Or.inl (Or.inl ⟨_, ka, ?_⟩)
      refine tL F1 ?_
      refine hk272 _ ?_
      refine hn271 (some ([6], none)) _ ?_
      exact sf1 F1
end Go.Proofs.Ytcbdgnjdpfgobaa
