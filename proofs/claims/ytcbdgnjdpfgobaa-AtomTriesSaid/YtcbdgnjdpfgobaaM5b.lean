/-
  Layer 5 by shadows: left, Crash, Least.
-/
import Derived.Test.YtcbdgnjdpfgobaaM5a
namespace Go.Proofs.Ytcbdgnjdpfgobaa
set_option linter.unusedSimpArgs false
set_option linter.unusedVariables false
open Go.RowKit Go.Maps

def putS (out : List WordV) (s : StoreV) : List WordV := out.set s.loc.toNat s.word
/-- The words behind the first n lines' surviving stores; more: how many of the unpersisted ones survive. -/
def lefN (L : LinesM) (more : Int → Int → Int) : Nat → List WordV
  | 0 => L.first
  | n + 1 => match L.logs[n]? with
    | some y => (y.stores.take (y.kept + more n (y.stores.length - y.kept)).toNat).foldl putS (lefN L more n)
    | none => lefN L more n
def leftM (L : LinesM) (more : Int → Int → Int) : List WordV := lefN L more L.logs.length
theorem foldl_putS_len : ∀ (l : List StoreV) (out : List WordV), (l.foldl putS out).length = out.length
  | [], _ => rfl
  | s :: l, out => by rw [List.foldl_cons, foldl_putS_len l]; simp [putS]
theorem lefN_len (L : LinesM) (more : Int → Int → Int) : ∀ n, (lefN L more n).length = L.first.length
  | 0 => rfl
  | n + 1 => by
    unfold lefN
    split
    · rw [foldl_putS_len, lefN_len L more n]
    · exact lefN_len L more n
structure LinesOk (L : LinesM) : Prop where
  many : L.logs.length = (L.first.length + 7) / 8
  most : L.first.length ≤ 4096
  kept : ∀ y ∈ L.logs, 0 ≤ y.kept ∧ y.kept ≤ (y.stores.length : Int)
  place : ∀ (n : Nat) (y : LogV), L.logs[n]? = some y → ∀ s ∈ y.stores, 0 ≤ s.loc ∧ s.loc < (L.first.length : Int) ∧ s.loc / 8 = (n : Int)

abbrev boxL (L : LinesM) : Ob := .box 30 [.sl 3 0 (L.first.map eWord), .sl 2 0 (L.logs.map eLog), .mp 3 fun t => (L.asks t).map eAsked]
def LInv (L : LinesM) (more : Int → Int → Int) (fx : Sh) (k : Nat) (S : St) : Prop :=
  ∃ n, n ≤ L.logs.length ∧ k = L.logs.length - n ∧ S = ⟨[(1, fx), (5, .own 1), (14, .sl 2 0 (L.logs.map eLog)), (15, sI L.logs.length), (16, sI n)], [(0, boxL L), (1, .row 39 3 ((lefN L more n).map eWord))], 2⟩
def LInv2 (L : LinesM) (more : Int → Int → Int) (fx : Sh) (n : Nat) (y : LogV) (es : List StoreV) (k : Nat) (S : St) : Prop :=
  ∃ j, j ≤ es.length ∧ k = es.length - j ∧ S = ⟨[(1, fx), (5, .own 1), (14, .sl 2 0 (L.logs.map eLog)), (15, sI L.logs.length), (16, sI n), (35, .sl 4 2 (es.map eStore)), (36, sI es.length), (37, sI j)], [(0, boxL L), (1, .row 39 3 (((es.take j).foldl putS (lefN L more n)).map eWord)), (2, .box 178 (eLog y))], 3⟩

theorem ok_lLeft (L : LinesM) (more : Int → Int → Int) (f : FuncId) (cap : List Sh) (hL : LinesOk L) (hlen : ∀ y ∈ L.logs, y.stores.length ≤ 1000) (hE : Enters f)
    (hf : ∀ (n many : Int), 0 ≤ n → n ≤ 4096 → 0 ≤ many → many ≤ 1000 → Ok f ([sI n, sI many] ++ cap) (sI (more n many))) (hm : ∀ (n many : Int), 0 ≤ n → n ≤ 4096 → 0 ≤ many → many ≤ 1000 → 0 ≤ more n many ∧ more n many ≤ many) :
    Ok 76 [eLines L, .fn (.func f) [] cap] (.sl 3 0 ((leftM L more).map eWord)) := by
  refine ok_of_tr Try.func76 tr_lLeft rfl ?_
  have hmany := hL.many
  have hmost := hL.most
  unfold evFn sc_lLeft rv_lLeft
  refine ev_seq_k fun K1 hn1 hr1 he1 => ?_
  refine ev_ops_k fun K2 hk2 => ?_
  refine sh0 ?_
  refine hk2 _ ?_
  refine hn1 (some ([1, 2], none)) _ ?_
  refine ev_seq_k fun K3 hn3 hr3 he3 => ?_
  refine ev_ops_k fun K4 hk4 => ?_
  refine evL_take 2 fun K5 hk5 => ?_
  refine sh0 ?_
  refine sd ?_
  refine hk5 _ ?_
  refine evL_take 1 fun K6 hk6 => ?_
  refine sh0 ?_
  refine Or.inl (Or.inr (Or.inl ⟨_, _, _, row_cloneWord 0 _ (by simp; omega), ?_⟩))
  refine hk6 _ ?_
  refine sh0 ?_
  refine hk4 _ ?_
  refine hn3 (some ([1, 2, 5], none)) _ ?_
  refine ev_seq_k fun K7 hn7 hr7 he7 => ?_
  refine ev_seq_k fun K8 hn8 hr8 he8 => ?_
  refine ev_ops_k fun K9 hk9 => ?_
  refine evL_take 2 fun K10 hk10 => ?_
  refine sh0 ?_
  refine sd ?_
  refine hk10 _ ?_
  refine sh0 ?_
  refine hk9 _ ?_
  refine hn8 (some ([1, 5, 14, 15, 16], none)) _ ?_
  refine ev_block_k fun K11 hn11 hx11 hr11 he11 => ?_
  refine ev_loop_k (LInv L more (.fn (.func f) [] cap)) (L.logs.length) (some ([1, 5, 14, 15, 16], some ([0, 1], 2))) ([]) ?_ ?_
  · try refine lp0 ?_
    exact ⟨0, by omega, by omega, rfl⟩
  · intro k S1 hI
    obtain ⟨n, hn, rfl, rfl⟩ := hI
    intro K12 hn12 hr12 he12
    refine ev_seq_k fun K13 hn13 hr13 he13 => ?_
    refine ev_ops_k fun K14 hk14 => ?_
    refine sh0 ?_
    refine sd ?_
    refine hk14 _ ?_
    refine hn13 (some ([1, 5, 14, 15, 16, 17], none)) _ ?_
    refine ev_seq_k fun K15 hn15 hr15 he15 => ?_
    refine ev_cond_k rfl (fun hc0 => ?_) (fun hc0 => ?_)
    · try replace hc0 := hcS hc0
      obtain ⟨y, hy⟩ : ∃ y, L.logs[n]? = some y := ⟨L.logs[n]'(by omega), by simp⟩
      have hym := List.mem_of_getElem? hy
      obtain ⟨k1, k2⟩ := hL.kept y hym
      have hyl := hlen y hym
      obtain ⟨m1, m2⟩ := hm n (y.stores.length - y.kept) (by omega) (by omega) (by omega) (by omega)
      have q1 : IntKind.i64.wrap ((y.stores.length : Int) - y.kept) = (y.stores.length : Int) - y.kept := by rw [IntKind.wrap_i64]; omega
      have q2 : IntKind.i64.wrap (y.kept + more n ((y.stores.length : Int) - y.kept)) = y.kept + more n ((y.stores.length : Int) - y.kept) := by rw [IntKind.wrap_i64]; omega
      have q3 : IntKind.i64.wrap ((n : Int) + 1) = ((n + 1 : Nat) : Int) := by rw [IntKind.wrap_i64]; omega
      obtain ⟨T, hT⟩ : ∃ T, T = (y.kept + more n ((y.stores.length : Int) - y.kept)).toNat := ⟨_, rfl⟩
      have hTl : T ≤ y.stores.length := by omega
      have hTn : (y.stores.take T).length = T := by rw [List.length_take]; omega
      have F1 := And.intro @hy (And.intro @q1 (And.intro @q2 @q3))
      refine hn15 (some ([1, 5, 14, 15, 16], none)) _ ?_
      refine ev_seq_k fun K16 hn16 hr16 he16 => ?_
      refine ev_block_k fun K17 hn17 hx17 hr17 he17 => ?_
      refine ev_seq_k fun K18 hn18 hr18 he18 => ?_
      refine ev_ops_k fun K19 hk19 => ?_
      refine evL_take 2 fun K20 hk20 => ?_
      refine sh1 F1 ?_
      refine sd ?_
      refine hk20 _ ?_
      refine evL_take 1 fun K21 hk21 => ?_
      refine sh1 F1 ?_
      refine sd ?_
      refine hk21 _ ?_
      refine sh1 F1 ?_
      refine sd ?_
      refine hk19 _ ?_
      refine hn18 (some ([1, 5, 6, 7, 14, 15, 16], none)) _ ?_
      refine ev_seq_k fun K22 hn22 hr22 he22 => ?_
      refine ev_drw_k [] (n := 17) fun K23 hk23 => ?_
      refine sq0 ?_
      refine evF_take 2 fun K25 hk25 => ?_
      refine sh1 F1 ?_
      refine sd ?_
      refine hk25 _ _ _ ?_
      refine evF_take 2 fun K26 hk26 => ?_
      refine sh1 F1 ?_
      refine sd ?_
      refine hk26 _ _ _ ?_
      refine evF_take 4 fun K27 hk27 => ?_
      refine sh1 F1 ?_
      refine sd ?_
      refine hk27 _ _ _ ?_
      refine evF_take 3 fun K28 hk28 => ?_
      refine sh1 F1 ?_
      refine sd ?_
      refine hk28 _ _ _ ?_
      refine evF_take 1 fun K29 hk29 => ?_
      refine sh1 F1 ?_
      refine sd ?_
      refine hk29 _ _ _ ?_
      refine evF_take 1 fun K30 hk30 => ?_
      refine sh1 F1 ?_
      refine ⟨hE, _, hf n _ (by omega) (by omega) (by omega) (by omega), ?_⟩
      refine hk30 _ _ _ ?_
      refine evF_take 1 fun K31 hk31 => ?_
      refine sh1 F1 ?_
      refine sd ?_
      refine hk31 _ _ _ ?_
      refine evF_take 1 fun K32 hk32 => ?_
      refine sh1 F1 ?_
      refine sd ?_
      refine hk32 _ _ _ ?_
      refine sh1 F1 ?_
      refine hk23 _ ?_
      refine sr0 ?_
      refine sh1 F1 ?_
      refine hn22 (some ([1, 5, 14, 15, 16, 35, 36, 37], none)) _ ?_
      refine ev_block_k fun K33 hn33 hx33 hr33 he33 => ?_
      refine ev_loop_k (LInv2 L more (.fn (.func f) [] cap) n y (y.stores.take T)) ((y.stores.take T).length) (some ([1, 5, 14, 15, 16, 35, 36, 37], some ([0, 1, 2], 3))) ([]) ?_ ?_
      · try refine lp0 ?_
        refine ⟨0, by omega, by omega, ?_⟩
        simp only [← hT, List.map_take, List.length_map, List.length_take, List.take_zero, List.foldl_nil]
        rfl
      · intro k S1 hI
        obtain ⟨j, hj, rfl, rfl⟩ := hI
        intro K34 hn34 hr34 he34
        refine ev_seq_k fun K35 hn35 hr35 he35 => ?_
        refine ev_ops_k fun K36 hk36 => ?_
        refine sh1 F1 ?_
        refine sd ?_
        refine hk36 _ ?_
        refine hn35 (some ([1, 5, 14, 15, 16, 35, 36, 37, 38], none)) _ ?_
        refine ev_seq_k fun K37 hn37 hr37 he37 => ?_
        refine ev_cond_k rfl (fun hc1 => ?_) (fun hc1 => ?_)
        · try replace hc1 := hcS hc1
          obtain ⟨st, hst⟩ : ∃ st, (y.stores.take T)[j]? = some st := ⟨_, List.getElem?_eq_getElem (by omega)⟩
          obtain ⟨l1, l2, l3⟩ := hL.place n y hy st (List.mem_of_mem_take (List.mem_of_getElem? hst))
          obtain ⟨q, hqq⟩ := Int.eq_ofNat_of_zero_le l1
          have hql : q < ((y.stores.take T).take j |>.foldl putS (lefN L more n)).length := by rw [foldl_putS_len, lefN_len]; omega
          obtain ⟨w0, hw0⟩ : ∃ w0, ((y.stores.take T).take j |>.foldl putS (lefN L more n))[q]? = some w0 := ⟨_, List.getElem?_eq_getElem hql⟩
          have q5 : IntKind.i64.wrap ((j : Int) + 1) = ((j + 1 : Nat) : Int) := by rw [IntKind.wrap_i64]; omega
          have F2 := And.intro F1 (And.intro @hst (And.intro @hqq (And.intro @hw0 @q5)))
          refine hn37 (some ([1, 5, 14, 15, 16, 35, 36, 37], none)) _ ?_
          refine ev_seq_k fun K38 hn38 hr38 he38 => ?_
          refine ev_block_k fun K39 hn39 hx39 hr39 he39 => ?_
          refine ev_seq_k fun K40 hn40 hr40 he40 => ?_
          refine ev_ops_k fun K41 hk41 => ?_
          refine evL_take 1 fun K42 hk42 => ?_
          refine sh1 F2 ?_
          refine sd ?_
          refine hk42 _ ?_
          refine evL_take 1 fun K43 hk43 => ?_
          refine sh1 F2 ?_
          refine sd ?_
          refine hk43 _ ?_
          refine sh1 F2 ?_
          refine sd ?_
          refine hk41 _ ?_
          refine hn40 (some ([1, 5, 9, 14, 15, 16, 35, 36, 37], none)) _ ?_
          refine ev_ops_k fun K44 hk44 => ?_
          refine evL_take 3 fun K45 hk45 => ?_
          refine sh1 F2 ?_
          refine sd ?_
          refine hk45 _ ?_
          refine evL_take 2 fun K46 hk46 => ?_
          refine sh1 F2 ?_
          refine sd ?_
          refine hk46 _ ?_
          refine evL_take 1 fun K47 hk47 => ?_
          refine sh1 F2 ?_
          refine sd ?_
          refine hk47 _ ?_
          refine sh1 F2 ?_
          refine sd ?_
          refine hk44 _ ?_
          refine hn39 _ ?_
          refine hn38 (some ([1, 5, 14, 15, 16, 35, 36, 37], none)) _ ?_
          refine ev_ops_k fun K48 hk48 => ?_
          refine evL_take 1 fun K49 hk49 => ?_
          refine sh1 F2 ?_
          refine sd ?_
          refine hk49 _ ?_
          refine sh1 F2 ?_
          refine hk48 _ ?_
          refine hn34 ((y.stores.take T).length - (j + 1)) (some ([1, 5, 14, 15, 16, 35, 36, 37], some ([0, 1, 2], 3))) _ ?_ ?_
          all_goals try refine lp0 ?_
          · omega
          · refine ⟨j + 1, by omega, by omega, ?_⟩
            have e1 : (y.stores.take T).take (j + 1) = (y.stores.take T).take j ++ [st] := by rw [List.take_add_one, hst]; rfl
            rw [e1, List.foldl_append]
            simp only [List.foldl_cons, List.foldl_nil, putS, hqq, Int.toNat_natCast, List.map_set]
        · try replace hc1 := hcS hc1
          refine he37 2 _ ?_
          refine he34 2 _ ?_
          refine hx33 _ ?_
          refine hn17 _ ?_
          refine hn16 (some ([1, 5, 14, 15, 16], none)) _ ?_
          refine ev_ops_k fun K50 hk50 => ?_
          refine evL_take 1 fun K51 hk51 => ?_
          refine sh1 F1 ?_
          refine sd ?_
          refine hk51 _ ?_
          refine sh1 F1 ?_
          refine hk50 _ ?_
          refine hn12 (L.logs.length - (n + 1)) (some ([1, 5, 14, 15, 16], some ([0, 1], 2))) _ ?_ ?_
          all_goals try refine lp0 ?_
          · omega
          · refine ⟨n + 1, by omega, by omega, ?_⟩
            have hj2 : j = (y.stores.take T).length := by omega
            have e2 : (y.stores.take T).take j = y.stores.take T := by rw [hj2, List.take_length]
            have e3 : lefN L more (n + 1) = (y.stores.take T).foldl putS (lefN L more n) := by show (match L.logs[n]? with | some y => _ | none => _) = _; rw [hy]; show (y.stores.take (y.kept + more n (y.stores.length - y.kept)).toNat).foldl putS (lefN L more n) = _; rw [← hT]
            rw [e3, e2]
    · try replace hc0 := hcS hc0
      refine he15 0 _ ?_
      refine he12 0 _ ?_
      refine hx11 _ ?_
      refine hn7 (some ([5], none)) _ ?_
      refine ev_seq_k fun K52 hn52 hr52 he52 => ?_
      refine ev_ops_k fun K53 hk53 => ?_
      refine sh0 ?_
      refine hk53 _ ?_
      refine hn52 (some ([4], none)) _ ?_
      refine sg0 ?_
      have hnn : n = L.logs.length := by omega
      subst hnn; rfl

theorem ok_lCrashF (c n m : Int) (hm : m ≤ 1099511627776) : Ok 77 [sI n, sI m, .fp [sI c] 0] (sI (mixF c n m)) := by
  refine ok_of_tr Try.func77 tr_lCrashF rfl ?_
  unfold evFn sc_lCrashF rv_lCrashF
  refine ev_seq_k fun K1 hn1 hr1 he1 => ?_
  refine ev_ops_k fun K2 hk2 => ?_
  refine sh0 ?_
  refine hk2 _ ?_
  refine hn1 (some ([0, 1, 2], none)) _ ?_
  refine ev_seq_k fun K3 hn3 hr3 he3 => ?_
  refine ev_ops_k fun K4 hk4 => ?_
  refine evL_take 1 fun K5 hk5 => ?_
  refine sh0 ?_
  refine sd ?_
  refine hk5 _ ?_
  refine evL_take 2 fun K6 hk6 => ?_
  refine sh0 ?_
  refine hk6 _ ?_
  refine evL_take 1 fun K7 hk7 => ?_
  refine sh0 ?_
  refine Or.inl (Or.inl ⟨_, ok_lMix _ _ _ hm, ?_⟩)
  refine hk7 _ ?_
  refine sh0 ?_
  refine hk4 _ ?_
  refine hn3 (some ([5], none)) _ ?_
  exact sf0
theorem ok_lCrash (L : LinesM) (c : Int) (hL : LinesOk L) (hlen : ∀ y ∈ L.logs, y.stores.length ≤ 1000) : Ok 67 [eLines L, sI c] (.sl 3 0 ((leftM L (mixF c)).map eWord)) := by
  refine ok_of_tr Try.func67 tr_lCrash rfl ?_
  unfold evFn sc_lCrash rv_lCrash
  refine ev_seq_k fun K1 hn1 hr1 he1 => ?_
  refine ev_ops_k fun K2 hk2 => ?_
  refine sh0 ?_
  refine hk2 _ ?_
  refine hn1 (some ([2, 3], none)) _ ?_
  refine ev_seq_k fun K3 hn3 hr3 he3 => ?_
  refine ev_ops_k fun K4 hk4 => ?_
  refine evL_take 1 fun K5 hk5 => ?_
  refine sh0 ?_
  refine sd ?_
  refine hk5 _ ?_
  refine evL_take 1 fun K6 hk6 => ?_
  refine sh0 ?_
  refine hk6 _ ?_
  refine evL_take 1 fun K7 hk7 => ?_
  refine sh0 ?_
  refine Or.inl (Or.inl ⟨_, ok_lLeft L (mixF c) 77 [.fp [sI c] 0] hL hlen (callFunc_enter Try.func77 rfl rfl) (fun n m _ _ _ _ => ok_lCrashF c n m (by omega)) (fun n m _ _ _ _ => by have := mixF_le c n m; omega), ?_⟩)
  refine hk7 _ ?_
  refine sh0 ?_
  refine hk4 _ ?_
  refine hn3 (some ([4], none)) _ ?_
  exact sf0
end Go.Proofs.Ytcbdgnjdpfgobaa
