/-
  Layer 4 by shadows: the example, the memory that a case describes.
-/
import Derived.Test.YtfcjkchpldfamaaK4d
namespace Go.Proofs.Ytfcjkchpldfamaa
set_option linter.unusedSimpArgs false
set_option linter.unusedVariables false
open Go.RowKit Go.Maps

abbrev cCase (k : Int) (g : Nat) (ws : List WordV) (g2 : Nat) (ds : List DoV) : List Sh := [sI k, .sl 3 g (ws.map eWord), .sl 10 g2 (ds.map eDo)]
theorem ok_l4word (v : Int) : Ok 35 [sI v] (.agg (eWord ⟨v, 0, 0⟩)) := by
  refine ok_of_tr Try.func35 tr_l4word rfl ?_
  unfold evFn sc_l4word rv_l4word
  refine ev_seq_k fun K1 hn1 hr1 he1 => ?_
  refine ev_ops_k fun K2 hk2 => ?_
  refine sh0 ?_
  refine hk2 _ ?_
  refine hn1 (some ([0, 2], none)) _ ?_
  refine ev_seq_k fun K3 hn3 hr3 he3 => ?_
  refine ev_ops_k fun K4 hk4 => ?_
  refine sh0 ?_
  refine sd ?_
  refine hk4 _ ?_
  refine hn3 (some ([2], none)) _ ?_
  exact sf0
theorem ok_l4few (k : Int) (g : Nat) (ws : List WordV) (g2 : Nat) (ds : List DoV) : Ok 24 [.agg (cCase k g ws g2 ds)] (sB (decide (ws.length ≤ 8 ∧ ds.length ≤ 40))) := by
  refine ok_of_tr Try.func24 tr_l4few rfl ?_
  by_cases h1 : (ws.length : Int) ≤ 8 <;> by_cases h2 : (ds.length : Int) ≤ 40
  all_goals
    unfold evFn sc_l4few rv_l4few
    have F1 := And.intro @h1 @h2
    refine ev_seq_k fun K1 hn1 hr1 he1 => ?_
    refine ev_ops_k fun K2 hk2 => ?_
    refine sh1 F1 ?_
    refine hk2 _ ?_
    refine hn1 (some ([1], none)) _ ?_
    refine ev_seq_k fun K3 hn3 hr3 he3 => ?_
    refine ev_ops_k fun K4 hk4 => ?_
    refine evL_take 2 fun K5 hk5 => ?_
    refine sh1 F1 ?_
    refine sd ?_
    refine hk5 _ ?_
    refine evL_take 2 fun K6 hk6 => ?_
    refine sh1 F1 ?_
    refine sd ?_
    refine hk6 _ ?_
    refine evL_take 3 fun K7 hk7 => ?_
    refine sh1 F1 ?_
    refine sd ?_
    refine hk7 _ ?_
    refine evL_take 2 fun K8 hk8 => ?_
    refine sh1 F1 ?_
    refine sd ?_
    refine hk8 _ ?_
    refine sh1 F1 ?_
    refine hk4 _ ?_
    refine hn3 (some ([2], none)) _ ?_
    refine sg1 F1 ?_
    simp; omega

def w2 (v : Int) : WordV := ⟨v, 0, 0⟩
def x0 : MemM := (mnewM 2 [w2 0, w2 0]).1
def x1 : MemM := (mstoreM x0 1 0 (w2 7) false).1
def x2 : MemM := (mstoreM x1 1 1 (w2 1) true).1
noncomputable def x3 : MemM := (loadM x2 2 1 true 0).1
theorem memOk_x0 : MemOk x0 1 := memOk_new _ _
theorem memOk_x1 : MemOk x1 2 := memOk_store memOk_x0 _ _ _ _
theorem memOk_x2 : MemOk x2 3 := memOk_store memOk_x1 _ _ _ _
theorem memOk_x3 : MemOk x3 3 := memOk_load memOk_x2 _ _ _ _
theorem x_seen : vGet (seenM x3 2) 0 = 1 := by
  show vGet (vJoin (vWith (seenM x2 2) 1 (chooseF 2 (vGet (seenM x2 2) 1) 0)) (atM (histM x2 1) (chooseF 2 (vGet (seenM x2 2) 1) 0)).view) 0 = 1
  rw [vGet_join (viewOk_with (seen_ok memOk_x2 2) _ _) (at_ok memOk_x2 1 _)]
  rfl
theorem x_a : (loadM x3 2 0 false 1).2 = (w2 7, 0) := by
  have h : wrongM x3 2 0 = 0 := rfl
  unfold loadM
  rw [if_pos h, x_seen]
  rfl
theorem x_b : (loadM x3 2 0 false 5).2 = (w2 7, 0) := by
  have h : wrongM x3 2 0 = 0 := rfl
  unfold loadM
  rw [if_pos h, x_seen]
  rfl
theorem x_old : (loadM x2 2 0 false 1).2 = (w2 0, 0) := rfl
theorem x_fresh : (loadM x2 2 0 false 0).2 = (w2 7, 0) := rfl
theorem x_flag : (loadM x2 2 1 true 0).2 = (w2 1, 0) := rfl
theorem x_swap : (mswapM x2 2 1 (w2 0) (w2 5)).2 = (w2 1, false, 0) := rfl
theorem x_size : x2.views.length = 2 ∧ x2.places.length = 2 := ⟨rfl, rfl⟩
set_option maxHeartbeats 4000000 in
theorem ok_l4awake : Ok 15 [] (sB true) := by
  refine ok_of_tr Try.func15 tr_l4awake rfl ?_
  have c0 := ok_mNew 2 0 [w2 0, w2 0]
  have c1 := ok_mStore x0 1 0 (w2 7) false memOk_x0 (by decide)
  have c2 := ok_mStore x1 1 1 (w2 1) true memOk_x1 (by decide)
  have c3 := ok_mLoad x2 2 0 false 1 memOk_x2 (by decide)
  have c4 := ok_mLoad x2 2 0 false 0 memOk_x2 (by decide)
  have c5 := ok_mLoad x2 2 1 true 0 memOk_x2 (by decide)
  have c6 := ok_mLoad x3 2 0 false 1 memOk_x3 (by decide)
  have c7 := ok_mLoad x3 2 0 false 5 memOk_x3 (by decide)
  have c8 := ok_mSwap x2 2 1 (w2 0) (w2 5) memOk_x2 (by decide)
  have c9 := ok_mSize x2
  rw [x_old] at c3
  rw [x_fresh] at c4
  rw [x_flag] at c5
  rw [x_a] at c6
  rw [x_b] at c7
  rw [x_swap] at c8
  rw [x_size.1, x_size.2] at c9
  change Ok _ _ (.tup [eMem x0, sI 0]) at c0
  change Ok _ _ (.tup [eMem x1, sI 0]) at c1
  change Ok _ _ (.tup [eMem x2, sI 0]) at c2
  change Ok _ _ (.tup [eMem x3, .agg (eWord (w2 1)), sI 0]) at c5
  generalize (loadM x2 2 0 false 1).1 = y3 at c3
  generalize (loadM x2 2 0 false 0).1 = y4 at c4
  generalize (loadM x3 2 0 false 1).1 = y6 at c6
  generalize (loadM x3 2 0 false 5).1 = y7 at c7
  generalize (mswapM x2 2 1 (w2 0) (w2 5)).1 = y8 at c8
  generalize x0 = z0 at c0 c1
  generalize x1 = z1 at c1 c2
  generalize x2 = z2 at c2 c3 c4 c5 c8 c9
  generalize x3 = z3 at c5 c6 c7
  simp only [w2, List.map_cons, List.map_nil] at c0 c1 c2 c3 c4 c5 c6 c7 c8
  have h22 : ((2 : Nat) : Int) = 2 := rfl
  unfold evFn sc_l4awake rv_l4awake
  have F1 := @h22
  refine ev_seq_k fun K1 hn1 hr1 he1 => ?_
  refine ev_ops_k fun K2 hk2 => ?_
  refine sh1 F1 ?_
  refine hk2 _ ?_
  refine hn1 (some ([], none)) _ ?_
  refine ev_seq_k fun K3 hn3 hr3 he3 => ?_
  refine ev_ops_k fun K4 hk4 => ?_
  refine evL_take 1 fun K5 hk5 => ?_
  refine sh1 F1 ?_
  refine Or.inl (Or.inl ⟨_, ok_l4word 0, ?_⟩)
  refine hk5 _ ?_
  refine evL_take 1 fun K6 hk6 => ?_
  refine sh1 F1 ?_
  refine Or.inl (Or.inl ⟨_, ok_l4word 0, ?_⟩)
  refine hk6 _ ?_
  refine evL_take 1 fun K7 hk7 => ?_
  refine sh1 F1 ?_
  refine sd ?_
  refine hk7 _ ?_
  refine evL_take 1 fun K8 hk8 => ?_
  refine sh1 F1 ?_
  refine Or.inl (Or.inl ⟨_, c0, ?_⟩)
  refine hk8 _ ?_
  refine evL_take 5 fun K9 hk9 => ?_
  refine sh1 F1 ?_
  refine sd ?_
  refine hk9 _ ?_
  refine sh1 F1 ?_
  refine hk4 _ ?_
  refine hn3 (some ([1, 2], none)) _ ?_
  refine ev_seq_k fun K10 hn10 hr10 he10 => ?_
  refine ev_drw_k [] (n := 6) fun K11 hk11 => ?_
  refine sq0 ?_
  refine evF_take 1 fun K13 hk13 => ?_
  refine sh1 F1 ?_
  refine sd ?_
  refine hk13 _ _ _ ?_
  refine evF_take 1 fun K14 hk14 => ?_
  refine sh1 F1 ?_
  refine ⟨_, ok_l4word 7, ?_⟩
  refine hk14 _ _ _ ?_
  refine evF_take 1 fun K15 hk15 => ?_
  refine sh1 F1 ?_
  refine ⟨_, c1, ?_⟩
  refine hk15 _ _ _ ?_
  refine sh1 F1 ?_
  refine hk11 _ ?_
  refine sr0 ?_
  refine evL_take 1 fun K16 hk16 => ?_
  refine sh1 F1 ?_
  refine sd ?_
  refine hk16 _ ?_
  refine sh1 F1 ?_
  refine hn10 (some ([1, 2, 3], none)) _ ?_
  refine ev_seq_k fun K17 hn17 hr17 he17 => ?_
  refine ev_drw_k [] (n := 6) fun K18 hk18 => ?_
  refine sq0 ?_
  refine evF_take 1 fun K20 hk20 => ?_
  refine sh1 F1 ?_
  refine sd ?_
  refine hk20 _ _ _ ?_
  refine evF_take 1 fun K21 hk21 => ?_
  refine sh1 F1 ?_
  refine ⟨_, ok_l4word 1, ?_⟩
  refine hk21 _ _ _ ?_
  refine evF_take 1 fun K22 hk22 => ?_
  refine sh1 F1 ?_
  refine ⟨_, c2, ?_⟩
  refine hk22 _ _ _ ?_
  refine sh1 F1 ?_
  refine hk18 _ ?_
  refine sr0 ?_
  refine evL_take 1 fun K23 hk23 => ?_
  refine sh1 F1 ?_
  refine sd ?_
  refine hk23 _ ?_
  refine sh1 F1 ?_
  refine hn17 (some ([1, 2, 3, 4], none)) _ ?_
  refine ev_seq_k fun K24 hn24 hr24 he24 => ?_
  refine ev_ops_k fun K25 hk25 => ?_
  refine evL_take 1 fun K26 hk26 => ?_
  refine sh1 F1 ?_
  refine sd ?_
  refine hk26 _ ?_
  refine evL_take 1 fun K27 hk27 => ?_
  refine sh1 F1 ?_
  refine Or.inl (Or.inl ⟨_, c3, ?_⟩)
  refine hk27 _ ?_
  refine evL_take 7 fun K28 hk28 => ?_
  refine sh1 F1 ?_
  refine sd ?_
  refine hk28 _ ?_
  refine evL_take 1 fun K29 hk29 => ?_
  refine sh1 F1 ?_
  refine sd ?_
  refine hk29 _ ?_
  refine sh1 F1 ?_
  refine hk25 _ ?_
  refine hn24 (some ([1, 2, 3, 4, 6, 7], none)) _ ?_
  refine ev_seq_k fun K30 hn30 hr30 he30 => ?_
  refine ev_ops_k fun K31 hk31 => ?_
  refine evL_take 1 fun K32 hk32 => ?_
  refine sh1 F1 ?_
  refine sd ?_
  refine hk32 _ ?_
  refine evL_take 1 fun K33 hk33 => ?_
  refine sh1 F1 ?_
  refine Or.inl (Or.inl ⟨_, c4, ?_⟩)
  refine hk33 _ ?_
  refine evL_take 7 fun K34 hk34 => ?_
  refine sh1 F1 ?_
  refine sd ?_
  refine hk34 _ ?_
  refine evL_take 1 fun K35 hk35 => ?_
  refine sh1 F1 ?_
  refine sd ?_
  refine hk35 _ ?_
  refine sh1 F1 ?_
  refine hk31 _ ?_
  refine hn30 (some ([1, 2, 3, 4, 6, 7, 9], none)) _ ?_
  refine ev_seq_k fun K36 hn36 hr36 he36 => ?_
  refine ev_ops_k fun K37 hk37 => ?_
  refine evL_take 1 fun K38 hk38 => ?_
  refine sh1 F1 ?_
  refine sd ?_
  refine hk38 _ ?_
  refine evL_take 1 fun K39 hk39 => ?_
  refine sh1 F1 ?_
  refine Or.inl (Or.inl ⟨_, c5, ?_⟩)
  refine hk39 _ ?_
  refine evL_take 7 fun K40 hk40 => ?_
  refine sh1 F1 ?_
  refine sd ?_
  refine hk40 _ ?_
  refine evL_take 1 fun K41 hk41 => ?_
  refine sh1 F1 ?_
  refine sd ?_
  refine hk41 _ ?_
  refine sh1 F1 ?_
  refine hk37 _ ?_
  refine hn36 (some ([1, 2, 3, 4, 6, 7, 9, 11, 12, 13], none)) _ ?_
  refine ev_seq_k fun K42 hn42 hr42 he42 => ?_
  refine ev_ops_k fun K43 hk43 => ?_
  refine evL_take 1 fun K44 hk44 => ?_
  refine sh1 F1 ?_
  refine sd ?_
  refine hk44 _ ?_
  refine evL_take 1 fun K45 hk45 => ?_
  refine sh1 F1 ?_
  refine Or.inl (Or.inl ⟨_, c6, ?_⟩)
  refine hk45 _ ?_
  refine evL_take 7 fun K46 hk46 => ?_
  refine sh1 F1 ?_
  refine sd ?_
  refine hk46 _ ?_
  refine evL_take 1 fun K47 hk47 => ?_
  refine sh1 F1 ?_
  refine sd ?_
  refine hk47 _ ?_
  refine sh1 F1 ?_
  refine hk43 _ ?_
  refine hn42 (some ([1, 2, 3, 4, 6, 7, 9, 11, 12, 13, 15], none)) _ ?_
  refine ev_seq_k fun K48 hn48 hr48 he48 => ?_
  refine ev_ops_k fun K49 hk49 => ?_
  refine evL_take 1 fun K50 hk50 => ?_
  refine sh1 F1 ?_
  refine sd ?_
  refine hk50 _ ?_
  refine evL_take 1 fun K51 hk51 => ?_
  refine sh1 F1 ?_
  refine Or.inl (Or.inl ⟨_, c7, ?_⟩)
  refine hk51 _ ?_
  refine evL_take 7 fun K52 hk52 => ?_
  refine sh1 F1 ?_
  refine sd ?_
  refine hk52 _ ?_
  refine evL_take 1 fun K53 hk53 => ?_
  refine sh1 F1 ?_
  refine sd ?_
  refine hk53 _ ?_
  refine sh1 F1 ?_
  refine hk49 _ ?_
  refine hn48 (some ([1, 2, 3, 4, 6, 7, 9, 12, 13, 15, 18], none)) _ ?_
  refine ev_seq_k fun K54 hn54 hr54 he54 => ?_
  refine ev_drw_k [] (n := 11) fun K55 hk55 => ?_
  refine sq0 ?_
  refine evF_take 1 fun K57 hk57 => ?_
  refine sh1 F1 ?_
  refine sd ?_
  refine hk57 _ _ _ ?_
  refine evF_take 1 fun K58 hk58 => ?_
  refine sh1 F1 ?_
  refine ⟨_, ok_l4word 0, ?_⟩
  refine hk58 _ _ _ ?_
  refine evF_take 1 fun K59 hk59 => ?_
  refine sh1 F1 ?_
  refine ⟨_, ok_l4word 5, ?_⟩
  refine hk59 _ _ _ ?_
  refine evF_take 1 fun K60 hk60 => ?_
  refine sh1 F1 ?_
  refine ⟨_, c8, ?_⟩
  refine hk60 _ _ _ ?_
  refine sh1 F1 ?_
  refine hk55 _ ?_
  refine sr0 ?_
  refine evL_take 1 fun K61 hk61 => ?_
  refine sh1 F1 ?_
  refine sd ?_
  refine hk61 _ ?_
  refine evL_take 1 fun K62 hk62 => ?_
  refine sh1 F1 ?_
  refine sd ?_
  refine hk62 _ ?_
  refine sh1 F1 ?_
  refine hn54 (some ([1, 2, 3, 4, 6, 7, 9, 12, 13, 15, 18, 21, 22, 23], none)) _ ?_
  refine ev_seq_k fun K63 hn63 hr63 he63 => ?_
  refine ev_ops_k fun K64 hk64 => ?_
  refine evL_take 1 fun K65 hk65 => ?_
  refine sh1 F1 ?_
  refine sd ?_
  refine hk65 _ ?_
  refine evL_take 1 fun K66 hk66 => ?_
  refine sh1 F1 ?_
  refine Or.inl (Or.inl ⟨_, c9, ?_⟩)
  refine hk66 _ ?_
  refine sh1 F1 ?_
  refine hk64 _ ?_
  refine hn63 (some ([2, 3, 4, 6, 7, 9, 12, 13, 15, 18, 21, 22, 23, 24, 25], none)) _ ?_
  refine ev_seq_k fun K67 hn67 hr67 he67 => ?_
  refine ev_ops_k fun K68 hk68 => ?_
  refine evL_take 2 fun K69 hk69 => ?_
  refine sh1 F1 ?_
  refine sd ?_
  refine hk69 _ ?_
  refine evL_take 3 fun K70 hk70 => ?_
  refine sh1 F1 ?_
  refine sd ?_
  refine hk70 _ ?_
  refine evL_take 4 fun K71 hk71 => ?_
  refine sh1 F1 ?_
  refine sd ?_
  refine hk71 _ ?_
  refine evL_take 4 fun K72 hk72 => ?_
  refine sh1 F1 ?_
  refine sd ?_
  refine hk72 _ ?_
  refine evL_take 4 fun K73 hk73 => ?_
  refine sh1 F1 ?_
  refine sd ?_
  refine hk73 _ ?_
  refine evL_take 4 fun K74 hk74 => ?_
  refine sh1 F1 ?_
  refine sd ?_
  refine hk74 _ ?_
  refine evL_take 4 fun K75 hk75 => ?_
  refine sh1 F1 ?_
  refine sd ?_
  refine hk75 _ ?_
  refine evL_take 1 fun K76 hk76 => ?_
  refine sh1 F1 ?_
  refine sd ?_
  refine hk76 _ ?_
  refine evL_take 4 fun K77 hk77 => ?_
  refine sh1 F1 ?_
  refine sd ?_
  refine hk77 _ ?_
  refine evL_take 1 fun K78 hk78 => ?_
  refine sh1 F1 ?_
  refine sd ?_
  refine hk78 _ ?_
  refine evL_take 4 fun K79 hk79 => ?_
  refine sh1 F1 ?_
  refine sd ?_
  refine hk79 _ ?_
  refine evL_take 1 fun K80 hk80 => ?_
  refine sh1 F1 ?_
  refine sd ?_
  refine hk80 _ ?_
  refine evL_take 4 fun K81 hk81 => ?_
  refine sh1 F1 ?_
  refine sd ?_
  refine hk81 _ ?_
  refine evL_take 1 fun K82 hk82 => ?_
  refine sh1 F1 ?_
  refine sd ?_
  refine hk82 _ ?_
  refine evL_take 4 fun K83 hk83 => ?_
  refine sh1 F1 ?_
  refine sd ?_
  refine hk83 _ ?_
  refine evL_take 1 fun K84 hk84 => ?_
  refine sh1 F1 ?_
  refine sd ?_
  refine hk84 _ ?_
  refine evL_take 4 fun K85 hk85 => ?_
  refine sh1 F1 ?_
  refine sd ?_
  refine hk85 _ ?_
  refine evL_take 1 fun K86 hk86 => ?_
  refine sh1 F1 ?_
  refine sd ?_
  refine hk86 _ ?_
  refine evL_take 8 fun K87 hk87 => ?_
  refine sh1 F1 ?_
  refine sd ?_
  refine hk87 _ ?_
  refine evL_take 4 fun K88 hk88 => ?_
  refine sh1 F1 ?_
  refine sd ?_
  refine hk88 _ ?_
  refine sh1 F1 ?_
  refine hk68 _ ?_
  refine hn67 (some ([0], none)) _ ?_
  exact sf1 F1

/-- The memory behind the first n operations. -/
noncomputable def runB (M : MemM) (ds : List DoV) : Nat → MemM
  | 0 => M
  | i + 1 => match ds[i]? with
    | some d => (do4M (runB M ds i) d).1
    | none => runB M ds i
theorem runB_succ {M : MemM} {ds : List DoV} {i : Nat} {d : DoV} (h : ds[i]? = some d) : runB M ds (i + 1) = (do4M (runB M ds i) d).1 := by rw [runB, h]
theorem memOk_run {M : MemM} {n : Nat} (h : MemOk M n) (ds : List DoV) : ∀ i, MemOk (runB M ds i) (n + i)
  | 0 => h
  | i + 1 => by
    unfold runB
    cases e : ds[i]? with
    | none => exact memOk_up (memOk_run h ds i) (by omega)
    | some d => exact memOk_do (memOk_run h ds i) d
noncomputable def begunM (k : Int) (ws : List WordV) (ds : List DoV) : MemM × Bool :=
  if (mnewM k ws).2 = 0 ∧ ws.length ≤ 8 ∧ ds.length ≤ 40 then (runB (mnewM k ws).1 ds ds.length, true) else ((mnewM k ws).1, false)
theorem memOk_begun (k : Int) (ws : List WordV) (ds : List DoV) : MemOk (begunM k ws ds).1 41 := by
  unfold begunM
  split
  · rename_i h
    exact memOk_up (memOk_run (memOk_new k ws) ds ds.length) (by omega)
  · exact memOk_up (memOk_new k ws) (by omega)
abbrev boxM (M : MemM) : Ob := .box 38 [.sl 1 0 (M.places.map ePlace), .sl 1 0 (M.views.map eV1)]
def BInv (k : Int) (g : Nat) (ws : List WordV) (g2 : Nat) (ds : List DoV) (M : MemM) (m : Nat) (S : St) : Prop :=
  ∃ i, i ≤ ds.length ∧ m = ds.length - i ∧ S = ⟨[(1, .ptr 0 0 0), (2, .ptr 1 0 0), (4, .ptr 2 0 0), (6, sI i)], [(0, .box 25 (cCase k g ws g2 ds)), (1, .box 38 [.sl 1 0 [], .sl 1 0 []]), (2, boxM (runB M ds i))], 3⟩
set_option maxHeartbeats 4000000 in
theorem ok_l4begun (k : Int) (g : Nat) (ws : List WordV) (g2 : Nat) (ds : List DoV) : Ok 16 [.agg (cCase k g ws g2 ds)] (.tup [eMem (begunM k ws ds).1, sB (begunM k ws ds).2]) := by
  refine ok_of_tr Try.func16 tr_l4begun rfl ?_
  have c0 := ok_mNew k g ws
  have hM := memOk_new k ws
  unfold begunM
  generalize mnewM k ws = R at c0 hM ⊢
  obtain ⟨M, e⟩ := R
  simp only at c0 hM ⊢
  by_cases h1 : e = 0
  case neg =>
    rw [if_neg (fun h => h1 h.1)]
    have d : (e != 0) = true := by simpa using h1
    unfold evFn sc_l4begun rv_l4begun
    have F1 := @d
    refine ev_seq_k fun K1 hn1 hr1 he1 => ?_
    refine ev_ops_k fun K2 hk2 => ?_
    refine sh1 F1 ?_
    refine hk2 _ ?_
    refine hn1 (some ([1, 2], none)) _ ?_
    refine ev_seq_k fun K3 hn3 hr3 he3 => ?_
    refine ev_ops_k fun K4 hk4 => ?_
    refine evL_take 2 fun K5 hk5 => ?_
    refine sh1 F1 ?_
    refine sd ?_
    refine hk5 _ ?_
    refine evL_take 2 fun K6 hk6 => ?_
    refine sh1 F1 ?_
    refine sd ?_
    refine hk6 _ ?_
    refine evL_take 1 fun K7 hk7 => ?_
    refine sh1 F1 ?_
    refine Or.inl (Or.inl ⟨_, c0, ?_⟩)
    refine hk7 _ ?_
    refine evL_take 5 fun K8 hk8 => ?_
    refine sh1 F1 ?_
    refine sd ?_
    refine hk8 _ ?_
    refine sh1 F1 ?_
    refine hk4 _ ?_
    refine hn3 (some ([1, 2, 4, 5], none)) _ ?_
    refine ev_seq_k fun K9 hn9 hr9 he9 => ?_
    refine ev_seq_k fun K10 hn10 hr10 he10 => ?_
    refine ev_ops_k fun K11 hk11 => ?_
    refine evL_take 2 fun K12 hk12 => ?_
    refine sh1 F1 ?_
    refine sd ?_
    refine hk12 _ ?_
    refine evL_take 2 fun K13 hk13 => ?_
    refine sh1 F1 ?_
    refine sd ?_
    refine hk13 _ ?_
    refine evL_take 1 fun K14 hk14 => ?_
    refine sh1 F1 ?_
    skip
    refine hk14 _ ?_
    refine sh1 F1 ?_
    refine hk11 _ ?_
    refine hn10 (some ([1, 2, 4, 21], none)) _ ?_
    refine ev_cond_k rfl (fun hc0 => ?_) (fun hx => absurd hx (by simp at hx))
    clear hc0
    refine ev_seq_k fun K15 hn15 hr15 he15 => ?_
    refine ev_ops_k fun K16 hk16 => ?_
    refine evL_take 1 fun K17 hk17 => ?_
    refine sh1 F1 ?_
    refine sd ?_
    refine hk17 _ ?_
    refine evL_take 1 fun K18 hk18 => ?_
    refine sh1 F1 ?_
    refine sd ?_
    refine hk18 _ ?_
    refine sh1 F1 ?_
    refine hk16 _ ?_
    refine hn15 (some ([2, 3], none)) _ ?_
    refine hr9 _ ?_
    exact sf1 F1
  subst h1
  by_cases h2 : ws.length ≤ 8 ∧ ds.length ≤ 40
  case neg =>
    rw [if_neg (fun h => h2 h.2)]
    have d : decide (ws.length ≤ 8 ∧ ds.length ≤ 40) = false := decide_eq_false h2
    unfold evFn sc_l4begun rv_l4begun
    have F1 := @d
    refine ev_seq_k fun K1 hn1 hr1 he1 => ?_
    refine ev_ops_k fun K2 hk2 => ?_
    refine sh1 F1 ?_
    refine hk2 _ ?_
    refine hn1 (some ([1, 2], none)) _ ?_
    refine ev_seq_k fun K3 hn3 hr3 he3 => ?_
    refine ev_ops_k fun K4 hk4 => ?_
    refine evL_take 2 fun K5 hk5 => ?_
    refine sh1 F1 ?_
    refine sd ?_
    refine hk5 _ ?_
    refine evL_take 2 fun K6 hk6 => ?_
    refine sh1 F1 ?_
    refine sd ?_
    refine hk6 _ ?_
    refine evL_take 1 fun K7 hk7 => ?_
    refine sh1 F1 ?_
    refine Or.inl (Or.inl ⟨_, c0, ?_⟩)
    refine hk7 _ ?_
    refine evL_take 5 fun K8 hk8 => ?_
    refine sh1 F1 ?_
    refine sd ?_
    refine hk8 _ ?_
    refine sh1 F1 ?_
    refine hk4 _ ?_
    refine hn3 (some ([1, 2, 4, 5], none)) _ ?_
    refine ev_seq_k fun K9 hn9 hr9 he9 => ?_
    refine ev_seq_k fun K10 hn10 hr10 he10 => ?_
    refine ev_ops_k fun K11 hk11 => ?_
    refine evL_take 2 fun K12 hk12 => ?_
    refine sh1 F1 ?_
    refine sd ?_
    refine hk12 _ ?_
    refine evL_take 2 fun K13 hk13 => ?_
    refine sh1 F1 ?_
    refine sd ?_
    refine hk13 _ ?_
    refine evL_take 1 fun K14 hk14 => ?_
    refine sh1 F1 ?_
    refine Or.inl (Or.inl ⟨_, ok_l4few k g ws g2 ds, ?_⟩)
    refine hk14 _ ?_
    refine sh1 F1 ?_
    refine hk11 _ ?_
    refine hn10 (some ([1, 2, 4, 21], none)) _ ?_
    refine ev_cond_k rfl (fun hc0 => ?_) (fun hx => absurd hx (by simp at hx))
    clear hc0
    refine ev_seq_k fun K15 hn15 hr15 he15 => ?_
    refine ev_ops_k fun K16 hk16 => ?_
    refine evL_take 1 fun K17 hk17 => ?_
    refine sh1 F1 ?_
    refine sd ?_
    refine hk17 _ ?_
    refine evL_take 1 fun K18 hk18 => ?_
    refine sh1 F1 ?_
    refine sd ?_
    refine hk18 _ ?_
    refine sh1 F1 ?_
    refine hk16 _ ?_
    refine hn15 (some ([2, 3], none)) _ ?_
    refine hr9 _ ?_
    exact sf1 F1
  rw [if_pos ⟨rfl, h2⟩]
  have d : decide (ws.length ≤ 8 ∧ ds.length ≤ 40) = true := decide_eq_true h2
  unfold evFn sc_l4begun rv_l4begun
  have F1 := @d
  refine ev_seq_k fun K1 hn1 hr1 he1 => ?_
  refine ev_ops_k fun K2 hk2 => ?_
  refine sh1 F1 ?_
  refine hk2 _ ?_
  refine hn1 (some ([1, 2], none)) _ ?_
  refine ev_seq_k fun K3 hn3 hr3 he3 => ?_
  refine ev_ops_k fun K4 hk4 => ?_
  refine evL_take 2 fun K5 hk5 => ?_
  refine sh1 F1 ?_
  refine sd ?_
  refine hk5 _ ?_
  refine evL_take 2 fun K6 hk6 => ?_
  refine sh1 F1 ?_
  refine sd ?_
  refine hk6 _ ?_
  refine evL_take 1 fun K7 hk7 => ?_
  refine sh1 F1 ?_
  refine Or.inl (Or.inl ⟨_, c0, ?_⟩)
  refine hk7 _ ?_
  refine evL_take 5 fun K8 hk8 => ?_
  refine sh1 F1 ?_
  refine sd ?_
  refine hk8 _ ?_
  refine sh1 F1 ?_
  refine hk4 _ ?_
  refine hn3 (some ([1, 2, 4, 5], none)) _ ?_
  refine ev_seq_k fun K9 hn9 hr9 he9 => ?_
  refine ev_seq_k fun K10 hn10 hr10 he10 => ?_
  refine ev_ops_k fun K11 hk11 => ?_
  refine evL_take 2 fun K12 hk12 => ?_
  refine sh1 F1 ?_
  refine sd ?_
  refine hk12 _ ?_
  refine evL_take 2 fun K13 hk13 => ?_
  refine sh1 F1 ?_
  refine sd ?_
  refine hk13 _ ?_
  refine evL_take 1 fun K14 hk14 => ?_
  refine sh1 F1 ?_
  refine Or.inl (Or.inl ⟨_, ok_l4few k g ws g2 ds, ?_⟩)
  refine hk14 _ ?_
  refine sh1 F1 ?_
  refine hk11 _ ?_
  refine hn10 (some ([1, 2, 4, 21], none)) _ ?_
  refine ev_cond_k rfl (fun hx => absurd hx (by simp at hx)) (fun hc0 => ?_)
  clear hc0
  refine hn9 (some ([1, 2, 4], none)) _ ?_
  refine ev_seq_k fun K15 hn15 hr15 he15 => ?_
  refine ev_seq_k fun K16 hn16 hr16 he16 => ?_
  refine ev_ops_k fun K17 hk17 => ?_
  refine sh1 F1 ?_
  refine hk17 _ ?_
  refine hn16 (some ([1, 2, 4, 6], none)) _ ?_
  refine ev_block_k fun K18 hn18 hx18 hr18 he18 => ?_
  refine ev_loop_k (BInv k g ws g2 ds M) (ds.length) (some ([1, 2, 4, 6], some ([0, 1, 2], 3))) ([]) ?_ ?_
  · try refine lp0 ?_
    exact ⟨0, by omega, by omega, rfl⟩
  · intro k S1 hI
    obtain ⟨i, hi, rfl, rfl⟩ := hI
    intro K19 hn19 hr19 he19
    refine ev_seq_k fun K20 hn20 hr20 he20 => ?_
    refine ev_seq_k fun K21 hn21 hr21 he21 => ?_
    refine ev_ops_k fun K22 hk22 => ?_
    refine evL_take 3 fun K23 hk23 => ?_
    refine sh1 F1 ?_
    refine sd ?_
    refine hk23 _ ?_
    refine sh1 F1 ?_
    refine sd ?_
    refine hk22 _ ?_
    refine hn21 (some ([1, 2, 4, 6, 27], none)) _ ?_
    refine ev_cond_k rfl (fun hc1 => ?_) (fun hc1 => ?_)
    · try replace hc1 := hcS hc1
      obtain ⟨x, hxi⟩ : ∃ x, ds[i]? = some x := ⟨_, List.getElem?_eq_getElem (by omega)⟩
      have q2 : IntKind.i64.wrap ((i : Int) + 1) = ((i + 1 : Nat) : Int) := by rw [IntKind.wrap_i64]; omega
      have cd := ok_l4do _ x (memOk_run hM ds i) (by omega)
      have F2 := And.intro F1 (And.intro @hxi @q2)
      refine hn20 (some ([1, 2, 4, 6], none)) _ ?_
      refine ev_seq_k fun K24 hn24 hr24 he24 => ?_
      refine ev_block_k fun K25 hn25 hx25 hr25 he25 => ?_
      refine ev_drw_k [] (n := 12) fun K26 hk26 => ?_
      refine sq0 ?_
      refine evF_take 1 fun K28 hk28 => ?_
      refine sh1 F2 ?_
      refine sd ?_
      refine hk28 _ _ _ ?_
      refine evF_take 2 fun K29 hk29 => ?_
      refine sh1 F2 ?_
      refine sd ?_
      refine hk29 _ _ _ ?_
      refine evF_take 2 fun K30 hk30 => ?_
      refine sh1 F2 ?_
      refine sd ?_
      refine hk30 _ _ _ ?_
      refine evF_take 1 fun K31 hk31 => ?_
      refine sh1 F2 ?_
      refine sd ?_
      refine hk31 _ _ _ ?_
      refine evF_take 1 fun K32 hk32 => ?_
      refine sh1 F2 ?_
      refine ⟨_, cd, ?_⟩
      refine hk32 _ _ _ ?_
      refine sh1 F2 ?_
      refine hk26 _ ?_
      refine sr0 ?_
      refine sh1 F2 ?_
      refine sd ?_
      refine hn25 _ ?_
      refine hn24 (some ([1, 2, 4, 6], none)) _ ?_
      refine ev_ops_k fun K33 hk33 => ?_
      refine evL_take 2 fun K34 hk34 => ?_
      refine sh1 F2 ?_
      refine sd ?_
      refine hk34 _ ?_
      refine sh1 F2 ?_
      refine hk33 _ ?_
      refine hn19 (ds.length - (i + 1)) (some ([1, 2, 4, 6], some ([0, 1, 2], 3))) _ ?_ ?_
      all_goals try refine lp0 ?_
      · omega
      · refine ⟨i + 1, by omega, by omega, ?_⟩
        rw [runB_succ hxi]
    · try replace hc1 := hcS hc1
      obtain rfl : i = ds.length := by omega
      refine he20 0 _ ?_
      refine he19 0 _ ?_
      refine hx18 _ ?_
      refine hn15 (some ([2, 4], none)) _ ?_
      refine ev_seq_k fun K35 hn35 hr35 he35 => ?_
      refine ev_ops_k fun K36 hk36 => ?_
      refine evL_take 1 fun K37 hk37 => ?_
      refine sh1 F1 ?_
      refine sd ?_
      refine hk37 _ ?_
      refine evL_take 1 fun K38 hk38 => ?_
      refine sh1 F1 ?_
      refine sd ?_
      refine hk38 _ ?_
      refine sh1 F1 ?_
      refine hk36 _ ?_
      refine hn35 (some ([2, 3], none)) _ ?_
      exact sf1 F1
end Go.Proofs.Ytfcjkchpldfamaa
