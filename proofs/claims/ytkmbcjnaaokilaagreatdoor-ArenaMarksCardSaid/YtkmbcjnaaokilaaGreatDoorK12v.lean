/-
  ArenaMarks by shadows.
-/
import Derived.Test.YtkmbcjnaaokilaaGreatDoorMK8
namespace Go.Proofs.YtkmbcjnaaokilaaGreatDoor
set_option linter.unusedSimpArgs false
set_option linter.unusedVariables false
open Go.RowKit Go.Maps
theorem plan_size2 {t b : Int} (ht : 0 ≤ t) (hb : 0 ≤ b) : fromL (planA t b) 7 ≤ 100000 := by
 obtain ⟨i,hi⟩ : ∃ i : Nat,t % 4 = (i : Int) ∧ i < 4 := ⟨(t % 4).toNat,by omega,by omega⟩
 obtain ⟨j,hj⟩ : ∃ j : Nat,b % 64 = (j : Int) ∧ j < 64 := ⟨(b % 64).toNat,by omega,by omega⟩
 unfold planA
 rw [hi.1,hj.1]
 have : ∀ i : Nat,i < 4 → ∀ j : Nat,j < 64 → fromL ⟨1 + (i : Int),8,1 + (j : Int)⟩ 7 ≤ 100000 := by decide +kernel
 exact this i hi.2 j hj.2
abbrev badLay : LayV := ⟨9,0,0⟩
theorem ok_arRight_bad : Ok 46 [.agg (eLay badLay),.v (.slice none 0 0)] (sB false) := by
 refine ok_of_tr Tryz.func46 tr_arRight rfl ?_
 have k0 := ok_layCheck badLay
 rw [show checkL badLay = 3 by decide] at k0
 unfold evFn sc_arRight rv_arRight
 refine eS fun _ hn1 _ _ => ?_;refine eO fun _ hk2 => ?_;refine tL0 ?_;refine hk2 _ ?_;refine hn1 (some ([1,2],none)) _ ?_;refine eS fun _ hn3 _ _ => ?_;refine eO fun _ hk4 => ?_;refine tC0 1 ?_;refine tS0 1 ?_;refine Or.inl (Or.inl ⟨_,k0,?_⟩);refine tC0 1 ?_;refine tC0 4 ?_;refine tS0 1 ?_
 skip
 refine tC0 1 ?_;refine tL0 ?_;refine hk4 _ ?_;refine hn3 (some ([4],none)) _ ?_
 exact sf0
theorem ok_arMark_bad : Ok 28 [.agg (eLay badLay),.v (.slice none 0 0),.v (.slice none 0 0)] (.tup [.v (.slice none 0 0),sI 1]) := by
 refine ok_of_tr Tryz.func28 tr_arMark rfl ?_
 have k0 := ok_arRight_bad
 unfold evFn sc_arMark rv_arMark
 refine eS fun _ hn1 _ _ => ?_;refine eO fun _ hk2 => ?_;refine tL0 ?_;refine hk2 _ ?_;refine hn1 (some ([1,2,3],none)) _ ?_;refine eS fun _ _ hr3 _ => ?_;refine eB fun _ _ _ hr4 _ => ?_;refine eS fun _ hn5 _ _ => ?_;refine eO fun _ hk6 => ?_;refine tC0 1 ?_;refine tS0 1 ?_;refine tS0 1 ?_;refine Or.inl (Or.inl ⟨_,k0,?_⟩);refine tL0 ?_;refine hk6 _ ?_;refine hn5 (some ([1,2,3,16],none)) _ ?_;refine eCt ?_;refine eS fun _ hn7 _ _ => ?_;refine eO fun _ hk8 => ?_;refine tL0 ?_;refine hk8 _ ?_;refine hn7 (some ([6,7],none)) _ ?_;refine hr4 _ ?_;refine hr3 _ ?_
 exact sf0
def nameS (l : LayV) (xs : List Int) (i : Nat) : List Nat := (List.range l.blocks.toNat).filter (fun c => (xs.take i).contains (c : Int))
def goodU (l : LayV) (x : Int) : Bool := !badU l x
theorem nameS_succ {l : LayV} {xs : List Int} {i : Nat} {u : Nat} (h : xs[i]? = some (u : Int)) (hu : u < l.blocks.toNat) : withG (nameS l xs i) u false = nameS l xs (i + 1) := by
 unfold nameS
 rw [with_range _ hu]
 refine List.filter_congr fun c _ => ?_
 rw [List.take_add_one,h,Bool.eq_iff_iff]
 simp
 constructor
 ·rintro (h | h)
  ·exact .inl h
  ·exact .inr (by omega)
 ·rintro (h | h)
  ·exact .inl h
  ·exact .inr (by omega)
theorem nameS_len (l : LayV) (xs : List Int) (i : Nat) : (nameS l xs i).length ≤ l.blocks.toNat := by
 unfold nameS; exact Nat.le_trans (List.length_filter_le _ _) (by simp)
def MaInv (l : LayV) (r : Int) (xs : List Int) (ws : List WordV) (k : Nat) (S : St) : Prop :=
 ∃ (i : Nat) (R : Bool) (A : List Nat),i ≤ xs.length ∧ k = xs.length - i ∧ R = (xs.take i).all (goodU l) ∧ A.length ≤ 64 ∧ (R = true → A = nameS l xs i) ∧
  S = ⟨[(1,.sl 1 2 (xs.map eZ)),(2,.v (.int .u8 r)),(7,.ptr 0 0 0),(8,.sl 3 0 (ws.map eWord)),(9,sB R),(10,.sl 1 0 (A.map eU)),(11,sI i)],[(0,.box 25 (eLay l))],1⟩
theorem goodU_iff (l : LayV) (x : Int) : goodU l x = true ↔ 0 ≤ x ∧ x < l.blocks := by
 unfold goodU badU; simp
theorem name_used {l : LayV} (hl : checkL l = 0) {ws : List WordV} (hw : fromL l 7 ≤ (ws.length : Int)) {us : List Nat} (hu : ∀ u ∈ us,u < l.blocks.toNat) : usedL l (wordF (markW l ws us)) = nameS l (us.map fun u : Nat => (u : Int)) us.length := by
 unfold usedL nameS
 refine List.filter_congr fun c hc => ?_
 rw [used_markW hl hw hu (List.mem_range.1 hc),List.take_of_length_le (by simp),Bool.eq_iff_iff]
 simp
 exact ⟨fun h => ⟨c,h,rfl⟩,fun ⟨a,h,e⟩ => (show a = c by omega) ▸ h⟩
theorem le_nil (k : Nat) : RepLe (.v (.slice none 0 0)) (.sl k 0 []) := fun H v hr => by
 obtain ⟨a,rfl,hk⟩ := nilS_rep (E := E0) rfl hr
 exact hk k
theorem ok_arUsed_none {l : LayV} (g : Nat) (ws : List WordV) (h : ¬ (checkL l = 0 ∧ fromL l 7 ≤ (ws.length : Int))) : Ok 19 [.agg (eLay l),.sl 3 g (ws.map eWord)] (.sl 1 0 []) := by
 refine ok_of_tr2 Tryz.func19 tr_arUsed rfl ?_
 have k0 := ok_arRight l g ws
 rw [decide_eq_false h] at k0
 unfold evFn2 sc_arUsed rv_arUsed
 refine eS fun _ hn1 _ _ => ?_;refine eO fun _ hk2 => ?_;refine tL0 ?_;refine hk2 _ ?_;refine hn1 (some ([1,2],none)) _ ?_;refine eS fun _ _ hr3 _ => ?_;refine eS fun _ hn4 _ _ => ?_;refine eO fun _ hk5 => ?_;refine tC0 1 ?_;refine tS0 1 ?_;refine tS0 1 ?_;refine Or.inl (Or.inl ⟨_,k0,?_⟩);refine tL0 ?_;refine hk5 _ ?_;refine hn4 (some ([1,2,12],none)) _ ?_;refine eCt ?_;refine eS fun _ hn6 _ _ => ?_;refine eO fun _ hk7 => ?_;refine tL0 ?_;refine hk7 _ ?_;refine hn6 (some ([4],none)) _ ?_;refine hr3 _ ?_;refine sg0 ?_
 exact le_nil _
theorem take_all {xs : List Int} {i : Nat} {x : Int} {p : Int → Bool} (h : xs[i]? = some x) : (xs.take (i + 1)).all p = ((xs.take i).all p && p x) := by
 rw [List.take_add_one,h]; simp
theorem goodU_no {l : LayV} {x : Int} (h : x < 0 ∨ l.blocks ≤ x) : goodU l x = false := by
 cases c : goodU l x
 ·rfl
 ·have := (goodU_iff l x).1 c; omega
set_option maxHeartbeats 8000000 in
set_option maxRecDepth 20000 in
theorem ok_ArenaMarks {t b : Int} (ht : 0 ≤ t ∧ t ≤ 255) (hb : 0 ≤ b ∧ b ≤ 255) (xs : List Int) {r : Int} (hr : 0 ≤ r ∧ r ≤ 255) : Ok 6 [.agg [.v (.int .u8 t),.v (.int .u8 b)],.sl 1 2 (xs.map eZ),.v (.int .u8 r)] (sB true) := by
 refine ok_of_tr Tryz.func6 tr_ArenaMarks rfl ?_
 by_cases hlong : (80 : Int) < (xs.length : Int)
 ·skip
  unfold evFn sc_ArenaMarks rv_ArenaMarks
  have F1 := @hlong
  refine eS fun K1 hn1 hr1 he1 => ?_;refine eO fun K2 hk2 => ?_;refine tL F1 ?_;refine hk2 _ ?_;refine hn1 (some ([1,2,3],none)) _ ?_;refine eS fun K3 hn3 hr3 he3 => ?_;refine eS fun K4 hn4 hr4 he4 => ?_;refine eO fun K5 hk5 => ?_;refine tZ F1 ?_;refine hk5 _ ?_;refine hn4 (some ([1,2,3,22],none)) _ ?_;refine eCt ?_;refine eS fun K6 hn6 hr6 he6 => ?_;refine eO fun K7 hk7 => ?_;refine tS 1 F1 ?_;refine Or.inl (Or.inl ⟨_,ok_l12awake,?_⟩);refine tL F1 ?_;refine hk7 _ ?_;refine hn6 (some ([6],none)) _ ?_;refine hr3 _ ?_
  exact sf1 F1
 have kp := ok_l12plan (t := t) (b := b) ht hb
 have hl := planA_ok (t := t) (b := b) ht.1 hb.1
 have hsz := plan_size2 (t := t) (b := b) ht.1 hb.1
 have hbl : 1 ≤ (planA t b).blocks := by show 1 ≤ 1 + b % 64; omega
 have hbl2 : (planA t b).blocks ≤ 64 := by show 1 + b % 64 ≤ 64; omega
 generalize planA t b = l at kp hl hsz hbl hbl2
 have kF := ok_layFirst l hl
 have hN : ((firstM l).length : Int) = fromL l 7 := by
  have h0 := (from_le (checkL_zero hl).1 7).1
  rw [firstM_len]; omega
 have hus0 : usedL l (wordF (firstM l)) = [] := by
  unfold usedL
  rw [List.filter_eq_nil_iff]
  intro c hc
  rw [first_used hl (by have := List.mem_range.1 hc; omega)]; simp
 generalize firstM l = ws at kF hN hus0
 -- the numbers: all good,or not
 obtain ⟨R0,X,e0,hR0,kM,hXl,hXr,hXu⟩ : ∃ (R0 : Bool) (X : List WordV) (e0 : Int),R0 = xs.all (goodU l) ∧ Ok 28 [.agg (eLay l),.sl 3 0 (ws.map eWord),.sl 1 2 (xs.map eZ)] (.tup [.sl 3 0 (X.map eWord),sI e0]) ∧ X.length = ws.length ∧ RestA l ws X ∧ ((R0 = true ∧ e0 = 0 ∧ usedL l (wordF X) = nameS l xs xs.length) ∨ (R0 = false ∧ e0 = 3 ∧ usedL l (wordF X) = [])) := by
  cases h : xs.all (goodU l)
  ·refine ⟨_,ws,3,rfl,ok_arMark_range hl 0 2 ws xs (by omega) (by omega) ?_,rfl,rest_refl l ws,.inr ⟨rfl,rfl,hus0⟩⟩
   rw [List.all_eq_false] at h
   obtain ⟨x,h1,h2⟩ := h
   exact List.any_eq_true.2 ⟨x,h1,by unfold goodU at h2; simpa using h2⟩
  ·rw [List.all_eq_true] at h
   have h2 : ∃ us : List Nat,xs = us.map (fun u : Nat => (u : Int)) ∧ ∀ u ∈ us,u < l.blocks.toNat := by
    refine ⟨xs.map Int.toNat,?_,fun u hu => ?_⟩
    ·rw [List.map_map]
     refine ((List.map_congr_left (g := id) fun x hx => ?_).trans (List.map_id xs)).symm
     have := (goodU_iff l x).1 (h x hx)
     show ((x.toNat : Nat) : Int) = x
     omega
    ·obtain ⟨x,hx,rfl⟩ := List.mem_map.1 hu
     have := (goodU_iff l x).1 (h x hx)
     omega
   obtain ⟨us,rfl,hu⟩ := h2
   have hm : (us.map (fun u : Nat => (u : Int))).map eZ = us.map eU := by rw [List.map_map]; rfl
   refine ⟨_,markW l ws us,0,rfl,?_,markW_len _ _ _,markW_rest hl ws hu,.inl ⟨rfl,rfl,?_⟩⟩
   ·rw [hm]; exact ok_arMark hl 0 2 ws us (by omega) (by omega) (by simp at hlong; omega) hu
   ·rw [name_used hl (by omega) hu,List.length_map]
 have hNl : (ws.length : Int) ≤ 100000 := by omega
 obtain ⟨k,hk,wk1,wk2,wk3,wk4⟩ : ∃ k : Nat,k ≤ ws.length ∧ IntKind.i64.wrap r = r ∧ IntKind.i64.wrap ((ws.length : Int) + 1) = (ws.length : Int) + 1 ∧ r.tmod ((ws.length : Int) + 1) = (k : Int) ∧ ((ws.length : Int) + 1) ≠ 0 := by
  have p0 := Int.emod_nonneg r (show (ws.length : Int) + 1 ≠ 0 by omega)
  have p1 := Int.emod_lt_of_pos r (show 0 < (ws.length : Int) + 1 by omega)
  exact ⟨(r % ((ws.length : Int) + 1)).toNat,by omega,by rw [IntKind.wrap_i64]; omega,by rw [IntKind.wrap_i64]; omega,by rw [Int.tmod_eq_emod_of_nonneg hr.1]; omega,by omega⟩
 have kE := ok_l12rest hl hbl 0 0 ws X (by omega) hXr
 have kU := ok_arUsed hl 0 X (by omega)
 have kB := ok_arMark_bad
 unfold evFn sc_ArenaMarks rv_ArenaMarks
 have F1 := @hlong
 refine eS fun K1 hn1 hr1 he1 => ?_;refine eO fun K2 hk2 => ?_;refine tL F1 ?_;refine hk2 _ ?_;refine hn1 (some ([1,2,3],none)) _ ?_;refine eS fun K3 hn3 hr3 he3 => ?_;refine eS fun K4 hn4 hr4 he4 => ?_;refine eO fun K5 hk5 => ?_;refine tZ F1 ?_;refine hk5 _ ?_;refine hn4 (some ([1,2,3,22],none)) _ ?_;refine eCf ?_;refine hn3 (some ([1,2,3],none)) _ ?_;refine eS fun K6 hn6 hr6 he6 => ?_;refine eO fun K7 hk7 => ?_;refine tC 1 F1 ?_;refine tC 1 F1 ?_;refine tC 1 F1 ?_;refine tC 1 F1 ?_;refine tS 1 F1 ?_;refine Or.inl (Or.inl ⟨_,kp,?_⟩);refine tZ F1 ?_;refine hk7 _ ?_;refine hn6 (some ([1,2,7],none)) _ ?_;refine eS fun _ hn8 _ _ => ?_;refine eO fun _ hk9 => ?_;refine tC 1 F1 ?_;refine tS 1 F1 ?_;refine Or.inl (Or.inl ⟨_,kF,?_⟩);refine tL F1 ?_;refine hk9 _ ?_;refine hn8 (some ([1,2,7,8],none)) _ ?_;refine eS fun _ hn10 _ _ => ?_;refine eO fun _ hk11 => ?_;refine tL F1 ?_;refine hk11 _ ?_
 refine hn10 (some ([1,2,7,8,9],none)) _ ?_;refine eS fun _ hn12 _ _ => ?_;refine eO fun _ hk13 => ?_;refine tL F1 ?_;refine hk13 _ ?_;refine hn12 (some ([1,2,7,8,9,10],none)) _ ?_;refine eS fun _ hn14 _ _ => ?_;refine eS fun _ hn15 _ _ => ?_;refine eO fun _ hk16 => ?_;refine tL F1 ?_;refine hk16 _ ?_;refine hn15 (some ([1,2,7,8,9,10,11],none)) _ ?_;refine eB fun _ _ hx17 _ _ => ?_;refine eW (MaInv l r xs ws) (xs.length) (some ([1,2,7,8,9,10,11],some ([1],1))) ([.slot 10 none 1]) ?_ ?_
 ·try refine lp0 ?_
  exact ⟨0,true,[],by omega,by omega,by rw [List.take_zero]; rfl,by simp,fun _ => by unfold nameS; simp,by rfl⟩
 ·intro k S1 hI
  obtain ⟨i,R,A,hi,rfl,hR,hA,hAn,rfl⟩ := hI
  have w3 : IntKind.i64.wrap ((i : Int) + 1) = ((i + 1 : Nat) : Int) := by rw [IntKind.wrap_i64]; omega
  have hk2 : k = ws.length ∨ k < ws.length := by omega
  have hcase : ((i = xs.length ∧ R = R0) ∧ ((R0 = true ∧ e0 = 0 ∧ usedL l (wordF X) = nameS l xs xs.length) ∨ (R0 = false ∧ e0 = 3 ∧ usedL l (wordF X) = [])) ∧ (k = ws.length ∨ k < ws.length)) ∨ ∃ x,xs[i]? = some x ∧ (i : Int) < (xs.length : Int) ∧ ((R = true ∧ ∃ u : Nat,x = (u : Int) ∧ u < l.blocks.toNat) ∨ (R = true ∧ x < 0) ∨ (R = true ∧ ¬ x < 0 ∧ l.blocks ≤ x) ∨ R = false) := by
   rcases Nat.lt_or_ge i xs.length with h | h
   ·refine .inr ⟨_,List.getElem?_eq_getElem h,by omega,?_⟩
    cases R
    ·exact .inr (.inr (.inr rfl))
    ·by_cases c : xs[i] < 0
     ·exact .inr (.inl ⟨rfl,c⟩)
     ·by_cases c2 : l.blocks ≤ xs[i]
      ·exact .inr (.inr (.inl ⟨rfl,c,c2⟩))
      ·exact .inl ⟨rfl,xs[i].toNat,by omega,by omega⟩
   ·exact .inl ⟨⟨by omega,by rw [hR,hR0,List.take_of_length_le h]⟩,hXu,hk2⟩
  intro _ hn18 _ he18
  rcases hcase with ⟨⟨hcc,hRR⟩,⟨hr1,he1,hu1⟩ | ⟨hr1,he1,hu1⟩,hk1 | hk1⟩ | ⟨x,hx1,w2,⟨hRt,u,hxu,hu⟩ | ⟨hRt,hx0⟩ | ⟨hRt,hx0,hxb⟩ | hRt⟩
  ·skip
   have w2 : ¬ (i : Int) < (xs.length : Int) := by omega
   rw [hr1] at hRR
   rw [he1] at kM
   have hA3 := hAn hRR
   rw [hcc,← hu1] at hA3
   subst hA3
   have kS := ok_r12Same 0 0 (usedL l (wordF X)) (usedL l (wordF X)) (by omega) (by omega)
   rw [decide_eq_true rfl] at kS
   subst hRR
   have ht : (ws.map eWord).take k = ws.map eWord := by rw [List.take_of_length_le (by simp; omega)]
   have kM2 : ∀ g,Ok 28 [.agg (eLay l),.sl 3 g (ws.map eWord),.sl 1 0 [[sI 0]]] (.tup [.sl 3 0 ((markW l ws [0]).map eWord),sI 0]) := fun g => ok_arMark hl g 0 ws [0] (by omega) (by omega) (by simp) (fun u hu => by simp at hu; omega)
   have hY := markW_len l ws [0]
   generalize markW l ws [0] = Y at kM2 hY
   have wke : ((k : Int) == (ws.length : Int)) = true := by rw [hk1]; simp
   have wy : ((Y.length : Int) == (k : Int)) = true := by rw [hY,hk1]; simp
   have wk9 : (k : Int) ≤ (ws.length : Int) := by omega
   have wk8 : (0 : Int) ≤ (k : Int) := by omega
   have F2 := And.intro F1 (And.intro @w2 (And.intro @wk1 (And.intro @wk2 (And.intro @wk3 (And.intro @wk4 (And.intro @ht (And.intro @wke (And.intro @wy (And.intro @wk8 @wk9)))))))))
   refine eS fun _ _ _ he19 => ?_;refine eS fun _ hn20 _ _ => ?_;refine eO fun _ hk21 => ?_;refine tS 3 F2 ?_;refine tZ F2 ?_;refine hk21 _ ?_;refine hn20 (some ([1,2,7,8,9,10,11,34],none)) _ ?_;refine eCf ?_;refine he19 0 _ ?_;refine he18 0 _ ?_;refine hx17 _ ?_;refine hn14 (some ([1,2,7,8,9,10],none)) _ ?_;refine eS fun _ hn22 _ _ => ?_;refine eO fun _ hk23 => ?_;refine tC 1 F2 ?_;refine tS 2 F2 ?_;refine tS 1 F2 ?_;refine Or.inl (Or.inl ⟨_,kM,?_⟩);refine tS 3 F2 ?_;refine tL F2 ?_;refine hk23 _ ?_;refine hn22 (some ([2,7,8,9,10,12,13],none)) _ ?_;refine eS fun _ hn24 _ _ => ?_;refine eS fun _ hn25 _ _ => ?_;refine eO fun _ hk26 => ?_;refine tC 3 F2 ?_;refine tS 1 F2 ?_;refine Or.inl ⟨_,eqsh_bool _ _,?_⟩;refine tS 3 F2 ?_;refine tC 3 F2 ?_;refine tS 3 F2 ?_;refine tC 1 F2 ?_;refine tS 2 F2 ?_;refine tS 1 F2 ?_;refine Or.inl (Or.inl ⟨_,kE,?_⟩);refine tL F2 ?_;refine hk26 _ ?_
   refine hn25 (some ([2,7,8,9,10,12,86],none)) _ ?_;refine eCf ?_;refine hn24 (some ([2,7,8,9,10,12],none)) _ ?_;refine eS fun _ hn27 _ _ => ?_;refine eS fun _ hn28 _ _ => ?_;refine eO fun _ hk29 => ?_;refine tC 3 F2 ?_;refine tS 1 F2 ?_;refine tS 1 F2 ?_;refine Or.inl (Or.inl ⟨_,kU,?_⟩);refine tS 1 F2 ?_;refine tS 1 F2 ?_;refine Or.inl (Or.inl ⟨_,kS,?_⟩);refine tS 3 F2 ?_;refine tS 3 F2 ?_;refine tC 1 F2 ?_;refine tS 1 F2 ?_;refine tS 1 F2 ?_
   skip
   refine tC 2 F2 ?_;refine tL F2 ?_;refine hk29 _ ?_;refine hn28 (some ([2,7,8,106],none)) _ ?_;refine eCf ?_;refine hn27 (some ([2,7,8],none)) _ ?_;refine eS fun _ hn30 _ _ => ?_;refine eO fun _ hk31 => ?_;refine tS 3 F2 ?_;refine tC 2 F2 ?_;refine tC 1 F2 ?_;refine tL F2 ?_;refine hk31 _ ?_;refine hn30 (some ([7,8,14],none)) _ ?_;refine eS fun _ hn32 _ _ => ?_;refine eD [] (n := 9) fun _ hk33 => ?_;refine sq0 ?_;refine fC 1 F2 ?_;refine fC 3 F2 ?_;refine fC 1 F2 ?_;refine fS 1 F2 ?_;refine ⟨_,kM2 _,?_⟩;refine fL F2 ?_;refine hk33 _ ?_;refine sr0 ?_;refine tL F2 ?_;refine hn32 (some ([7,8,14,15,16],none)) _ ?_;refine eS fun _ hn35 _ _ => ?_;refine eO fun _ hk36 => ?_;refine tZ F2 ?_;refine hk36 _ ?_;refine hn35 (some ([7,8,14,15,16,17],none)) _ ?_;refine eS fun _ hn37 _ _ => ?_;refine eO fun _ hk38 => ?_;refine tC 1 F2 ?_;refine tS 1 F2 ?_;refine Or.inl (Or.inl ⟨_,kB,?_⟩);refine tS 3 F2 ?_
   refine tL F2 ?_;refine hk38 _ ?_;refine hn37 (some ([7,8,14,15,16,19],none)) _ ?_;refine eS fun _ hn39 _ _ => ?_;refine eD [] (n := 23) fun _ hk40 => ?_;refine sq0 ?_;refine fC 2 F2 ?_;refine fS 3 F2 ?_;refine fC 1 F2 ?_;refine fS 1 F2 ?_;refine ⟨_,eqsh_bool _ _,?_⟩;refine fS 3 F2 ?_;refine fC 2 F2 ?_;refine fS 3 F2 ?_;refine fC 3 F2 ?_;refine fC 2 F2 ?_;refine fZ F2 ?_;refine hk40 _ ?_;refine sr0 ?_;refine tS 1 F2 ?_
   skip
   refine tC 2 F2 ?_;refine tS 3 F2 ?_;refine tC 2 F2 ?_;refine tS 2 F2 ?_;refine tS 1 F2 ?_;refine Or.inl (Or.inl ⟨_,ok_l12awake,?_⟩);refine tL F2 ?_;refine hn39 (some ([6],none)) _ ?_
   exact sf1 F2
  ·skip
   have w2 : ¬ (i : Int) < (xs.length : Int) := by omega
   rw [hr1] at hRR
   rw [he1] at kM
   have hA3 := hAn hRR
   rw [hcc,← hu1] at hA3
   subst hA3
   have kS := ok_r12Same 0 0 (usedL l (wordF X)) (usedL l (wordF X)) (by omega) (by omega)
   rw [decide_eq_true rfl] at kS
   subst hRR
   have ht : (ws.map eWord).take k = (ws.take k).map eWord := by rw [List.map_take]
   have hlt : (ws.take k).length = k := by rw [List.length_take]; omega
   generalize ws.take k = Y at ht hlt
   have hno : ¬ (checkL l = 0 ∧ fromL l 7 ≤ (Y.length : Int)) := fun h => by omega
   have kM2 := fun g => ok_arMark_arg (l := l) g Y (.sl 1 0 [[sI 0]]) hno
   have kU2 := fun g => ok_arUsed_none (l := l) g Y hno
   have w00 : (((0 : Nat) : Int) == 0) = true := rfl
   have wke : ((k : Int) == (ws.length : Int)) = false := by rw [beq_eq_false_iff_ne]; omega
   have wy : ((Y.length : Int) == (k : Int)) = true := by rw [hlt]; simp
   have wk9 : (k : Int) ≤ (ws.length : Int) := by omega
   have wk8 : (0 : Int) ≤ (k : Int) := by omega
   have F3 := And.intro F1 (And.intro @w2 (And.intro @wk1 (And.intro @wk2 (And.intro @wk3 (And.intro @wk4 (And.intro @ht (And.intro @wke (And.intro @wy (And.intro @wk8 (And.intro @wk9 @w00))))))))))
   refine eS fun _ _ _ he42 => ?_;refine eS fun _ hn43 _ _ => ?_;refine eO fun _ hk44 => ?_;refine tS 3 F3 ?_;refine tZ F3 ?_;refine hk44 _ ?_;refine hn43 (some ([1,2,7,8,9,10,11,34],none)) _ ?_;refine eCf ?_;refine he42 0 _ ?_;refine he18 0 _ ?_;refine hx17 _ ?_;refine hn14 (some ([1,2,7,8,9,10],none)) _ ?_;refine eS fun _ hn45 _ _ => ?_;refine eO fun _ hk46 => ?_;refine tC 1 F3 ?_;refine tS 2 F3 ?_;refine tS 1 F3 ?_;refine Or.inl (Or.inl ⟨_,kM,?_⟩);refine tS 3 F3 ?_;refine tL F3 ?_;refine hk46 _ ?_;refine hn45 (some ([2,7,8,9,10,12,13],none)) _ ?_;refine eS fun _ hn47 _ _ => ?_;refine eS fun _ hn48 _ _ => ?_;refine eO fun _ hk49 => ?_;refine tC 3 F3 ?_;refine tS 1 F3 ?_;refine Or.inl ⟨_,eqsh_bool _ _,?_⟩;refine tS 3 F3 ?_;refine tC 3 F3 ?_;refine tS 3 F3 ?_;refine tC 1 F3 ?_;refine tS 2 F3 ?_;refine tS 1 F3 ?_;refine Or.inl (Or.inl ⟨_,kE,?_⟩);refine tL F3 ?_;refine hk49 _ ?_
   refine hn48 (some ([2,7,8,9,10,12,86],none)) _ ?_;refine eCf ?_;refine hn47 (some ([2,7,8,9,10,12],none)) _ ?_;refine eS fun _ hn50 _ _ => ?_;refine eS fun _ hn51 _ _ => ?_;refine eO fun _ hk52 => ?_;refine tC 3 F3 ?_;refine tS 1 F3 ?_;refine tS 1 F3 ?_;refine Or.inl (Or.inl ⟨_,kU,?_⟩);refine tS 1 F3 ?_;refine tS 1 F3 ?_;refine Or.inl (Or.inl ⟨_,kS,?_⟩);refine tS 3 F3 ?_;refine tS 3 F3 ?_;refine tC 1 F3 ?_;refine tS 1 F3 ?_;refine tS 1 F3 ?_
   skip
   refine tC 2 F3 ?_;refine tL F3 ?_;refine hk52 _ ?_;refine hn51 (some ([2,7,8,106],none)) _ ?_;refine eCf ?_;refine hn50 (some ([2,7,8],none)) _ ?_;refine eS fun _ hn53 _ _ => ?_;refine eO fun _ hk54 => ?_;refine tS 3 F3 ?_;refine tC 2 F3 ?_;refine tC 1 F3 ?_;refine tL F3 ?_;refine hk54 _ ?_;refine hn53 (some ([7,8,14],none)) _ ?_;refine eS fun _ hn55 _ _ => ?_;refine eD [] (n := 9) fun _ hk56 => ?_;refine sq0 ?_;refine fC 1 F3 ?_;refine fC 3 F3 ?_;refine fC 1 F3 ?_;refine fS 1 F3 ?_;refine ⟨_,kM2 _,?_⟩;refine fL F3 ?_;refine hk56 _ ?_;refine sr0 ?_;refine tL F3 ?_;refine hn55 (some ([7,8,14,15,16],none)) _ ?_;refine eS fun _ hn58 _ _ => ?_;refine eO fun _ hk59 => ?_;refine tZ F3 ?_;refine hk59 _ ?_;refine hn58 (some ([7,8,14,15,16,17],none)) _ ?_;refine eS fun _ hn60 _ _ => ?_;refine eO fun _ hk61 => ?_;refine tC 1 F3 ?_;refine tS 1 F3 ?_;refine Or.inl (Or.inl ⟨_,kB,?_⟩);refine tS 3 F3 ?_
   refine tL F3 ?_;refine hk61 _ ?_;refine hn60 (some ([7,8,14,15,16,19],none)) _ ?_;refine eS fun _ hn62 _ _ => ?_;refine eD [] (n := 23) fun _ hk63 => ?_;refine sq0 ?_;refine fC 2 F3 ?_;refine fS 3 F3 ?_;refine fC 1 F3 ?_;refine fS 1 F3 ?_;refine ⟨_,eqsh_bool _ _,?_⟩;refine fS 3 F3 ?_;refine fC 2 F3 ?_;refine fS 3 F3 ?_;refine fC 3 F3 ?_;refine fC 2 F3 ?_;refine fZ F3 ?_;refine hk63 _ ?_;refine sr0 ?_;refine tS 1 F3 ?_;refine Or.inl (Or.inl ⟨_,kU2 _,?_⟩);refine tC 2 F3 ?_;refine tS 3 F3 ?_;refine tC 2 F3 ?_;refine tS 2 F3 ?_;refine tS 1 F3 ?_;refine Or.inl (Or.inl ⟨_,ok_l12awake,?_⟩);refine tL F3 ?_;refine hn62 (some ([6],none)) _ ?_
   exact sf1 F3
  ·skip
   have w2 : ¬ (i : Int) < (xs.length : Int) := by omega
   rw [hr1] at hRR
   rw [he1] at kM
   rw [hu1] at kU
   subst hRR
   have ht : (ws.map eWord).take k = ws.map eWord := by rw [List.take_of_length_le (by simp; omega)]
   have kM2 : ∀ g,Ok 28 [.agg (eLay l),.sl 3 g (ws.map eWord),.sl 1 0 [[sI 0]]] (.tup [.sl 3 0 ((markW l ws [0]).map eWord),sI 0]) := fun g => ok_arMark hl g 0 ws [0] (by omega) (by omega) (by simp) (fun u hu => by simp at hu; omega)
   have hY := markW_len l ws [0]
   generalize markW l ws [0] = Y at kM2 hY
   have wke : ((k : Int) == (ws.length : Int)) = true := by rw [hk1]; simp
   have wy : ((Y.length : Int) == (k : Int)) = true := by rw [hY,hk1]; simp
   have wk9 : (k : Int) ≤ (ws.length : Int) := by omega
   have wk8 : (0 : Int) ≤ (k : Int) := by omega
   have F4 := And.intro F1 (And.intro @w2 (And.intro @wk1 (And.intro @wk2 (And.intro @wk3 (And.intro @wk4 (And.intro @ht (And.intro @wke (And.intro @wy (And.intro @wk8 @wk9)))))))))
   refine eS fun _ _ _ he65 => ?_;refine eS fun _ hn66 _ _ => ?_;refine eO fun _ hk67 => ?_;refine tS 3 F4 ?_;refine tZ F4 ?_;refine hk67 _ ?_;refine hn66 (some ([1,2,7,8,9,10,11,34],none)) _ ?_;refine eCf ?_;refine he65 0 _ ?_;refine he18 0 _ ?_;refine hx17 _ ?_;refine hn14 (some ([1,2,7,8,9,10],none)) _ ?_;refine eS fun _ hn68 _ _ => ?_;refine eO fun _ hk69 => ?_;refine tC 1 F4 ?_;refine tS 2 F4 ?_;refine tS 1 F4 ?_;refine Or.inl (Or.inl ⟨_,kM,?_⟩);refine tS 3 F4 ?_;refine tL F4 ?_;refine hk69 _ ?_;refine hn68 (some ([2,7,8,9,10,12,13],none)) _ ?_;refine eS fun _ hn70 _ _ => ?_;refine eS fun _ hn71 _ _ => ?_;refine eO fun _ hk72 => ?_;refine tC 3 F4 ?_;refine tS 1 F4 ?_;refine Or.inl ⟨_,eqsh_bool _ _,?_⟩;refine tS 3 F4 ?_;refine tC 3 F4 ?_;refine tS 3 F4 ?_;refine tC 1 F4 ?_;refine tS 2 F4 ?_;refine tS 1 F4 ?_;refine Or.inl (Or.inl ⟨_,kE,?_⟩);refine tL F4 ?_;refine hk72 _ ?_
   refine hn71 (some ([2,7,8,9,10,12,86],none)) _ ?_;refine eCf ?_;refine hn70 (some ([2,7,8,9,10,12],none)) _ ?_;refine eS fun _ hn73 _ _ => ?_;refine eS fun _ hn74 _ _ => ?_;refine eO fun _ hk75 => ?_;refine tC 3 F4 ?_;refine tS 1 F4 ?_;refine tS 1 F4 ?_
   skip
   refine tS 1 F4 ?_;refine tS 1 F4 ?_
   skip
   refine tS 3 F4 ?_;refine tS 3 F4 ?_;refine tC 1 F4 ?_;refine tS 1 F4 ?_;refine tS 1 F4 ?_;refine Or.inl (Or.inl ⟨_,kU,?_⟩);refine tC 2 F4 ?_;refine tL F4 ?_;refine hk75 _ ?_;refine hn74 (some ([2,7,8,106],none)) _ ?_;refine eCf ?_;refine hn73 (some ([2,7,8],none)) _ ?_;refine eS fun _ hn76 _ _ => ?_;refine eO fun _ hk77 => ?_;refine tS 3 F4 ?_;refine tC 2 F4 ?_;refine tC 1 F4 ?_;refine tL F4 ?_;refine hk77 _ ?_;refine hn76 (some ([7,8,14],none)) _ ?_;refine eS fun _ hn78 _ _ => ?_;refine eD [] (n := 9) fun _ hk79 => ?_;refine sq0 ?_;refine fC 1 F4 ?_;refine fC 3 F4 ?_;refine fC 1 F4 ?_;refine fS 1 F4 ?_;refine ⟨_,kM2 _,?_⟩;refine fL F4 ?_;refine hk79 _ ?_;refine sr0 ?_;refine tL F4 ?_;refine hn78 (some ([7,8,14,15,16],none)) _ ?_;refine eS fun _ hn81 _ _ => ?_;refine eO fun _ hk82 => ?_;refine tZ F4 ?_;refine hk82 _ ?_;refine hn81 (some ([7,8,14,15,16,17],none)) _ ?_;refine eS fun _ hn83 _ _ => ?_
   refine eO fun _ hk84 => ?_;refine tC 1 F4 ?_;refine tS 1 F4 ?_;refine Or.inl (Or.inl ⟨_,kB,?_⟩);refine tS 3 F4 ?_;refine tL F4 ?_;refine hk84 _ ?_;refine hn83 (some ([7,8,14,15,16,19],none)) _ ?_;refine eS fun _ hn85 _ _ => ?_;refine eD [] (n := 23) fun _ hk86 => ?_;refine sq0 ?_;refine fC 2 F4 ?_;refine fS 3 F4 ?_;refine fC 1 F4 ?_;refine fS 1 F4 ?_;refine ⟨_,eqsh_bool _ _,?_⟩;refine fS 3 F4 ?_;refine fC 2 F4 ?_;refine fS 3 F4 ?_;refine fC 3 F4 ?_;refine fC 2 F4 ?_;refine fZ F4 ?_;refine hk86 _ ?_;refine sr0 ?_;refine tS 1 F4 ?_
   skip
   refine tC 2 F4 ?_;refine tS 3 F4 ?_;refine tC 2 F4 ?_;refine tS 2 F4 ?_;refine tS 1 F4 ?_;refine Or.inl (Or.inl ⟨_,ok_l12awake,?_⟩);refine tL F4 ?_;refine hn85 (some ([6],none)) _ ?_
   exact sf1 F4
  ·skip
   have w2 : ¬ (i : Int) < (xs.length : Int) := by omega
   rw [hr1] at hRR
   rw [he1] at kM
   rw [hu1] at kU
   subst hRR
   have ht : (ws.map eWord).take k = (ws.take k).map eWord := by rw [List.map_take]
   have hlt : (ws.take k).length = k := by rw [List.length_take]; omega
   generalize ws.take k = Y at ht hlt
   have hno : ¬ (checkL l = 0 ∧ fromL l 7 ≤ (Y.length : Int)) := fun h => by omega
   have kM2 := fun g => ok_arMark_arg (l := l) g Y (.sl 1 0 [[sI 0]]) hno
   have kU2 := fun g => ok_arUsed_none (l := l) g Y hno
   have w00 : (((0 : Nat) : Int) == 0) = true := rfl
   have wke : ((k : Int) == (ws.length : Int)) = false := by rw [beq_eq_false_iff_ne]; omega
   have wy : ((Y.length : Int) == (k : Int)) = true := by rw [hlt]; simp
   have wk9 : (k : Int) ≤ (ws.length : Int) := by omega
   have wk8 : (0 : Int) ≤ (k : Int) := by omega
   have F5 := And.intro F1 (And.intro @w2 (And.intro @wk1 (And.intro @wk2 (And.intro @wk3 (And.intro @wk4 (And.intro @ht (And.intro @wke (And.intro @wy (And.intro @wk8 (And.intro @wk9 @w00))))))))))
   refine eS fun _ _ _ he88 => ?_;refine eS fun _ hn89 _ _ => ?_;refine eO fun _ hk90 => ?_;refine tS 3 F5 ?_;refine tZ F5 ?_;refine hk90 _ ?_;refine hn89 (some ([1,2,7,8,9,10,11,34],none)) _ ?_;refine eCf ?_;refine he88 0 _ ?_;refine he18 0 _ ?_;refine hx17 _ ?_;refine hn14 (some ([1,2,7,8,9,10],none)) _ ?_;refine eS fun _ hn91 _ _ => ?_;refine eO fun _ hk92 => ?_;refine tC 1 F5 ?_;refine tS 2 F5 ?_;refine tS 1 F5 ?_;refine Or.inl (Or.inl ⟨_,kM,?_⟩);refine tS 3 F5 ?_;refine tL F5 ?_;refine hk92 _ ?_;refine hn91 (some ([2,7,8,9,10,12,13],none)) _ ?_;refine eS fun _ hn93 _ _ => ?_;refine eS fun _ hn94 _ _ => ?_;refine eO fun _ hk95 => ?_;refine tC 3 F5 ?_;refine tS 1 F5 ?_;refine Or.inl ⟨_,eqsh_bool _ _,?_⟩;refine tS 3 F5 ?_;refine tC 3 F5 ?_;refine tS 3 F5 ?_;refine tC 1 F5 ?_;refine tS 2 F5 ?_;refine tS 1 F5 ?_;refine Or.inl (Or.inl ⟨_,kE,?_⟩);refine tL F5 ?_;refine hk95 _ ?_
   refine hn94 (some ([2,7,8,9,10,12,86],none)) _ ?_;refine eCf ?_;refine hn93 (some ([2,7,8,9,10,12],none)) _ ?_;refine eS fun _ hn96 _ _ => ?_;refine eS fun _ hn97 _ _ => ?_;refine eO fun _ hk98 => ?_;refine tC 3 F5 ?_;refine tS 1 F5 ?_;refine tS 1 F5 ?_
   skip
   refine tS 1 F5 ?_;refine tS 1 F5 ?_
   skip
   refine tS 3 F5 ?_;refine tS 3 F5 ?_;refine tC 1 F5 ?_;refine tS 1 F5 ?_;refine tS 1 F5 ?_;refine Or.inl (Or.inl ⟨_,kU,?_⟩);refine tC 2 F5 ?_;refine tL F5 ?_;refine hk98 _ ?_;refine hn97 (some ([2,7,8,106],none)) _ ?_;refine eCf ?_;refine hn96 (some ([2,7,8],none)) _ ?_;refine eS fun _ hn99 _ _ => ?_;refine eO fun _ hk100 => ?_;refine tS 3 F5 ?_;refine tC 2 F5 ?_;refine tC 1 F5 ?_;refine tL F5 ?_;refine hk100 _ ?_;refine hn99 (some ([7,8,14],none)) _ ?_;refine eS fun _ hn101 _ _ => ?_;refine eD [] (n := 9) fun _ hk102 => ?_;refine sq0 ?_;refine fC 1 F5 ?_;refine fC 3 F5 ?_;refine fC 1 F5 ?_;refine fS 1 F5 ?_;refine ⟨_,kM2 _,?_⟩;refine fL F5 ?_;refine hk102 _ ?_;refine sr0 ?_;refine tL F5 ?_;refine hn101 (some ([7,8,14,15,16],none)) _ ?_;refine eS fun _ hn104 _ _ => ?_;refine eO fun _ hk105 => ?_;refine tZ F5 ?_;refine hk105 _ ?_;refine hn104 (some ([7,8,14,15,16,17],none)) _ ?_
   refine eS fun _ hn106 _ _ => ?_;refine eO fun _ hk107 => ?_;refine tC 1 F5 ?_;refine tS 1 F5 ?_;refine Or.inl (Or.inl ⟨_,kB,?_⟩);refine tS 3 F5 ?_;refine tL F5 ?_;refine hk107 _ ?_;refine hn106 (some ([7,8,14,15,16,19],none)) _ ?_;refine eS fun _ hn108 _ _ => ?_;refine eD [] (n := 23) fun _ hk109 => ?_;refine sq0 ?_;refine fC 2 F5 ?_;refine fS 3 F5 ?_;refine fC 1 F5 ?_;refine fS 1 F5 ?_;refine ⟨_,eqsh_bool _ _,?_⟩;refine fS 3 F5 ?_;refine fC 2 F5 ?_;refine fS 3 F5 ?_;refine fC 3 F5 ?_;refine fC 2 F5 ?_;refine fZ F5 ?_;refine hk109 _ ?_;refine sr0 ?_;refine tS 1 F5 ?_;refine Or.inl (Or.inl ⟨_,kU2 _,?_⟩);refine tC 2 F5 ?_;refine tS 3 F5 ?_;refine tC 2 F5 ?_;refine tS 2 F5 ?_;refine tS 1 F5 ?_;refine Or.inl (Or.inl ⟨_,ok_l12awake,?_⟩);refine tL F5 ?_;refine hn108 (some ([6],none)) _ ?_
   exact sf1 F5
  ·skip
   subst hRt hxu
   have hA3 := hAn rfl
   subst hA3
   have kW := ok_r12With 0 (nameS l xs i) u (by omega)
   rw [nameS_succ hx1 hu] at kW
   have wg : decide ((u : Int) ≥ 0) = true := decide_eq_true (by omega)
   have wl : (u : Int) < l.blocks := by omega
   have F6 := And.intro F1 (And.intro @w2 (And.intro @w3 (And.intro @hx1 (And.intro @wg @wl))))
   refine eS fun _ hn111 _ _ => ?_;refine eS fun _ hn112 _ _ => ?_;refine eO fun _ hk113 => ?_;refine tS 3 F6 ?_;refine tZ F6 ?_;refine hk113 _ ?_;refine hn112 (some ([1,2,7,8,9,10,11,34],none)) _ ?_;refine eCt ?_;refine hn111 (some ([1,2,7,8,9,10,11],none)) _ ?_;refine eS fun _ hn114 _ _ => ?_;refine eB fun _ hn115 _ _ _ => ?_;refine eS fun _ hn116 _ _ => ?_;refine eD [] (n := 15) fun _ hk117 => ?_;refine sq0 ?_;refine fS 3 F6 ?_;refine fC 2 F6 ?_;refine fC 1 F6 ?_;refine fC 1 F6 ?_;refine fS 3 F6 ?_;refine fC 2 F6 ?_;refine fC 1 F6 ?_;refine fZ F6 ?_;refine hk117 _ ?_;refine sr0 ?_;refine tC 1 F6 ?_;refine tL F6 ?_;refine hn116 (some ([1,2,7,8,9,10,11],none)) _ ?_;refine eS fun _ hn119 _ _ => ?_;refine eO fun _ hk120 => ?_;refine tL F6 ?_;refine hk120 _ ?_;refine hn119 (some ([1,2,7,8,9,10,11,54],none)) _ ?_;refine eCt ?_;refine eO fun _ hk121 => ?_;refine tS 3 F6 ?_;refine tC 1 F6 ?_
   refine tC 1 F6 ?_;refine tS 1 F6 ?_;refine Or.inl (Or.inl ⟨_,kW,?_⟩);refine tL F6 ?_;refine hk121 _ ?_;refine hn115 _ ?_;refine hn114 (some ([1,2,7,8,9,10,11],none)) _ ?_;refine eO fun _ hk122 => ?_;refine tC 2 F6 ?_;refine tL F6 ?_;refine hk122 _ ?_;refine hn18 (xs.length - (i + 1)) (some ([1,2,7,8,9,10,11],some ([1],1))) _ ?_ ?_
   all_goals try refine lp0 ?_
   ·omega
   ·exact ⟨i + 1,true,nameS l xs (i + 1),by omega,rfl,by rw [take_all hx1,← hR,(goodU_iff l _).2 ⟨by omega,by omega⟩]; rfl,Nat.le_trans (nameS_len _ _ _) (by omega),fun _ => rfl,rfl⟩
  ·skip
   subst hRt
   have wg : decide (x ≥ 0) = false := decide_eq_false (by omega)
   have F7 := And.intro F1 (And.intro @w2 (And.intro @w3 (And.intro @hx1 @wg)))
   refine eS fun _ hn123 _ _ => ?_;refine eS fun _ hn124 _ _ => ?_;refine eO fun _ hk125 => ?_;refine tS 3 F7 ?_;refine tZ F7 ?_;refine hk125 _ ?_;refine hn124 (some ([1,2,7,8,9,10,11,34],none)) _ ?_;refine eCt ?_;refine hn123 (some ([1,2,7,8,9,10,11],none)) _ ?_;refine eS fun _ hn126 _ _ => ?_;refine eB fun _ hn127 _ _ _ => ?_;refine eS fun _ hn128 _ _ => ?_;refine eD [] (n := 15) fun _ hk129 => ?_;refine sq0 ?_;refine fS 3 F7 ?_;refine fC 2 F7 ?_;refine fC 1 F7 ?_;refine fC 1 F7 ?_;refine fS 3 F7 ?_;refine fC 2 F7 ?_;refine fC 1 F7 ?_;refine fZ F7 ?_;refine hk129 _ ?_;refine sr0 ?_;refine tC 1 F7 ?_;refine tL F7 ?_;refine hn128 (some ([1,2,7,8,9,10,11],none)) _ ?_;refine eS fun _ hn131 _ _ => ?_;refine eO fun _ hk132 => ?_;refine tL F7 ?_;refine hk132 _ ?_;refine hn131 (some ([1,2,7,8,9,10,11,54],none)) _ ?_;refine eCf ?_;refine hn127 _ ?_;refine hn126 (some ([1,2,7,8,9,10,11],none)) _ ?_
   refine eO fun _ hk133 => ?_;refine tC 2 F7 ?_;refine tL F7 ?_;refine hk133 _ ?_;refine hn18 (xs.length - (i + 1)) (some ([1,2,7,8,9,10,11],some ([1],1))) _ ?_ ?_
   all_goals try refine lp0 ?_
   ·omega
   ·exact ⟨i + 1,false,A,by omega,rfl,by rw [take_all hx1,goodU_no (by omega),Bool.and_false],hA,(fun h => by cases h),rfl⟩
  ·skip
   subst hRt
   have wg : decide (x ≥ 0) = true := decide_eq_true (by omega)
   have wl : ¬ x < l.blocks := by omega
   have F8 := And.intro F1 (And.intro @w2 (And.intro @w3 (And.intro @hx1 (And.intro @wg @wl))))
   refine eS fun _ hn134 _ _ => ?_;refine eS fun _ hn135 _ _ => ?_;refine eO fun _ hk136 => ?_;refine tS 3 F8 ?_;refine tZ F8 ?_;refine hk136 _ ?_;refine hn135 (some ([1,2,7,8,9,10,11,34],none)) _ ?_;refine eCt ?_;refine hn134 (some ([1,2,7,8,9,10,11],none)) _ ?_;refine eS fun _ hn137 _ _ => ?_;refine eB fun _ hn138 _ _ _ => ?_;refine eS fun _ hn139 _ _ => ?_;refine eD [] (n := 15) fun _ hk140 => ?_;refine sq0 ?_;refine fS 3 F8 ?_;refine fC 2 F8 ?_;refine fC 1 F8 ?_;refine fC 1 F8 ?_;refine fS 3 F8 ?_;refine fC 2 F8 ?_;refine fC 1 F8 ?_;refine fZ F8 ?_;refine hk140 _ ?_;refine sr0 ?_;refine tC 1 F8 ?_;refine tL F8 ?_;refine hn139 (some ([1,2,7,8,9,10,11],none)) _ ?_;refine eS fun _ hn142 _ _ => ?_;refine eO fun _ hk143 => ?_;refine tL F8 ?_;refine hk143 _ ?_;refine hn142 (some ([1,2,7,8,9,10,11,54],none)) _ ?_;refine eCf ?_;refine hn138 _ ?_;refine hn137 (some ([1,2,7,8,9,10,11],none)) _ ?_
   refine eO fun _ hk144 => ?_;refine tC 2 F8 ?_;refine tL F8 ?_;refine hk144 _ ?_;refine hn18 (xs.length - (i + 1)) (some ([1,2,7,8,9,10,11],some ([1],1))) _ ?_ ?_
   all_goals try refine lp0 ?_
   ·omega
   ·exact ⟨i + 1,false,A,by omega,rfl,by rw [take_all hx1,goodU_no (by omega),Bool.and_false],hA,(fun h => by cases h),rfl⟩
  ·skip
   subst hRt
   have F9 := And.intro F1 (And.intro @w2 (And.intro @w3 @hx1))
   refine eS fun _ hn145 _ _ => ?_;refine eS fun _ hn146 _ _ => ?_;refine eO fun _ hk147 => ?_;refine tS 3 F9 ?_;refine tZ F9 ?_;refine hk147 _ ?_;refine hn146 (some ([1,2,7,8,9,10,11,34],none)) _ ?_;refine eCt ?_;refine hn145 (some ([1,2,7,8,9,10,11],none)) _ ?_;refine eS fun _ hn148 _ _ => ?_;refine eB fun _ hn149 _ _ _ => ?_;refine eS fun _ hn150 _ _ => ?_;refine eD [] (n := 15) fun _ hk151 => ?_;refine sq0 ?_;refine fS 3 F9 ?_;refine fC 2 F9 ?_;refine fC 1 F9 ?_;refine fC 1 F9 ?_;refine fS 3 F9 ?_;refine fC 2 F9 ?_;refine fC 1 F9 ?_;refine fZ F9 ?_;refine hk151 _ ?_;refine sr0 ?_;refine tC 1 F9 ?_;refine tL F9 ?_;refine hn150 (some ([1,2,7,8,9,10,11],none)) _ ?_;refine eS fun _ hn153 _ _ => ?_;refine eO fun _ hk154 => ?_;refine tL F9 ?_;refine hk154 _ ?_;refine hn153 (some ([1,2,7,8,9,10,11,54],none)) _ ?_;refine eCf ?_;refine hn149 _ ?_;refine hn148 (some ([1,2,7,8,9,10,11],none)) _ ?_
   refine eO fun _ hk155 => ?_;refine tC 2 F9 ?_;refine tL F9 ?_;refine hk155 _ ?_;refine hn18 (xs.length - (i + 1)) (some ([1,2,7,8,9,10,11],some ([1],1))) _ ?_ ?_
   all_goals try refine lp0 ?_
   ·omega
   ·exact ⟨i + 1,false,A,by omega,rfl,by rw [take_all hx1,← hR,Bool.false_and],hA,(fun h => by cases h),rfl⟩
end Go.Proofs.YtkmbcjnaaokilaaGreatDoor
