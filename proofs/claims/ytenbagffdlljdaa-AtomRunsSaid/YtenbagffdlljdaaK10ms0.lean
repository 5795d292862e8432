/-
  AtomRuns: one case of a round of its loop.
-/
import Derived.Test.YtenbagffdlljdaaMK1
import Derived.Test.YtenbagffdlljdaaMK4
import Derived.Test.YtenbagffdlljdaaMK9
import Derived.Test.YtenbagffdlljdaaMK6
import Derived.Test.YtenbagffdlljdaaK10myu3
import Derived.Test.YtenbagffdlljdaaK10myv3
namespace Go.Proofs.Ytenbagffdlljdaa
set_option linter.unusedSimpArgs false
set_option linter.unusedVariables false
open Go.RowKit Go.Maps
set_option maxHeartbeats 16000000 in
set_option maxRecDepth 20000 in
theorem ar_s0 {r : RunV} {L : List OpV} (cx : ArCx r L) {i : Nat} {O : List (Nat × Ob)} {nx : Nat} {M : Ob} {cells : List Sh} (hi' : i ≤ r.picks.length) (hC : CrF (Wr r L i) L M cells (6 * i) O nx) {p : PickV} (hp : r.picks[i]? = some p) {m : Nat} {o : OpV} {s' : AtmV} {y y' : TaskM atm} (hk : p.kind ≠ 2) (hs : (stepM (Wr r L i) p).2 = true) (hR : RunStep L (Wr r L i) (Wr r L (i + 1)) p m o s' y y') (hz : (Wd (Wr r L (i + 1)).m o.loc) = (Wd (Wr r L i).m o.loc)) (heq : mkA o.kind o.n (Wd (Wr r L i).m o.loc).val = (Wd (Wr r L i).m o.loc).val) (hfin : s'.fin = true) (hans : s'.answer = (Wd (Wr r L i).m o.loc).val) (hml : m < cells.length) (hc : cells[m]? = some (Sh.v (.map none)))
    (K1 : Ex → St → Prop) (hnA : ∀ (k' : Nat) (kp : Option (List Nat × Option (List Nat × Nat))) (S' : St), k' < r.picks.length - i → ArInv r L k' (S'.keep kp) → K1 .next S') :
    ev sc_AtomRuns_b0 ⟨[(3, .ptr 1 0 0), (4, .sl 3 0 (L.map eOp)), (6, .own 2), (7, .own 3), (46, .sl 3 r.gp (r.picks.map ePick)), (47, sI r.picks.length), (48, sI i)], O, nx⟩ K1 := by
  simp only [sc_AtomRuns_b0, sc_AtomRuns, SC.sub]
  have hK := shK atm
  obtain ⟨hLl, hi, hio, hLo, g3⟩ := cx
  have hl1 : 0 ≤ (L.length : Int) := by omega
  have hl2 : (L.length : Int) ≤ 1000000 := by omega
  have hl3 : L.length * 8 ≤ 140737488355328 := by omega
  have hl4 : L.length * 1 ≤ 140737488355328 := by omega
  have hst : ∀ q, q ∈ L → 1 - q.loc = 0 ∨ 1 - q.loc = 1 := fun q hq => by have := (hLo q hq).2; omega
  have hW := (hi i).1
  have hWI := (hi i).2
  have hO := hio i
  have hW' := (hi (i + 1)).1
  have hWI' := (hi (i + 1)).2
  have hO' := hio (i + 1)
  have hn4 := hC.hn
  have hid := nid hn4
  have c1 := hC.g1
  have c2 := hC.g2
  have c3 := hC.g3
  have hcl := hC.len
  have kw := fun q => ok_l10word (Wr r L i) q hO (by omega)
  have hln := hW.len
  have hln' := hW'.len
  have F69 := And.intro @hK @zsh_nmp
  have hn19 := hnA
  have hlt := (List.getElem?_eq_some_iff.1 hp).1
  have w2 : (i : Int) < (r.picks.length : Int) := by omega
  have w3 : IntKind.i64.wrap ((i : Int) + 1) = ((i + 1 : Nat) : Int) := by rw [IntKind.wrap_i64]; omega
  have z4 : (p.kind == 2) = false := by simpa using hk
  have hnx : (stepM (Wr r L i) p).1 = Wr r L (i + 1) := (pk_next hp hk).symm
  have k3 := ok_kStep (Wr r L i) p hO (by omega)
  rw [hnx, hs] at k3
  have kw' := fun q => ok_l10word (Wr r L (i + 1)) q hO' (by omega)
  have z6 : (((Wr r L (i + 1)).tasks.length : Int) != (L.length : Int)) = false := by rw [hln']; simp
  have z7 : (p.kind == 0) = true := by simpa using hR.kind
  have ho := hR.op
  have hoL := hLo o (List.mem_of_getElem? ho)
  have hmL := (List.getElem?_eq_some_iff.1 ho).1
  have t1 : IntKind.i64.wrap (p.thread - 1) = (m : Int) := by have := hR.thread; rw [IntKind.wrap_i64]; omega
  have t2 : (0 : Int) ≤ (m : Int) := by omega
  have t3 : m < (Wr r L i).tasks.length := by omega
  have t4 : m < (Wr r L (i + 1)).tasks.length := by omega
  obtain rfl := hC.hM (by intro e; rw [e] at hmL; simp at hmL)
  have t5 : IntKind.i64.wrap (1 - o.loc) = 1 - o.loc := by have := hoL.2; rw [IntKind.wrap_i64]; omega
  have hy0 := hR.task0
  have hyl := hR.live0
  have hy' := hR.task
  have hx64 := hWI o.loc hoL.2
  have kz := kw' o.loc
  rw [hz] at kz
  have kz2 := kw' (1 - o.loc)
  rw [hR.other] at kz2
  have kc : Ok 33 [.agg (eTask y')] (.ifc 175 (.agg (cAtm s'))) := by have e := ok_kCode y'; have e2 := congrArg (eCode atm) hR.code; rw [e2] at e; exact e
  have kr := ok_r10DoR2 o (Wd (Wr r L i).m o.loc).val hoL.1
  have kd : Ok 34 [.agg (eTask y')] (sB true) := by have e := ok_kDone y'; rw [hR.live, hfin] at e; exact e
  have kn : Ok 32 [.ifc 175 (.agg (cAtm s'))] (.tup [sI (Wd (Wr r L i).m o.loc).val, sB true]) := by have e := ok_aAnswer s'; rw [hfin, if_pos rfl, hans] at e; exact e
  have hov : ovL (Wr r L (i + 1)) = (ovL (Wr r L i)).set m [sB true] := by have e := hR.ov1; rw [hfin] at e; exact e
  have F70 := And.intro F69 (And.intro @hid (And.intro @c1 (And.intro @c2 (And.intro @c3 (And.intro @w2 (And.intro @w3 (And.intro @hp (And.intro @z4 (And.intro @z6 (And.intro @z7 (And.intro @ho (And.intro @t1 (And.intro @t2 (And.intro @t3 (And.intro @t4 (And.intro @t5 (And.intro @hml (And.intro @hc (And.intro @hy0 (And.intro @hyl (And.intro @hy' @hmL)))))))))))))))))))))
  refine eS fun _ hn543 _ _ => ?_;refine eO fun _ hk544 => ?_;refine tZ F70 ?_;refine hk544 _ ?_;refine hn543 (some ([3,4,6,7,46,47,48,49], none)) _ ?_;refine eS fun _ hn545 _ _ => ?_;refine eCt ?_;refine hn545 (some ([3,4,6,7,46,47,48], none)) _ ?_;refine eS fun _ hn546 _ _ => ?_;refine eB fun _ hn547 _ _ _ => ?_;refine eS fun _ hn548 _ _ => ?_;refine eO fun _ hk549 => ?_;refine tC 1 F70 ?_;refine tC 1 F70 ?_;refine tZ F70 ?_;refine hk549 _ ?_;refine hn548 (some ([3,4,6,7,9,46,47,48], none)) _ ?_;refine eS fun _ hn550 _ _ => ?_;refine eS fun _ hn551 _ _ => ?_;refine eO fun _ hk552 => ?_;refine tC 2 F70 ?_;refine tZ F70 ?_;refine hk552 _ ?_;refine hn551 (some ([3,4,6,7,9,46,47,48,54], none)) _ ?_;refine eCf ?_;refine hn550 (some ([3,4,6,7,9,46,47,48], none)) _ ?_;refine eS fun _ hn553 _ _ => ?_;refine eO fun _ hk554 => ?_;refine tC 1 F70 ?_;refine tC 1 F70 ?_;refine tS 1 F70 ?_;refine Or.inl (Or.inl ⟨_, k3, ?_⟩);refine tC 5 F70 ?_;refine tL F70 ?_;refine hk554 _ ?_;refine hn553 (some ([3,4,6,7,9,10,11,46,47,48], none)) _ ?_;refine eS fun _ hn555 _ _ => ?_
  refine eS fun _ hn556 _ _ => ?_;refine eO fun _ hk557 => ?_;refine tC 2 F70 ?_;refine tZ F70 ?_;refine hk557 _ ?_;refine hn556 (some ([3,4,6,7,9,10,11,46,47,48,66], none)) _ ?_;refine eCf ?_;refine hn555 (some ([3,4,6,7,9,10,11,46,47,48], none)) _ ?_;refine eS fun _ hn558 _ _ => ?_;refine eO fun _ hk559 => ?_;refine tC 2 F70 ?_;refine tC 1 F70 ?_;refine tL F70 ?_;refine hk559 _ ?_;refine hn558 (some ([3,4,6,7,9,10,11,12,46,47,48], none)) _ ?_;refine eS fun _ hn560 _ _ => ?_;refine eS fun _ hn561 _ _ => ?_;refine eO fun _ hk562 => ?_;refine tC 4 F70 ?_;refine tC 1 F70 ?_;refine tL F70 ?_;refine hk562 _ ?_;refine hn561 (some ([3,4,6,7,10,11,12,46,47,48,75], none)) _ ?_;refine eCt ?_;refine eS fun _ hn563 _ _ => ?_;refine eO fun _ hk564 => ?_;refine tC 3 F70 ?_;refine tC 1 F70 ?_;refine tZ F70 ?_;refine hk564 _ ?_;refine hn563 (some ([3,4,6,7,10,11,12,13,46,47,48], none)) _ ?_;refine eS fun _ hn565 _ _ => ?_;refine eCflP ([]) (RgA (rgB r L nx m i) (rgR (Wr r L i) (Wr r L (i + 1)) nx o (Wd (Wr r L i).m o.loc) (Wd (Wr r L i).m o.loc)) nx O (Wr r L (i + 1)) o (Wd (Wr r L i).m o.loc) (Wd (Wr r L i).m o.loc)) (fun S => ∃ O1 a1 b1, S = rgS r L nx m i a1 b1 O1 ∧ RgE nx O (Wr r L (i + 1)) o (Wd (Wr r L i).m o.loc) (Wd (Wr r L i).m o.loc) O1 a1 b1) ?_ ?_ ?_ ?_
  · skip
    refine ⟨fun t s h => ?_, fun t j s _ hj => by simp at hj, fun e he => ?_, ?_, ?_, ?_, fun h => by simp at h, fun h => by simp at h, fun h => by simp at h, fun h => by simp at h, fun h => by simp at h⟩
    · simp only [rgB, getA] at h
      simp only [St.casts, getA]
      repeat' split at h
      all_goals first | (rename_i e; subst e; cases h; rfl) | cases h
    · simp only [St.casts, St.keep, getA, getA_delA]; repeat rw [if_neg (by omega)]
    · simp [St.casts, St.keep, getA, getA_delA, hid]
    · simp [St.casts, St.keep, getA, getA_delA, hid]
    · simp [St.casts, St.keep]
  · skip
    intro done S i0 hI hr
    have hi12 := rdyN_lt hr
    have hnr := rdyN_not hr
    have b3 := hI.base 3 _ rfl
    have b10 := hI.base 10 _ rfl
    have b13 := hI.base 13 _ rfl
    have o1 := hI.o1
    have o2 := hI.o2
    have o3 : getA S.O 1 = some (boxW (Wr r L i)) := by rw [hI.old 1 (by omega)]; exact c1
    have hgot := fun t j s h h2 => hI.got t j s h h2
    have hcase : i0 = 0 ∨ i0 = 1 ∨ i0 = 2 ∨ i0 = 3 ∨ i0 = 4 ∨ i0 = 5 ∨ i0 = 6 ∨ i0 = 7 ∨ i0 = 8 ∨ i0 = 9 ∨ i0 = 10 ∨ i0 = 11 := by simp at hi12; omega
    rcases hcase with rfl | rfl | rfl | rfl | rfl | rfl | rfl | rfl | rfl | rfl | rfl | rfl
    · have F9 := And.intro b3 o3
      refine cfOpN rfl fun K9 hk9 => ?_;refine sh1 F9 ?_;refine hk9 _ ?_
      exact hI.put (i := 0) (t := 80) rfl rfl rfl (by decide) (by decide) (by decide)
    · have F9 := And.intro b13 o2
      refine cfOpN rfl fun K9 hk9 => ?_;refine sh1 F9 ?_;refine hk9 _ ?_
      exact hI.put (i := 1) (t := 81) rfl rfl rfl (by decide) (by decide) (by decide)
    · have hw := rdyN_wait hr rfl
      have g1 := hgot 81 1 _ rfl (hw 1 rfl)
      have F9 := And.intro g1 o2
      refine cfOpN rfl fun K9 hk9 => ?_;refine sh1 F9 ?_;refine hk9 _ ?_
      exact hI.put (i := 2) (t := 82) rfl rfl rfl (by decide) (by decide) (by decide)
    · have hw := rdyN_wait hr rfl
      have g1 := hgot 80 0 _ rfl (hw 0 rfl)
      have g2 := hgot 82 2 _ rfl (hw 2 rfl)
      have F9 := And.intro hK (And.intro g1 g2)
      refine cfOpN rfl fun K9 hk9 => ?_;refine sh1 F9 ?_;refine Or.inl (Or.inl ⟨_, kw _, ?_⟩);refine hk9 _ ?_
      exact hI.put (i := 3) (t := 83) rfl rfl rfl (by decide) (by decide) (by decide)
    · have F9 := And.intro b10 o1
      refine cfOpN rfl fun K9 hk9 => ?_;refine sh1 F9 ?_;refine hk9 _ ?_
      exact hI.put (i := 4) (t := 84) rfl rfl rfl (by decide) (by decide) (by decide)
    · have F9 := And.intro b13 o2
      refine cfOpN rfl fun K9 hk9 => ?_;refine sh1 F9 ?_;refine hk9 _ ?_
      exact hI.put (i := 5) (t := 85) rfl rfl rfl (by decide) (by decide) (by decide)
    · have hw := rdyN_wait hr rfl
      have g1 := hgot 85 5 _ rfl (hw 5 rfl)
      have F9 := And.intro g1 o2
      refine cfOpN rfl fun K9 hk9 => ?_;refine sh1 F9 ?_;refine hk9 _ ?_
      exact hI.put (i := 6) (t := 86) rfl rfl rfl (by decide) (by decide) (by decide)
    · have hw := rdyN_wait hr rfl
      have g1 := hgot 84 4 _ rfl (hw 4 rfl)
      have g2 := hgot 86 6 _ rfl (hw 6 rfl)
      have F9 := And.intro hK (And.intro g1 g2)
      refine cfOpN rfl fun K9 hk9 => ?_;refine sh1 F9 ?_;refine Or.inl (Or.inl ⟨_, kz, ?_⟩);refine hk9 _ ?_
      exact hI.put (i := 7) (t := 87) rfl rfl rfl (by decide) (by decide) (by decide)
    · refine cfOpN rfl fun K9 hk9 => ?_
      refine sh0 ?_;refine hk9 _ ?_
      exact hI.alc8 hnr rfl rfl rfl
    · refine cfOpN rfl fun K9 hk9 => ?_
      refine sh0 ?_;refine hk9 _ ?_
      exact hI.alc9 hnr rfl rfl rfl
    · have hw := rdyN_wait hr rfl
      have g1 := hgot 83 3 _ rfl (hw 3 rfl)
      obtain ⟨a2, q1, q2, q3, q4⟩ := hI.b8 (hw 8 rfl)
      rw [hnr] at q4
      simp only [Bool.false_eq_true, if_false] at q4
      have F9 := And.intro hK (And.intro g1 (And.intro q1 q4))
      refine cfOpN rfl fun K9 hk9 => ?_;refine sh1 F9 ?_
      try refine sd ?_
      refine hk9 _ ?_
      exact hI.sto10 (hw 8 rfl) (hw 9 rfl) q1 rfl
    · have hw := rdyN_wait hr rfl
      have g1 := hgot 87 7 _ rfl (hw 7 rfl)
      obtain ⟨a2, q1, q2, q3, q4⟩ := hI.b9 (hw 9 rfl)
      rw [hnr] at q4
      simp only [Bool.false_eq_true, if_false] at q4
      have F9 := And.intro hK (And.intro g1 (And.intro q1 q4))
      refine cfOpN rfl fun K9 hk9 => ?_;refine sh1 F9 ?_
      try refine sd ?_
      refine hk9 _ ?_
      exact hI.sto11 (hw 8 rfl) (hw 9 rfl) q1 rfl
  · skip
    intro done S hI hall
    obtain ⟨kp, O1, a1, b1, h1, h2⟩ := rg_fin hI hall
    exact ⟨kp, O1, a1, b1, h1, h2⟩
  intro S1 hP
  obtain ⟨O1, a1, b1, rfl, hE⟩ := hP
  have ha1 := hE.a1
  have ha2 := hE.a2
  have hb01 := hE.b1
  have hb02 := hE.b2
  have f1 : getA O1 1 = some (boxW (Wr r L i)) := by rw [hE.old 1 (by omega)]; exact c1
  have f2 : getA O1 2 = some (.obx 96 cells) := by rw [hE.old 2 (by omega)]; exact c2
  have f3 : getA O1 3 = some (.row 4 1 (ovL (Wr r L i))) := by rw [hE.old 3 (by omega)]; exact c3
  have f4 := hE.o1
  have f5 := hE.o2
  have f6 := hE.oa
  have f7 := hE.ob
  have F71 := And.intro F70 (And.intro @f1 (And.intro @f2 (And.intro @f3 (And.intro @f4 (And.intro @f5 (And.intro @f6 @f7))))))
  refine hn565 (some ([3,4,6,7,10,11,12,13,14,15,46,47,48], none)) _ ?_;refine eS fun _ hn566 _ _ => ?_;refine eS fun _ hn567 _ _ => ?_;refine eO fun _ hk568 => ?_;refine tC 3 F71 ?_;refine tC 1 F71 ?_;refine tL F71 ?_;refine Or.inl ⟨_, eqsh_nilmap, ?_⟩;refine hk568 _ ?_;refine hn567 (some ([3,4,6,7,10,11,12,13,14,15,46,47,48,92], none)) _ ?_;refine eCt ?_;refine eO fun _ hk569 => ?_;refine tC 4 F71 ?_;refine tZ F71 ?_;refine hk569 _ ?_;refine hn566 (some ([3,4,6,7,10,11,12,13,14,15,46,47,48], none)) _ ?_;refine eS fun _ hn570 _ _ => ?_;refine eS fun _ hn571 _ _ => ?_;refine eO fun _ hk572 => ?_;refine tL F71 ?_;refine hk572 _ ?_;refine hn571 (some ([3,4,6,7,10,11,12,13,14,15,46,47,48,97,98,99], none)) _ ?_;refine eB fun _ _ hx573 _ _ => ?_;refine eW (BrInv r L (cells.set m (.own (nx + 5))) i nx a1 b1 m o (Wd (Wr r L i).m o.loc) (Wd (Wr r L i).m o.loc)) (L.length) (some ([3,4,6,7,10,11,12,13,14,15,46,47,48,97,98,99], none)) ([]) ?_ ?_
  · try refine lp0 ?_
    exact ⟨0, _, _, by omega, by omega, rfl, ⟨by omega, hn4, hE.a2, hE.b2, (by simp only [getA, getA_delA]; (repeat rw [if_neg (by omega)]); exact f1), by simp [getA], (by simp only [getA, getA_delA]; (repeat rw [if_neg (by omega)]); exact f3), (by simp only [getA, getA_delA]; (repeat rw [if_neg (by omega)]); exact hE.o1), (by simp only [getA, getA_delA]; (repeat rw [if_neg (by omega)]); exact hE.o2), (by simp only [getA, getA_delA]; (repeat rw [if_neg (by omega)]); exact hE.oa), (by simp only [getA, getA_delA]; (repeat rw [if_neg (by omega)]); exact hE.ob), by simpa using hcl, mayI_new (mayI_same hC.may (by omega) (Nat.le_refl _) (fun _ _ _ => rfl)) (by omega) (by omega) (by omega) hml (fun e h4 he => (by simp only [getA, getA_delA]; (repeat rw [if_neg (by omega)]); exact hE.old e he)) (by simp only [getA, getA_delA]; (repeat rw [if_neg (by omega)]); simp [getA]), ⟨nx + 5, List.getElem?_set_self hml⟩⟩, fun h => absurd h (by omega)⟩
  · intro k S1 hI
    obtain ⟨j, O2, n2, hj', rfl, rfl, hB, hmay⟩ := hI
    have hid2 := nid (n := n2) (by have := hB.hn; have := hB.hx; omega)
    have b1 := hB.g1
    have b2 := hB.g2
    have b3 := hB.g3
    have b4 := hB.a1
    have b5 := hB.a2
    have b6 := hB.a3
    have b7 := hB.a4
    have hcl2 := hB.len
    have hbn := hB.hn
    have hbi := bid hbn hB.la hB.lb
    intro _ hn574 _ he574
    rcases bc_case (Wr r L i) hB.may hB.len hj' ho hB.own with hcd | ⟨q, hq, hjm, hc2⟩ | ⟨q, hq, hjm, d2, N2, f2, hc2, hd42, hdn2, hdg2, hdN2, hql⟩ | ⟨q, hq, d2, N2, f2, hc2, hd42, hdn2, hdg2, hdN2, hql, hmk⟩ | ⟨q, hq, d2, N2, f2, hc2, hd42, hdn2, hdg2, hdN2, hql, hmk⟩
    · skip
      have y2 : ¬ (j : Int) < (L.length : Int) := by omega
      have y2 : ¬ (j : Int) < (L.length : Int) := by omega
      have hml2 := hmL
      rw [← hcl2] at hml2
      subst hcd
      have F72 := And.intro F71 (And.intro @hid2 (And.intro @hbi (And.intro @b1 (And.intro @b2 (And.intro @b3 (And.intro @b4 (And.intro @b5 (And.intro @b6 (And.intro @b7 (And.intro @y2 @hml2))))))))))
      refine eS fun _ hn575 _ _ => ?_;refine eO fun _ hk576 => ?_;refine tZ F72 ?_;refine hk576 _ ?_;refine hn575 (some ([3,4,6,7,10,11,12,13,14,15,46,47,48,97,98,99,100], none)) _ ?_;refine eS fun _ _ _ he577 => ?_;refine eCf ?_;refine he577 2 _ ?_;refine he574 2 _ ?_;refine hx573 _ ?_;refine hn570 (some ([3,4,6,7,10,11,12,13,14,15,46,47,48], none)) _ ?_;refine eS fun _ hn578 _ _ => ?_;refine eS fun _ hn579 _ _ => ?_;refine eD [] (n := 23) fun _ hk580 => ?_;refine sq0 ?_;refine fC 1 F72 ?_;refine fC 2 F72 ?_;refine fC 1 F72 ?_;refine fS 1 F72 ?_;refine ⟨_, kw _, ?_⟩;refine fC 1 F72 ?_;refine fC 2 F72 ?_;refine fC 1 F72 ?_;refine fS 1 F72 ?_;refine ⟨_, kz2, ?_⟩;refine fS 1 F72 ?_;refine ⟨_, eqsh_word_refl _, ?_⟩;refine fC 3 F72 ?_;refine fC 2 F72 ?_;refine fC 1 F72 ?_;refine fC 4 F72 ?_;refine fZ F72 ?_;refine hk580 _ ?_;refine sr0 ?_;refine tC 1 F72 ?_;refine tL F72 ?_;refine hn579 (some ([3,4,6,7,10,11,12,13,14,15,46,47,48,171], none)) _ ?_;refine eCf ?_;refine hn578 (some ([3,4,6,7,10,11,12,13,14,15,46,47,48], none)) _ ?_;refine eS fun _ hn582 _ _ => ?_;refine eO fun _ hk583 => ?_
      refine tC 2 F72 ?_;refine tC 2 F72 ?_;refine tC 1 F72 ?_;refine tS 1 F72 ?_;refine Or.inl (Or.inl ⟨_, kc, ?_⟩);refine tS 1 F72 ?_;refine Or.inl (Or.inl ⟨_, kn, ?_⟩);refine tL F72 ?_;refine hk583 _ ?_;refine hn582 (some ([3,4,6,7,10,11,12,13,14,15,20,21,46,47,48], none)) _ ?_;refine eS fun _ hn584 _ _ => ?_;refine eO fun _ hk585 => ?_;refine tC 2 F72 ?_;refine tC 2 F72 ?_;refine tC 2 F72 ?_;refine tS 1 F72 ?_;refine Or.inl (Or.inl ⟨_, kr, ?_⟩);refine tL F72 ?_;refine hk585 _ ?_;refine hn584 (some ([3,4,6,7,10,11,12,14,15,20,21,22,23,46,47,48], none)) _ ?_;refine eS fun _ hn586 _ _ => ?_;refine eB fun _ hn587 _ _ _ => ?_;refine eS fun _ hn588 _ _ => ?_;refine eO fun _ hk589 => ?_;refine tC 2 F72 ?_;refine tC 2 F72 ?_;refine tC 1 F72 ?_;refine tL F72 ?_;refine hk589 _ ?_;refine hn588 (some ([3,4,6,7,10,11,12,15,20,21,22,23,46,47,48,192], none)) _ ?_;refine eC rfl (fun hx => absurd hx (by simp at hx)) (fun hc11 => ?_)
      obtain ⟨d5, N5, f5, hc5, hdg5, hf5⟩ := hmay hmL heq
      obtain ⟨v51, v52⟩ : -9223372036854775808 ≤ (Wd (Wr r L i).m o.loc).val ∧ (Wd (Wr r L i).m o.loc).val ≤ 9223372036854775807 := hx64
      have F73 := And.intro F72 (And.intro @hc5 (And.intro @hdg5 (And.intro @hf5 (And.intro @v51 @v52))))
      refine eS fun _ hn590 _ _ => ?_;refine eO fun _ hk591 => ?_;refine tC 5 F73 ?_;refine tC 1 F73 ?_;refine tL F73 ?_;refine hk591 _ ?_;refine hn590 (some ([3,4,6,7,10,11,12,20,21,46,47,48,226], none)) _ ?_;refine eCt ?_;refine eS fun _ hn592 _ _ => ?_;refine eO fun _ hk593 => ?_;refine tC 3 F73 ?_;refine tC 1 F73 ?_;refine tC 2 F73 ?_;refine tL F73 ?_;refine hk593 _ ?_;refine hn592 (some ([3,4,6,7,10,11,12,21,46,47,48,241], none)) _ ?_;refine eCf ?_;refine hn587 _ ?_;refine hn586 (some ([3,4,6,7,10,11,12,21,46,47,48], none)) _ ?_;refine eS fun _ hn594 _ _ => ?_;refine eO fun _ hk595 => ?_;refine tC 4 F73 ?_;refine tZ F73 ?_;refine hk595 _ ?_;refine hn594 (some ([3,4,6,7,10,11,12,21,46,47,48], none)) _ ?_;refine eS fun _ hn596 _ _ => ?_;refine eO fun _ hk597 => ?_;refine tC 3 F73 ?_;refine tC 2 F73 ?_;refine tC 1 F73 ?_;refine tS 1 F73 ?_;refine Or.inl (Or.inl ⟨_, kd, ?_⟩);refine tL F73 ?_;refine Or.inl ⟨_, eqsh_bool_refl _, ?_⟩;refine hk597 _ ?_;refine hn596 (some ([3,4,6,7,10,11,46,47,48,253], none)) _ ?_;refine eCf ?_;refine hn560 (some ([3,4,6,7,10,11,46,47,48], none)) _ ?_
      refine eS fun _ hn598 _ _ => ?_;refine eS fun _ hn599 _ _ => ?_;refine eD [] (n := 8) fun _ hk600 => ?_;refine sq0 ?_;refine fC 5 F73 ?_;refine fS 1 F73 ?_
      skip
      refine fZ F73 ?_;refine hk600 _ ?_;refine sr0 ?_;refine tS 1 F73 ?_
      skip
      refine tC 1 F73 ?_;refine tL F73 ?_;refine hn599 (some ([3,4,6,7,10,46,47,48,264], none)) _ ?_;refine eCf ?_;refine hn598 (some ([3,4,6,7,10,46,47,48], none)) _ ?_;refine eS fun _ hn602 _ _ => ?_;refine eO fun _ hk603 => ?_;refine tC 1 F73 ?_;refine tZ F73 ?_;refine hk603 _ ?_;refine hn602 (some ([3,4,6,7,46,47,48], none)) _ ?_;refine eS fun _ hn604 _ _ => ?_;refine eO fun _ hk605 => ?_;refine tL F73 ?_;refine hk605 _ ?_;refine hn604 (some ([3,4,6,7,46,47,48,266,267,268], none)) _ ?_;refine eB fun _ _ hx606 _ _ => ?_;refine eW (CcInv r L (.obx 96 (cells.set m (.own (nx + 5)))) (cells.set m (.own (nx + 5))) i) (L.length) (some ([3,4,6,7,46,47,48,266,267,268], none)) ([]) ?_ ?_
      · try refine lp0 ?_
        exact ⟨0, _, _, by omega, by omega, rfl, hB.toC (by omega) (by omega) (fun e he h1 h3 => by simp only [getA, getA_delA]; repeat rw [if_neg (by omega)]) (by simp [getA]) (by rw [hov]; simp [getA, getA_delA])⟩
      · intro k S1 hI
        obtain ⟨l, O4, n4, hl', rfl, rfl, hD⟩ := hI
        have hid4 := nid hD.hn
        have e1 := hD.g1
        have e2 := hD.g2
        have e3 := hD.g3
        have hcl4 := hD.len
        have _ := hD.hn
        intro _ hn607 _ he607
        rcases cc_case (M := Ob.frz (sI 0)) (Wr r L (i + 1)) hD.may hD.len hl' hln' with hce | ⟨q4, hq4, hc4⟩ | ⟨q4, hq4, d4, N4, f4, hc4, hd44, hdn4, hdg4, hdN4, y4, hy4, hyl4⟩ | ⟨q4, hq4, d4, N4, f4, hc4, hd44, hdn4, hdg4, hdN4, y4, hy4, hyl4, hmk4⟩ | ⟨q4, hq4, d4, N4, f4, hc4, hd44, hdn4, hdg4, hdN4, y4, hy4, hyl4, hmk4⟩
        · skip
          have x2 : ¬ (l : Int) < (L.length : Int) := by omega
          have F74 := And.intro F73 (And.intro @hid4 (And.intro @e1 (And.intro @e2 (And.intro @e3 @x2))))
          refine eS fun _ hn608 _ _ => ?_;refine eO fun _ hk609 => ?_;refine tZ F74 ?_;refine hk609 _ ?_;refine hn608 (some ([3,4,6,7,46,47,48,266,267,268,269], none)) _ ?_;refine eS fun _ _ _ he610 => ?_;refine eCf ?_;refine he610 5 _ ?_;refine he607 5 _ ?_;refine hx606 _ ?_;refine hn547 _ ?_;refine hn546 (some ([3,4,6,7,46,47,48], none)) _ ?_;refine eO fun _ hk611 => ?_;refine tC 1 F74 ?_;refine tL F74 ?_;refine hk611 _ ?_;refine hn19 (r.picks.length - (i + 1)) (some ([3,4,6,7,46,47,48], none)) _ ?_ ?_
          all_goals try refine lp0 ?_
          · omega
          · exact ⟨i + 1, _, _, _, _, by omega, by omega, rfl, hD.same (by omega) (by omega) (fun e he => by simp only [getA, getA_delA]; repeat rw [if_neg (by omega)])⟩
        · skip
          exact ar2_n4 ⟨hLl, hi, hio, hLo, g3⟩ hi' hl' hD hq4 hc4 _ hn607
        · skip
          exact ar2_o4 ⟨hLl, hi, hio, hLo, g3⟩ hi' hl' hD hq4 hc4 hd44 hdn4 hdg4 hdN4 hy4 hyl4 _ hn607
        · skip
          exact ar2_u4 ⟨hLl, hi, hio, hLo, g3⟩ hi' hl' hD hq4 hc4 hd44 hdn4 hdg4 hdN4 hy4 hyl4 hmk4 _ hn607
        · skip
          exact ar2_v4 ⟨hLl, hi, hio, hLo, g3⟩ hi' hl' hD hq4 hc4 hd44 hdn4 hdg4 hdN4 hy4 hyl4 hmk4 _ hn607
    · skip
      exact ar1_n3 ⟨hLl, hi, hio, hLo, g3⟩ hi' ho hj' hB hmay hq hjm hc2 _ hn574
    · skip
      exact ar1_s3 ⟨hLl, hi, hio, hLo, g3⟩ hi' ho hj' hB hmay hq hjm hc2 hd42 hdn2 hdg2 hdN2 hql _ hn574
    · skip
      exact ar1_u3 ⟨hLl, hi, hio, hLo, g3⟩ hi' ho hj' hB hmay hq hc2 hd42 hdn2 hdg2 hdN2 hql hmk _ hn574
    · skip
      exact ar1_v3 ⟨hLl, hi, hio, hLo, g3⟩ hi' ho hj' hB hmay hq hc2 hd42 hdn2 hdg2 hdN2 hql hmk _ hn574
end Go.Proofs.Ytenbagffdlljdaa
