/-
  The shadow machine: a region whose orders are all gone through.
-/
import Derived.Test.YtfcjkchpldfamaaShF
namespace Go.Proofs.Ytfcjkchpldfamaa
set_option linter.unusedSimpArgs false
set_option linter.unusedVariables false
open Go.RowKit Go.Maps

def SOp.flo2 : SOp → Bool
  | .mv _ | .ext _ _ | .nck _ | .fa _ _ | .bin _ _ _ | .not _ | .cnv _ _ | .pick _ _ _ | .bld _ _ => true
  | _ => false

/-- It comes to its value in whatever world. -/
theorem float_val2 {o : Oper} {S : St} {E : Env} {op : Op} {so : SOp} {k : Sh → Prop} (ho : o.op = op) (hm : OpM op so) (hfl : so.flo2 = true) (h : evA so S k) :
    ∃ s, k s ∧ ∀ (a : Act) (H : Hp), OpdOk S E H a so.opds → ∃ v, (∀ w', (execOp a.eval o).run Try.prog w' = .ok (.value v) w') ∧ Rep H E s v := by
  by_cases h1 : so.flo = true
  · exact float_val ho hm h1 h
  cases hm with
  | mv => exact absurd rfl h1
  | asg => exact absurd rfl h1
  | ext => exact absurd rfl h1
  | nck => exact absurd rfl h1
  | @fa t x j fs f i hu hf hi hz =>
    obtain ⟨s, hs, h⟩ := oB_elim h
    have run : ∀ (a : Act) b o', a.eval x = .pointer (some ⟨b, o', none⟩) → ∀ w, (execOp a.eval o).run Try.prog w = .ok (.value (.pointer (some ⟨b, o' + f.offset, none⟩))) w := fun a b o' e w => by
      simp [execOp, ho, e, Instr.fieldAt, run_underlying hu, hf, Instr.sureAddr, fieldPlace, run_sizeOf hi, hz, Addr.add_lit]
    cases s with
    | ptr i idx o' =>
      refine ⟨_, h, fun a H h3 => ?_⟩
      have hr := h3.get (by simp [SOp.opds]) hs
      generalize hq : a.eval x = q at hr
      cases hr with
      | ptr h => exact ⟨_, run a _ _ hq, by rw [Nat.add_assoc]; exact .ptr h⟩
    | fp e o' =>
      refine ⟨_, h, fun a H h3 => ?_⟩
      have hr := h3.get (by simp [SOp.opds]) hs
      generalize hq : a.eval x = q at hr
      cases hr with
      | fp b1 b2 b3 => exact ⟨_, run a _ _ hq, by rw [Nat.add_assoc]; exact .fp b1 b2 b3⟩
    | _ => exact h.elim
  | @bin op t x y t2 =>
    obtain ⟨s, hs, h⟩ := oB_elim h
    obtain ⟨j, hj, h⟩ := oB_elim h
    cases s with
    | v p => cases p with
      | int k1 a1 => cases j with
        | v q => cases q with
          | int k2 b1 =>
            obtain ⟨rfl, h⟩ := h
            obtain ⟨r, hr, h⟩ := oB_elim h
            refine ⟨_, h, fun a H h3 => ?_⟩
            have hR := h3.get (by simp [SOp.opds]) hs
            have hJ := h3.get (by simp [SOp.opds]) hj
            generalize hqx : a.eval x = qx at hR
            generalize hqy : a.eval y = qy at hJ
            cases hR; cases hJ
            refine ⟨r, fun w => ?_, .v ?_⟩
            · have := run_intBin (t := t) x y hr w
              simp only [execOp, ho, hqx, hqy, Sem.run_bind] at this ⊢
              rw [this]; rfl
            · cases op <;> simp [intBin] at hr <;> (first | (obtain ⟨h0, rfl⟩ := hr) | subst hr) <;> rfl
          | _ => exact h.elim
        | _ => exact h.elim
      | _ => exact h.elim
    | _ => exact h.elim
  | @not t x =>
    obtain ⟨s, hs, h⟩ := oB_elim h
    cases s with
    | v p => cases p with
      | bool b =>
        refine ⟨_, h, fun a H h3 => ?_⟩
        have hR := h3.get (by simp [SOp.opds]) hs
        generalize hqx : a.eval x = qx at hR
        cases hR
        exact ⟨.bool !b, fun w => by simp [execOp, ho, hqx, Op.unary], .v rfl⟩
      | _ => exact h.elim
    | _ => exact h.elim
  | @cnv src dst x d k hs0 hd =>
    obtain ⟨s, hs, h⟩ := oB_elim h
    cases s with
    | v p => cases p with
      | int kf n =>
        refine ⟨_, h, fun a H h3 => ?_⟩
        have hR := h3.get (by simp [SOp.opds]) hs
        generalize hqx : a.eval x = qx at hR
        cases hR
        exact ⟨.int k (k.wrap n), fun w => by simp [execOp, ho, hqx, convert, run_underlying hs0, run_underlying hd, Conv.intToInt], .v rfl⟩
      | _ => exact h.elim
    | _ => exact h.elim
  | @pick c x y =>
    obtain ⟨s, hs, h⟩ := oB_elim h
    cases s with
    | v p => cases p with
      | bool bb =>
        obtain ⟨r, hr, h⟩ := oB_elim h
        obtain ⟨p1, p2⟩ := pickO_spec hr
        refine ⟨_, h, fun a H h3 => ?_⟩
        have hR := h3.get (by simp [SOp.opds]) hs
        generalize hq : a.eval c = q at hR
        cases hR
        cases bb
        · exact ⟨a.eval y, fun w => by simp [execOp, ho, hq, asBool], h3.get (by simp [SOp.opds]) (p2 rfl)⟩
        · exact ⟨a.eval x, fun w => by simp [execOp, ho, hq, asBool], h3.get (by simp [SOp.opds]) (p1 rfl)⟩
      | _ => exact h.elim
    | _ => exact h.elim
  | @bld t parts zs ps it z pl hit hz hzs hb hp =>
    obtain ⟨cs, hf, h⟩ := oB_elim h
    refine ⟨_, h, fun a H h3 => ?_⟩
    obtain ⟨out, g1, g2, g3⟩ := fill_rep (H := H) (E := E) (a := a) parts.toList ps _ cs z.cells hp (by rw [hzs]; exact zs_rep H E zs) (zs_one zs) hf h3
    refine ⟨.agg out, fun w => ?_, by have := Rep.agg g2 g3; simpa using this⟩
    have := run_build (P := Try.prog) w t (parts.map fun (i, x) => (i, a.eval x)) out (by rw [hb]; simpa using g1)
    simp only [execOp, ho, Sem.run_bind, this, Result.andThen_ok]; rfl
  | _ => cases hfl

theorem evOp_flo2 {d : Option Nat} {so : SOp} {S : St} {K : St → Prop} (hfl : so.flo2 = true) (h : evOp d so S K) : evA so S fun s => K (S.put? d s) := by
  cases so <;> first | exact h | cases hfl

/-! ### The orders -/
def readyB (ops : Array Oper) (done : List Nat) (i : Nat) : Bool := decide (i < ops.size) && !done.contains i && (match ops[i]? with | some o => (wl o).all done.contains | none => false)
def apartB (ops : Array Oper) (done : List Nat) (i : Nat) : Bool := match ops[i]? with
  | some oi => (List.range ops.size).all fun j => decide (j = i) || done.contains j || (match ops[j]? with | some oj => (wl oj).contains i || oi.apart ops oj | none => true)
  | none => false
def floB (gl : List GOp) (i : Nat) : Bool := match gl[i]? with | some g => g.op.flo2 | none => false
def heads : OTr → List Nat
  | .leaf => []
  | .flo i _ => [i]
  | .step i _ => [i]
  | .alt a b => heads a ++ heads b
mutual
def otChk (ops : Array Oper) (gl : List GOp) (done : List Nat) : OTr → Bool
  | .leaf => (List.range ops.size).all done.contains
  | .flo i t => readyB ops done i && floB gl i && apartB ops done i && otChk ops gl (i :: done) t
  | .step i t => readyB ops done i && (List.range ops.size).all (fun j => !readyB ops done j || decide (j = i)) && otChk ops gl (i :: done) t
  | .alt a b => (List.range ops.size).all (fun j => !readyB ops done j || (heads a ++ heads b).contains j) && (heads a ++ heads b).any (readyB ops done) && otSub ops gl done a && otSub ops gl done b
def otSub (ops : Array Oper) (gl : List GOp) (done : List Nat) : OTr → Bool
  | .leaf => false
  | .flo _ _ => false
  | .step i t => otChk ops gl (i :: done) t
  | .alt a b => otSub ops gl done a && otSub ops gl done b
end
/-- The orders' tree. -/
def mkTr (ops : Array Oper) (gl : List GOp) : Nat → List Nat → OTr
  | 0, _ => .leaf
  | f + 1, done => match (List.range ops.size).find? (fun i => readyB ops done i && floB gl i && apartB ops done i) with
    | some i => .flo i (mkTr ops gl f (i :: done))
    | none => match (List.range ops.size).filter (readyB ops done) with
      | [] => .leaf
      | i :: is => is.foldl (fun t j => .alt t (.step j (mkTr ops gl f (j :: done)))) (.step i (mkTr ops gl f (i :: done)))

section
variable {N : Nat} {w0 w w' : World} {H0 H H' : Hp} {S : St} {E : Env} {a : Act} {o : Oper} {K : St → Prop} {ops : Array Oper} {Q : Exit → Act → World → Prop} {gl : List GOp}

/-- The branch that begins with i. -/
theorem branch {i : Nat} {done : List Nat} {L : St → Prop} : ∀ {t : OTr}, (heads t).contains i = true → otSub ops gl done t = true → evTr t gl S L → ∃ s, otChk ops gl (i :: done) s = true ∧ oB gl[i]? fun g => evG g S fun S' => evTr s gl S' L
  | .leaf, h, _, _ => by simp [heads] at h
  | .flo _ _, _, h, _ => by simp [otSub] at h
  | .step j s, h, hc, he => by
    simp only [heads, List.contains_cons, List.contains_nil, Bool.or_false, beq_iff_eq] at h
    subst h
    simp only [otSub] at hc
    exact ⟨s, hc, he⟩
  | .alt x y, h, hc, he => by
    simp only [otSub, Bool.and_eq_true] at hc
    simp only [heads] at h
    rw [List.contains_eq_mem, decide_eq_true_eq, List.mem_append] at h
    rcases h with h | h
    · exact branch (by rw [List.contains_eq_mem, decide_eq_true_eq]; exact h) hc.1 he.1
    · exact branch (by rw [List.contains_eq_mem, decide_eq_true_eq]; exact h) hc.2 he.2

/-- One operation. -/
theorem evG_wpOp {g : GOp} {i : Nat} {K' : Act → World → Prop} {L : St → Prop} (hoi : ops[i]? = some o) (hg : GM N ops o g) (h : evG g S L) (hS : Sim N w0 H0 S E a w H) (hK : ∀ S' E' a' w' H', L S' → Sim N w0 H0 S' E' a' w' H' → K' a' w') : wpOp Try.prog ops Q i K' a w := by
  have run : evOp o.dst g.op S L → o.wp Try.prog a w K' Q := fun hk => by
    refine Oper.wp_post ?_ (evOp_sound hS hg.lt rfl hg.op hk)
    rintro a' w' ⟨S', E', H', hk', hS'⟩
    exact hK S' E' a' w' H' hk' hS'
  unfold wpOp
  rw [hoi]
  simp only
  unfold evG at h
  have hgd := hg.gd
  split at h
  · rename_i hn
    rw [hn] at hgd
    rw [if_pos (wanted_none hgd)]
    rw [hg.d] at h
    exact .inl (run h)
  · rename_i t b hn
    rw [hn] at hgd
    obtain ⟨j, oj, g1, g2, g3⟩ := hgd
    obtain ⟨s, hs, h⟩ := oB_elim h
    have hR := hS.opd hs
    cases s with
    | v q =>
      cases q with
      | bool bb =>
        have hv : dstv ops a j = .bool bb := (dstv_of g2 g3).trans (bool_of hR)
        rw [wanted_some g1 hv]
        rw [hg.d] at h
        by_cases hb : bb = b
        · rw [if_pos (by simp [hb])]
          exact .inl (run (h.1 hb))
        · rw [if_neg (by simp [hb])]
          have hb' : bb = !b := by cases bb <;> cases b <;> simp_all
          exact hK _ _ _ _ _ (h.2 hb') (hS.put (v := undef) (.tup .nil) hg.lt)
      | _ => exact h.elim
    | tup cs =>
      cases cs with
      | nil =>
        have hv : a.eval (.tmp t) = undef := by
          generalize a.eval (.tmp t) = q at hR
          cases hR with
          | tup h => cases h; rfl
        rw [wanted_tup g1 g2 g3 hv, if_neg (by simp)]
        rw [hg.d] at h
        exact hK _ _ _ _ _ h (hS.put (v := undef) (.tup .nil) hg.lt)
      | cons _ _ => exact h.elim
    | _ => exact h.elim
/-- A float. -/
theorem evG_flo {g : GOp} {L : St → Prop} (hg : GM N ops o g) (hfl : g.op.flo2 = true) (h : evG g S L) (hS : Sim N w0 H0 S E a w H) : ∃ v, Yields Try.prog ops o v a ∧ ∃ S' E' , L S' ∧ Sim N w0 H0 S' E' (a.put o.dst v) w H := by
  have run : evOp o.dst g.op S L → ∃ v, (∀ w', (execOp a.eval o).run Try.prog w' = .ok (.value v) w') ∧ ∃ S' E', L S' ∧ Sim N w0 H0 S' E' (a.put o.dst v) w H := fun hk => by
    obtain ⟨s, hk', hv⟩ := float_val2 (E := E) rfl hg.op hfl (evOp_flo2 hfl hk)
    obtain ⟨v, hv1, hv2⟩ := hv a H (hS.opds _)
    exact ⟨v, hv1, _, E, hk', hS.put hv2 hg.lt⟩
  unfold evG at h
  have hgd := hg.gd
  split at h
  · rename_i hn
    rw [hn] at hgd
    rw [hg.d] at h
    obtain ⟨v, hv, hr⟩ := run h
    exact ⟨v, .inl ⟨wanted_none hgd, hv⟩, hr⟩
  · rename_i t b hn
    rw [hn] at hgd
    obtain ⟨j, oj, g1, g2, g3⟩ := hgd
    obtain ⟨s, hs, h⟩ := oB_elim h
    have hR := hS.opd hs
    cases s with
    | v q =>
      cases q with
      | bool bb =>
        have hv : dstv ops a j = .bool bb := (dstv_of g2 g3).trans (bool_of hR)
        have hw := wanted_some (b := b) g1 hv
        rw [hg.d] at h
        by_cases hb : bb = b
        · obtain ⟨v, hv, hr⟩ := run (h.1 hb)
          exact ⟨v, .inl ⟨by rw [hw]; simp [hb], hv⟩, hr⟩
        · have hb' : bb = !b := by cases bb <;> cases b <;> simp_all
          exact ⟨undef, .inr ⟨by rw [hw]; simp [hb], rfl⟩, _, E, h.2 hb', hS.put (v := undef) (.tup .nil) hg.lt⟩
      | _ => exact h.elim
    | tup cs =>
      cases cs with
      | nil =>
        have hv : a.eval (.tmp t) = undef := by
          generalize a.eval (.tmp t) = q at hR
          cases hR with
          | tup h => cases h; rfl
        rw [hg.d] at h
        exact ⟨undef, .inr ⟨wanted_tup g1 g2 g3 hv, rfl⟩, _, E, h, hS.put (v := undef) (.tup .nil) hg.lt⟩
      | cons _ _ => exact h.elim
    | _ => exact h.elim

theorem GMs.at : ∀ {l : List Oper} {gl : List GOp} {i : Nat} {o : Oper} {g : GOp}, GMs N ops l gl → l[i]? = some o → gl[i]? = some g → GM N ops o g
  | _, _, i, _, _, .nil, h, _ => by simp at h
  | _, _, 0, _, _, .cons hg _, h, h' => by simp at h h'; subst h; subst h'; exact hg
  | _, _, i + 1, _, _, .cons _ ht, h, h' => GMs.at ht (by simpa using h) (by simpa using h')

theorem evTr_sound (hsel : Region.noSelect ops = true) (hQ : ∀ c a (d : Option Tmp) v w, Q (.panic c) (Act.put a d v) w → Q (.panic c) a w) (hgl : GMs N ops ops.toList gl) :
    ∀ (fuel : Nat) (t : OTr) (done : List Nat) (listed : Array Bool) (S : St) (E : Env) (a : Act) (w : World) (H : Hp), leftN listed = fuel → listed.size = ops.size → (∀ i, i < ops.size → listed.getD i false = done.contains i) → (∀ i, done.contains i = true → i < ops.size) → otChk ops gl done t = true →
      evTr t gl S K → Sim N w0 H0 S E a w H → (∀ a w, End N w0 H0 K a w → Q .normal a w) → wpAny Try.prog .any ops Q fuel listed a w := by
  intro fuel
  induction fuel with
  | zero =>
    intro t done listed S E a w H hl hsz hd hdl hc he hS hk
    have hall : ∀ i, i < ops.size → done.contains i = true := fun i hi => (hd i hi).symm.trans (leftN_zero hl i (by omega))
    have hno : ∀ i, readyB ops done i = false := fun i => by
      unfold readyB
      by_cases hi : i < ops.size
      · rw [hall i hi]; simp
      · simp [hi]
    cases t with
    | leaf =>
      refine ⟨?_, hk _ _ ⟨S, E, H, he, hS⟩⟩
      refine List.eq_nil_iff_forall_not_mem.2 fun i hi => ?_
      obtain ⟨h1, oi, hoi, _⟩ := mem_ready.1 hi
      have hlt : i < ops.size := (Array.getElem?_eq_some_iff.1 hoi).1
      have h2 := leftN_zero hl i (by omega)
      have : i < listed.size := by omega
      simp [this] at h1 h2
      rw [h1] at h2; cases h2
    | flo i t => simp [otChk, hno] at hc
    | step i t => simp [otChk, hno] at hc
    | alt x y => simp [otChk, hno] at hc
  | succ fuel ih =>
    intro t done listed S E a w H hl hsz hd hdl hc he hS hk
    have hrd : ∀ i, i ∈ Region.ready .any ops listed ↔ readyB ops done i = true := fun i => by
      rw [mem_ready]
      unfold readyB
      cases hoi : ops[i]? with
      | none => simp
      | some o =>
        have hlt : i < ops.size := (Array.getElem?_eq_some_iff.1 hoi).1
        have hls : i < listed.size := by omega
        have h1 : listed.getD i true = listed.getD i false := by simp [hls]
        rw [h1, hd i hlt]
        simp only [Option.some.injEq, exists_eq_left', Bool.and_eq_true, decide_eq_true_eq, hlt, true_and, Bool.not_eq_true', List.all_eq_true]
        refine and_congr_right fun _ => ⟨fun h j hj => ?_, fun h e he hb => ?_⟩
        · obtain ⟨e, he, hb, rfl⟩ := waits_spec (wl_spec hj)
          have := h e he hb
          by_cases hlt2 : e.on < ops.size
          · rw [← hd _ hlt2]; exact this
          · have : ¬ e.on < listed.size := by omega
            simp_all
        · have hm : e.on ∈ wl o := by
            unfold wl
            exact List.mem_filterMap.2 ⟨e, by simpa using he, by rw [if_pos hb]⟩
          have h2 := h _ hm
          by_cases hlt2 : e.on < ops.size
          · rw [hd _ hlt2]; exact h2
          · exact absurd (hdl _ h2) hlt2
    have hstep : ∀ i, readyB ops done i = true → i < ops.size ∧ done.contains i = false ∧ leftN (listed.setIfInBounds i true) = fuel ∧ (listed.setIfInBounds i true).size = ops.size ∧ (∀ j, j < ops.size → (listed.setIfInBounds i true).getD j false = (i :: done).contains j) ∧ ∀ j, (i :: done).contains j = true → j < ops.size := fun i hi => by
      have hi' := hi
      unfold readyB at hi'
      simp only [Bool.and_eq_true, decide_eq_true_eq, Bool.not_eq_true'] at hi'
      obtain ⟨⟨h1, h2⟩, _⟩ := hi'
      have hf : listed.getD i false = false := (hd i h1).trans h2
      have := leftN_set (listed := listed) (by omega) hf
      refine ⟨h1, h2, by omega, by simpa using hsz, fun j hj => ?_, fun j hj => ?_⟩
      rotate_left
      · simp only [List.contains_cons, Bool.or_eq_true, beq_iff_eq] at hj
        rcases hj with rfl | hj
        · exact h1
        · exact hdl j hj
      by_cases e : i = j
      · subst e
        simp [show i < listed.size from by omega]
      · rw [getD_set_ne false e, hd j hj, List.contains_cons]
        simp [show ¬ j = i from fun e' => e e'.symm]
    have hat : ∀ i, i < ops.size → ∃ o, ops[i]? = some o := fun i hi => ⟨ops[i], by simp [hi]⟩
    have single : ∀ i s, readyB ops done i = true → otChk ops gl (i :: done) s = true → (oB gl[i]? fun g => evG g S fun S' => evTr s gl S' K) → wpOp Try.prog ops Q i (wpAny Try.prog .any ops Q fuel (listed.setIfInBounds i true)) a w := fun i s hi hcs hes => by
      obtain ⟨h1, h2, h3, h4, h5, h6⟩ := hstep i hi
      obtain ⟨oi, hoi⟩ := hat i h1
      obtain ⟨g, hg, hes⟩ := oB_elim hes
      exact evG_wpOp hoi (hgl.at (by simpa using hoi) hg) hes hS fun S' E' a' w' H' hL hS' => ih s (i :: done) _ S' E' a' w' H' h3 h4 h5 h6 hcs hL hS' hk
    cases t with
    | leaf =>
      exfalso
      simp only [otChk, List.all_eq_true, List.mem_range] at hc
      have : leftN listed = 0 := by
        unfold leftN
        rw [List.countP_eq_zero]
        intro b hb
        obtain ⟨i, hi, rfl⟩ := List.mem_iff_getElem.1 hb
        have hi2 : i < listed.size := by simpa using hi
        have h1 := hd i (by omega)
        rw [hc i (by omega)] at h1
        simp [hi2] at h1 ⊢
        exact h1
      omega
    | flo i t =>
      simp only [otChk, Bool.and_eq_true] at hc
      obtain ⟨⟨⟨c1, c2⟩, c3⟩, c4⟩ := hc
      obtain ⟨h1, h2, h3, h4, h5, h7⟩ := hstep i c1
      obtain ⟨oi, hoi⟩ := hat i h1
      obtain ⟨g, hg, hes⟩ := oB_elim he
      have hfl : g.op.flo2 = true := by unfold floB at c2; rw [hg] at c2; exact c2
      obtain ⟨v, hy, S', E', hL, hS'⟩ := evG_flo (hgl.at (by simpa using hoi) hg) hfl hes hS
      refine wpAny_first hoi (Region.noSelect_spec hsel) (fun c a w h => hQ c a _ _ w h) fuel listed a w ?_ ((hrd i).2 c1) hy (ih t (i :: done) _ S' E' _ w H h3 h4 h5 h7 c4 hL hS' hk)
      intro j oj hoj hne hunj hnw
      unfold apartB at c3
      rw [hoi] at c3
      simp only [List.all_eq_true, List.mem_range, Bool.or_eq_true, decide_eq_true_eq] at c3
      have hlt : j < ops.size := (Array.getElem?_eq_some_iff.1 hoj).1
      have hls : j < listed.size := by omega
      have c5 := c3 j hlt
      rw [hoj] at c5
      simp only [Bool.or_eq_true] at c5
      rcases c5 with (c5 | c5) | (c5 | c5)
      · exact absurd c5 hne
      · have h6 := hd j hlt
        rw [c5] at h6
        simp [hls] at hunj h6
        rw [hunj] at h6; cases h6
      · obtain ⟨e, he', hb, he2⟩ := waits_spec (wl_spec (by simpa using c5))
        exact absurd he2 (hnw e he' hb)
      · exact c5
    | step i t =>
      simp only [otChk, Bool.and_eq_true, List.all_eq_true, List.mem_range, Bool.or_eq_true, Bool.not_eq_true', decide_eq_true_eq] at hc
      obtain ⟨⟨c1, c2⟩, c3⟩ := hc
      refine ⟨fun h0 => ?_, fun j hj => ?_⟩
      · have := (hrd i).2 c1; rw [h0] at this; cases this
      · have hr := (hrd j).1 hj
        have hji : j = i := (c2 j (hstep j hr).1).resolve_left (by rw [hr]; simp)
        subst hji
        exact single j t hr c3 he
    | alt x y =>
      simp only [otChk, Bool.and_eq_true, List.all_eq_true, List.mem_range, Bool.or_eq_true, Bool.not_eq_true', List.any_eq_true] at hc
      obtain ⟨⟨⟨c1, c2⟩, c3⟩, c4⟩ := hc
      refine ⟨fun h0 => ?_, fun j hj => ?_⟩
      · obtain ⟨i, _, hi⟩ := c2
        have := (hrd i).2 hi; rw [h0] at this; cases this
      · have hr := (hrd j).1 hj
        have hh := (c1 j (hstep j hr).1).resolve_left (by rw [hr]; simp)
        obtain ⟨s, hcs, hes⟩ := branch (t := .alt x y) hh (by simp only [otSub, Bool.and_eq_true]; exact ⟨c3, c4⟩) he
        exact single j s hr hcs hes
end
end Go.Proofs.Ytfcjkchpldfamaa
