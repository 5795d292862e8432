/-
  The helpers of the laws on histories: make, made, awake.
-/
import Derived.Test.YtlbhfpcbbembgaaHist2
namespace Go.Proofs.Ytlbhfpcbbembgaa
open Go.RowKit Go.Maps

structure OneV where
  val : Int
  ver : Int
  ref : Int
  th : Int
  at' : Int
  kn : Int
def OneR : Elt OneV := fun _ cs x => cs = [.int .i64 x.val, .int .u32 x.ver, .int .u32 x.ref, .int .i64 x.th, .int .u8 x.at', .int .u8 x.kn] ∧ 0 ≤ x.at' ∧ x.at' ≤ 255 ∧ 0 ≤ x.kn ∧ x.kn ≤ 255
theorem OneR.mono : Mono OneR := fun _ _ _ _ _ h => h
def OneV.msg (x : OneV) : MsgV := ⟨x.val, x.ver, x.ref, x.th, withF (fun _ => 0) x.at' x.kn⟩

set_option maxRecDepth 100000 in
set_option maxHeartbeats 1000000 in
theorem l3make_ret (H : Hp) (x : OneV) (w : World) (hs : Sub H w) (h1 : 0 ≤ x.at') (h2 : x.at' ≤ 255) (h3 : 0 ≤ x.kn) (h4 : x.kn ≤ 255) :
    Ret Try.prog 18 #[.agg #[.int .i64 x.val, .int .u32 x.ver, .int .u32 x.ref, .int .i64 x.th, .int .u8 x.at', .int .u8 x.kn]] w H (fun r : Option Nat => .agg #[.int .i64 x.val, .int .u32 x.ver, .int .u32 x.ref, .int .i64 x.th, .map r]) (fun r H' => ViewR H' r x.msg.view) := by
  obtain ⟨v, ve, re, th, at', kn⟩ := x
  simp only at h1 h2 h3 h4
  unfold Ret OneV.msg
  go_enter Try.func18, Try.ntmps18
  go_wp2
  refine wp_abs2 hs fun W0 hb1 hb2 hg0 hz0 => ?_
  refine wp_region_ag 13 [] H (by kernel_rfl) (by kernel_rfl) (by kernel_rfl) (fun _ _ _ _ _ h => h) hg0.sub ?_
  simp only [List.take_succ_cons, List.take_zero]
  apply agl_val (hfl := rfl) (hg := fun _ _ _ _ => wanted_none rfl)
  · intro a w' H' hw hp ho
    have e1 := oget (t := 1) ho rfl
    clear hw hp ho
    go_simp
    rfl
  apply agl_val (hfl := rfl) (hg := fun _ _ _ _ => wanted_none rfl)
  · intro a w' H' hw hp ho
    have e3 := tget (t := 3) (hp 0 _ rfl rfl)
    have r_hb1 := (hb1.grow hw).cell
    have r_hb2 := (hb2.grow hw).cell
    clear hw hp ho
    go_simp
    rfl
  try simp only [List.nil_append, List.cons_append]
  apply agl_val (hfl := rfl) (hg := fun _ _ _ _ => wanted_none rfl)
  · intro a w' H' hw hp ho
    have e1 := oget (t := 1) ho rfl
    clear hw hp ho
    go_simp
    rfl
  apply agl_val (hfl := rfl) (hg := fun _ _ _ _ => wanted_none rfl)
  · intro a w' H' hw hp ho
    have e5 := tget (t := 5) (hp 2 _ rfl rfl)
    have r_hb1 := (hb1.grow hw).cell
    have r_hb2 := (hb2.grow hw).cell
    clear hw hp ho
    go_simp
    rfl
  try simp only [List.nil_append, List.cons_append]
  apply agl_val (hfl := rfl) (hg := fun _ _ _ _ => wanted_none rfl)
  · intro a w' H' hw hp ho
    clear hw hp ho
    go_simp
    rfl
  apply agl_val (hfl := rfl) (hg := fun _ _ _ _ => wanted_none rfl)
  · intro a w' H' hw hp ho
    have e1 := oget (t := 1) ho rfl
    clear hw hp ho
    go_simp
    rfl
  try simp only [List.nil_append, List.cons_append]
  apply agl_val (hfl := rfl) (hg := fun _ _ _ _ => wanted_none rfl)
  · intro a w' H' hw hp ho
    have e8 := tget (t := 8) (hp 5 _ rfl rfl)
    have r_hb1 := (hb1.grow hw).cell
    have r_hb2 := (hb2.grow hw).cell
    clear hw hp ho
    go_simp
    rfl
  apply agl_val (hfl := rfl) (hg := fun _ _ _ _ => wanted_none rfl)
  · intro a w' H' hw hp ho
    have e9 := tget (t := 9) (hp 6 _ rfl rfl)
    clear hw hp ho
    go_simp
    try simp (disch := omega) only [IntWalk.i64_in, IntWalk.u8_in, IntWalk.u32_in, IntWalk.rem_in]
    rfl
  try simp only [List.nil_append, List.cons_append]
  apply agl_val (hfl := rfl) (hg := fun _ _ _ _ => wanted_none rfl)
  · intro a w' H' hw hp ho
    have e1 := oget (t := 1) ho rfl
    clear hw hp ho
    go_simp
    rfl
  apply agl_val (hfl := rfl) (hg := fun _ _ _ _ => wanted_none rfl)
  · intro a w' H' hw hp ho
    have e11 := tget (t := 11) (hp 8 _ rfl rfl)
    have r_hb1 := (hb1.grow hw).cell
    have r_hb2 := (hb2.grow hw).cell
    clear hw hp ho
    go_simp
    rfl
  try simp only [List.nil_append, List.cons_append]
  apply agl_val (hfl := rfl) (hg := fun _ _ _ _ => wanted_none rfl)
  · intro a w' H' hw hp ho
    have e12 := tget (t := 12) (hp 9 _ rfl rfl)
    clear hw hp ho
    go_simp
    try simp (disch := omega) only [IntWalk.i64_in, IntWalk.u8_in, IntWalk.u32_in, IntWalk.rem_in]
    rfl
  apply agl_call (hfl := rfl) (hg := fun _ _ _ _ => wanted_none rfl)
  · intro a w' H' hw hp ho
    have e7 := tget (t := 7) (hp 4 _ rfl rfl)
    have e10 := tget (t := 10) (hp 7 _ rfl rfl)
    have e13 := tget (t := 13) (hp 10 _ rfl rfl)
    apply Exists.intro
    apply And.intro
    · go_simp; first | rfl | exact ⟨rfl, rfl⟩
    · exact vWith_ret H' none _ _ _ w' hw.sub (ViewR.zero H') (by omega) (by omega) (by omega)
  · exact fun _ _ _ l h => h.le l
  try simp only [List.nil_append, List.cons_append]
  apply agl_ex (j := 11) (hj := rfl) (hwj := rfl) (hfl := rfl) (hg := fun _ _ _ _ => wanted_none rfl)
  · intro x a w' H' hw hp ho ex hx
    replace ex := tget (t := 14) ex
    have e4 := tget (t := 4) (hp 1 _ rfl rfl)
    have e6 := tget (t := 6) (hp 3 _ rfl rfl)
    have r_hb1 := (hb1.grow hw).cell
    have r_hb2 := (hb2.grow hw).cell
    clear hw hp ho
    go_simp
    rfl
  · exact fun _ _ _ l h => h.le l
  refine agl_nil fun W Hf hgr => ?_
  simp only [List.nil_append, List.cons_append, List.take_succ_cons, List.take_zero]
  refine FinL_eq ?_
  refine FinL_eq ?_
  refine FinL_eq ?_
  refine FinL_eq ?_
  refine FinL_eq ?_
  refine FinL_eq ?_
  refine FinL_eq ?_
  refine FinL_eq ?_
  refine FinL_eq ?_
  refine FinL_eq ?_
  refine FinL_eq ?_
  refine FinL_ex fun x11 hx11 => ?_
  refine FinL_ex fun x12 hx12 => ?_
  refine FinL_nil ?_
  replace hb1 := hb1.grow hgr
  replace hb2 := hb2.grow hgr
  simp only [List.drop_succ_cons, List.drop_zero, Act.put, List.setIfInBounds_toArray, List.set_cons_succ, List.set_cons_zero]
  refine wpList_store_box (val := .agg #[_, _, _, _, _]) rfl _ _ _ rfl _ _ _ rfl rfl hb2 (by kernel_rfl) rfl (by simp [Value.cells, Value.oneCell']) fun w2 hp2 => ?_
  have hc2 := hp2.box.cell
  go_wp2
  exact bodyPost_ret (v := .agg #[.int .i64 v, .int .u32 ve, .int .u32 re, .int .i64 th, .map x12]) (by simp [results, Try.results18, go_sem, hc2]) rfl (ret_mk x12 Hf (hp2.grow (hg0.trans hgr) (by omega) (hgr.priv (by omega) (hs.none (by omega)))) hx12)

def MadeRel (H : Hp) (w : World) (hb rb : Nat) (m0 : MsgV) (l : List OneV) (n : Nat) (i : Value) (wr : World) : Prop :=
  ∃ (k : Nat) (sk : SlV) (Hk : Hp), k ≤ n ∧ i = .int .i64 k ∧ Grow w H wr Hk ∧ Box wr hb #[.slice sk.a sk.n sk.c] 26 ∧ Hk hb = none ∧ Box wr rb #[.slice none 0 0] 26 ∧ Hk rb = none ∧ HistR Hk sk (m0 :: (l.take k).map OneV.msg)

set_option maxRecDepth 100000 in
set_option maxHeartbeats 1000000 in
theorem made_ret (H : Hp) (x y z : Int) (s : SlV) (l : List OneV) (w : World) (hs : Sub H w) (hl : SlR 6 OneR H s.a s.n s.c l) (hn : s.n ≤ 100) :
    Ret Try.prog 13 #[.agg #[.int .i64 x, .int .u32 y, .int .u32 z], .slice s.a s.n s.c] w H (fun s : SlV => .agg #[.slice s.a s.n s.c]) (fun s H' => HistR H' s (⟨x, y, z, 0, fun _ => 0⟩ :: l.map OneV.msg)) := by
  have hlen := hl.len
  unfold Ret
  go_enter Try.func13, Try.ntmps13
  go_wp2_with (go_at_call 21; refine Ret.use (hNew_ret H _ _ _ _ ((hs.alloc _).alloc _)) fun s1 w1 H1 hg1 hh1 => ?_; obtain ⟨hc1, hf1⟩ := bcell hg1.below)
  have hbr : Box w1 (w.heap.size + 1) #[.slice none 0 0] 26 := (hg1.below.block _ (by simp)).trans (heap_at _ _ (by simp))
  have hz1 : w.heap.size + 2 ≤ w1.heap.size := by have := hg1.below.size; simp at this; omega
  have hgw : Grow w H (w1.alloc (.cells #[.slice s1.a s1.n s1.c] 26)) H1 := (Grow.trans (((Grow.refl hs).alloc _).alloc _) hg1).alloc _
  go_loopw [12] (fun i wr => MadeRel H w w1.heap.size (w.heap.size + 1) ⟨x, y, z, 0, fun _ => 0⟩ l s.n i wr) (fun i _ => s.n - (intOf i).toNat)
  case atStart => exact ⟨0, s1, H1, Nat.zero_le _, rfl, hgw, heap_at _ _ rfl, hg1.sub.none (Nat.le_refl _), heap_past _ _ hbr, (hg1.old _ (by simp)).trans (hs.none (by omega)), hh1⟩
  case round =>
    obtain ⟨k, sk, Hk, hk, rfl, hgk, hbh, hHk, hbr', hHr, hhk⟩ := hrel
    clear hc1 hf1 hg1 hh1 hbr hgw
    have hsk := hhk.len
    have hhc := hbh.cell
    have hhf := hbh.frozen
    have hrc := hbr'.cell
    have hrf := hbr'.frozen
    by_cases hlt : k < s.n
    · obtain ⟨xk, hxk⟩ : ∃ xk, l[k]? = some xk := ⟨l[k]'(by omega), by simp⟩
      obtain ⟨b, o, es, ha, hes, ⟨rfl, v1, v2, v3, v4⟩, ⟨ob, hob⟩, hcl⟩ := hl.at hxk (by omega)
      have hle := hgk.le hs
      have hsub : Sub H wr := fun i o e => hgk.sub i o (hle i o e)
      have c0 := hcl wr hsub 0 _ rfl
      have c1 := hcl wr hsub 1 _ rfl
      have c2 := hcl wr hsub 2 _ rfl
      have c3 := hcl wr hsub 3 _ rfl
      have c4 := hcl wr hsub 4 _ rfl
      have c5 := hcl wr hsub 5 _ rfl
      simp only [Nat.add_zero] at c0
      clear hcl
      have hbl := hsub.lt hob
      obtain ⟨sa, sn, sc⟩ := s
      simp only at ha hlt hlen hl hk hn
      subst ha
      go_wp2_with fail
      refine wp_abs1 hgk.sub fun W0 hbx hg0 hz => ?_
      have hbhl := hbh.lt
      replace hbh := hbh.grow hg0
      replace hbr' := hbr'.grow hg0
      have hwr := hgk.below.size
      clear hhc hhf hrc hrf c0 c1 c2 c3 c4 c5
      refine wp_region_ag 4 [] Hk (by kernel_rfl) (by kernel_rfl) (by kernel_rfl) (fun _ _ _ _ _ h => h) hg0.sub ?_
      simp only [List.take_succ_cons, List.take_zero]
      apply agl_val (hfl := rfl) (hg := fun _ _ _ _ => wanted_none rfl)
      · intro a w' H' hw hp ho
        have e5 := oget (t := 5) ho rfl
        have r_hbh := (hbh.grow hw).cell
        have r_hbr' := (hbr'.grow hw).cell
        have r_hbx := (hbx.grow hw).cell
        clear hw hp ho
        go_simp
        rfl
      apply agl_val (hfl := rfl) (hg := fun _ _ _ _ => wanted_none rfl)
      · intro a w' H' hw hp ho
        have e7 := oget (t := 7) ho rfl
        have r_hbh := (hbh.grow hw).cell
        have r_hbr' := (hbr'.grow hw).cell
        have r_hbx := (hbx.grow hw).cell
        clear hw hp ho
        go_simp
        rfl
      try simp only [List.nil_append, List.cons_append]
      apply agl_call (hfl := rfl) (hg := fun _ _ _ _ => wanted_none rfl)
      · intro a w' H' hw hp ho
        have e17 := tget (t := 17) (hp 1 _ rfl rfl)
        apply Exists.intro
        apply And.intro
        · go_simp; first | rfl | exact ⟨rfl, rfl⟩
        · exact l3make_ret H' xk w' hw.sub v1 v2 v3 v4
      · exact fun _ _ _ l h => h.le l
      apply agl_call (hfl := rfl) (hg := fun _ _ _ _ => wanted_none rfl)
      · intro a w' H' hw hp ho
        have e16 := tget (t := 16) (hp 0 _ rfl rfl)
        obtain ⟨x2, e18, hx2⟩ := hp 2 _ rfl rfl
        replace e18 := tget (t := 18) e18
        apply Exists.intro
        apply And.intro
        · go_simp; first | rfl | exact ⟨rfl, rfl⟩
        · exact hAdd_ret H' sk _ xk.msg x2 w' hw.sub (hhk.le (hw.le hg0.sub)) hx2 (by simp at hsk; omega)
      · exact fun _ _ _ g h => HistR.le h g
      refine agl_nil fun W Hf hgr => ?_
      simp only [List.nil_append, List.cons_append, List.take_succ_cons, List.take_zero]
      refine FinL_eq ?_
      refine FinL_eq ?_
      refine FinL_ex fun x2 hx2 => ?_
      refine FinL_ex fun x3 hx3 => ?_
      refine FinL_nil ?_
      replace hbh := hbh.grow hgr
      replace hbr' := hbr'.grow hgr
      replace hbx := hbx.grow hgr
      simp only [List.drop_succ_cons, List.drop_zero, Act.put, List.setIfInBounds_toArray, List.set_cons_succ, List.set_cons_zero]
      refine wpList_store_box (val := .agg #[_]) rfl _ _ _ rfl _ _ _ rfl rfl hbh (by kernel_rfl) rfl (by simp [Value.cells, Value.oneCell']) fun w2 hp2 => ?_
      go_wp2
      go_roundw
      case rel =>
        refine ⟨k + 1, x3, Hf, by omega, by go_num, hp2.grow (hgk.trans (hg0.trans hgr)) (by omega) ?_, hp2.box, ?_, hbr'.put hp2 (by omega), (hg0.trans hgr).priv (by omega) hHr, ?_⟩
        · exact (hg0.trans hgr).priv (by omega) hHk
        · exact (hg0.trans hgr).priv (by omega) hHk
        · rw [List.take_add_one, hxk]; simpa using hx3
      case measure => simp [intOf]; omega
    · have hkn : k = s.n := by omega
      subst hkn
      go_wp2
      refine bodyPost_ret (v := .agg #[.slice sk.a sk.n sk.c]) (by simp [results, Try.results13, go_sem, hrc]) rfl (ret_mk sk Hk ?_ ?_)
      · exact hgk.setCell (by simp) hHr _
      · rw [List.take_of_length_le (by omega)] at hhk
        exact hhk
def noHp : Hp := fun _ => none
theorem noSub (w : World) : Sub noHp w := fun _ _ h => by cases h

set_option maxRecDepth 100000 in
set_option maxHeartbeats 1000000 in
theorem l3awake_ret (w : World) : RetV Try.prog 12 #[] w (.bool true) := by
  unfold RetV
  go_enter Try.func12, Try.ntmps12
  go_wp2_with fail
  obtain ⟨Ha, hHa⟩ : ∃ Ha, Ha = noHp.add w.heap.size (.cells #[.int .i64 6, .int .u32 0, .int .u32 0, .int .i64 0, .int .u8 0, .int .u8 0, .int .i64 7, .int .u32 0, .int .u32 0, .int .i64 0, .int .u8 0, .int .u8 0] 37 (0, 0)) := ⟨_, rfl⟩
  have hsl : SlR 6 OneR Ha (some ⟨w.heap.size, 0, none⟩) 2 2 [⟨6, 0, 0, 0, 0, 0⟩, ⟨7, 0, 0, 0, 0, 0⟩] := SlR.lit (by rw [hHa]; exact Hp.add_at _ _ _)
    ((FlatR.one (k := 6) (R := OneR) (x := ⟨6, 0, 0, 0, 0, 0⟩) rfl ⟨rfl, by decide⟩).append (FlatR.one (k := 6) (R := OneR) (x := ⟨7, 0, 0, 0, 0, 0⟩) rfl ⟨rfl, by decide⟩)) (by simp [Value.oneCell']) rfl
  refine Ret.use (made_ret Ha 5 0 0 ⟨some ⟨w.heap.size, 0, none⟩, 2, 2⟩ _ _ (by rw [hHa]; exact Hp.add_sub ((noSub w).alloc _) (heap_at _ _ rfl)) hsl (by simp)) fun s1 w1 H1 hg1 hh1 => ?_
  obtain ⟨hc1, hf1⟩ := bcell hg1.below
  have hn3 : s1.n = 3 := hh1.len.symm
  have q0 : ((s1.n : Int) == 3) = true := by rw [hn3]; rfl
  have q1 : chooseF s1.n 0 0 = 2 := by rw [hn3]; decide
  have q2 : chooseF s1.n 0 1 = 1 := by rw [hn3]; decide
  have q3 : chooseF s1.n 1 2 = 2 := by rw [hn3]; decide
  have q4 : chooseF s1.n 9 4 = 2 := by rw [hn3]; decide
  have q5 : chooseF s1.n (-3) 5 = 0 := by rw [hn3]; decide
  have hsn : s1.n ≤ 1000000 := by omega
  have hbx : Box (w1.alloc (.cells #[.slice s1.a s1.n s1.c] 26)) w1.heap.size #[.slice s1.a s1.n s1.c] 26 := heap_at _ _ rfl
  have hbb : Below w.heap.size w (w1.alloc (.cells #[.slice s1.a s1.n s1.c] 26)) := (((Below.refl _ _).alloc (Nat.le_refl _) _).trans (hg1.below.mono (by simp))).alloc (by have := hg1.below.size; simp at this; omega) _
  have hzz : w.heap.size ≤ (w1.alloc (.cells #[.slice s1.a s1.n s1.c] 26)).heap.size := hbb.size
  clear hn3 hc1 hf1
  go_wp2_with (first
    | (go_at_call 16; refine RetV.use (hLen_ret s1 _) fun w2 hb2 => ?_; replace hbx := hbx.below hb2 hbx.lt; have hc2 := hbx.cell; replace hbb := hbb.trans (hb2.mono hzz); replace hzz := hbb.size)
    | (go_at_call 14; refine RetV.use (hChoose_ret s1 _ _ _ hsn (by decide)) fun w3 hb3 => ?_; replace hbx := hbx.below hb3 hbx.lt; have hc3 := hbx.cell; replace hbb := hbb.trans (hb3.mono hzz); replace hzz := hbb.size))
  go_ret
  exact retv_mk hbb
end Go.Proofs.Ytlbhfpcbbembgaa
