/-
  The helpers of the law on added messages: One.is and is.
-/
import Derived.Test.YtlbhfpcbbembgaaHist3
namespace Go.Proofs.Ytlbhfpcbbembgaa
open Go.RowKit Go.Maps

set_option maxRecDepth 100000 in
set_option maxHeartbeats 3000000 in
theorem l3is1_ret (H : Hp) (x : OneV) (r : Option Nat) (w : World) (hs : Sub H w) (h1 : 0 ≤ x.at') (h2 : x.at' ≤ 255) (h3 : 0 ≤ x.kn) (h4 : x.kn ≤ 255) (hr : ViewR H r x.msg.view) :
    RetV Try.prog 40 #[.agg #[.int .i64 x.val, .int .u32 x.ver, .int .u32 x.ref, .int .i64 x.th, .int .u8 x.at', .int .u8 x.kn], .agg #[.int .i64 x.val, .int .u32 x.ver, .int .u32 x.ref, .int .i64 x.th, .map r]] w (.bool true) := by
  obtain ⟨v, ve, re, th, at', kn⟩ := x
  simp only at h1 h2 h3 h4
  unfold RetV
  go_enter Try.func40, Try.ntmps40
  go_wp2
  refine wp_abs2 hs fun W0 hb1 hb2 hg0 hz0 => ?_
  have hm2 := run_msg2
  refine wp_region_ag 20 [] H (by kernel_rfl) (by kernel_rfl) (by kernel_rfl) (fun _ _ _ _ _ h => h) hg0.sub ?_
  simp only [List.take_succ_cons, List.take_zero]
  apply agl_val (hfl := rfl) (hg := fun _ _ _ _ => wanted_none rfl)
  · intro a w' H' hw hp ho
    have e3 := oget (t := 3) ho rfl
    clear hw hp ho
    go_simp
    rfl
  apply agl_val (hfl := rfl) (hg := fun _ _ _ _ => wanted_none rfl)
  · intro a w' H' hw hp ho
    have e5 := tget (t := 5) (hp 0 _ rfl rfl)
    have r_hb1 := (hb1.grow hw).cell
    have r_hb2 := (hb2.grow hw).cell
    clear hw hp ho
    go_simp
    rfl
  try simp only [List.nil_append, List.cons_append]
  apply agl_val (hfl := rfl) (hg := fun _ _ _ _ => wanted_none rfl)
  · intro a w' H' hw hp ho
    have e2 := oget (t := 2) ho rfl
    clear hw hp ho
    go_simp
    rfl
  apply agl_val (hfl := rfl) (hg := fun _ _ _ _ => wanted_none rfl)
  · intro a w' H' hw hp ho
    have e7 := tget (t := 7) (hp 2 _ rfl rfl)
    have r_hb1 := (hb1.grow hw).cell
    have r_hb2 := (hb2.grow hw).cell
    clear hw hp ho
    go_simp
    rfl
  try simp only [List.nil_append, List.cons_append]
  apply agl_val (hfl := rfl) (hg := fun _ _ _ _ => wanted_none rfl)
  · intro a w' H' hw hp ho
    have e6 := tget (t := 6) (hp 1 _ rfl rfl)
    have e8 := tget (t := 8) (hp 3 _ rfl rfl)
    clear hw hp ho
    go_simp
    try simp (disch := omega) only [IntWalk.i64_in, IntWalk.u8_in, IntWalk.u32_in, IntWalk.rem_in]
    rfl
  apply agl_val (hfl := rfl) (hg := fun _ _ _ _ => wanted_none rfl)
  · intro a w' H' hw hp ho
    have e9 := tget (t := 9) (hp 4 _ rfl rfl)
    clear hw hp ho
    go_simp
    rfl
  try simp only [List.nil_append, List.cons_append]
  apply agl_val (hfl := rfl) (hg := fun _ _ _ hp => wants rfl (hp 5 _ rfl rfl))
  · intro a w' H' hw hp ho
    have e3 := oget (t := 3) ho rfl
    clear hw hp ho
    go_simp
    rfl
  apply agl_val (hfl := rfl) (hg := fun _ _ _ hp => wants rfl (hp 5 _ rfl rfl))
  · intro a w' H' hw hp ho
    have e11 := tget (t := 11) (hp 6 _ rfl rfl)
    have r_hb1 := (hb1.grow hw).cell
    have r_hb2 := (hb2.grow hw).cell
    clear hw hp ho
    go_simp
    rfl
  try simp only [List.nil_append, List.cons_append]
  apply agl_val (hfl := rfl) (hg := fun _ _ _ hp => wants rfl (hp 5 _ rfl rfl))
  · intro a w' H' hw hp ho
    have e2 := oget (t := 2) ho rfl
    clear hw hp ho
    go_simp
    rfl
  apply agl_val (hfl := rfl) (hg := fun _ _ _ hp => wants rfl (hp 5 _ rfl rfl))
  · intro a w' H' hw hp ho
    have e13 := tget (t := 13) (hp 8 _ rfl rfl)
    have r_hb1 := (hb1.grow hw).cell
    have r_hb2 := (hb2.grow hw).cell
    clear hw hp ho
    go_simp
    rfl
  try simp only [List.nil_append, List.cons_append]
  apply agl_val (hfl := rfl) (hg := fun _ _ _ hp => wants rfl (hp 5 _ rfl rfl))
  · intro a w' H' hw hp ho
    have e12 := tget (t := 12) (hp 7 _ rfl rfl)
    have e14 := tget (t := 14) (hp 9 _ rfl rfl)
    clear hw hp ho
    go_simp
    try simp (disch := omega) only [IntWalk.i64_in, IntWalk.u8_in, IntWalk.u32_in, IntWalk.rem_in]
    rfl
  apply agl_val (hfl := rfl) (hg := fun _ _ _ _ => wanted_none rfl)
  · intro a w' H' hw hp ho
    have e10 := tget (t := 10) (hp 5 _ rfl rfl)
    have e15 := tget (t := 15) (hp 10 _ rfl rfl)
    clear hw hp ho
    go_simp
    rfl
  try simp only [List.nil_append, List.cons_append]
  apply agl_val (hfl := rfl) (hg := fun _ _ _ _ => wanted_none rfl)
  · intro a w' H' hw hp ho
    have e16 := tget (t := 16) (hp 11 _ rfl rfl)
    clear hw hp ho
    go_simp
    rfl
  apply agl_val (hfl := rfl) (hg := fun _ _ _ hp => wants rfl (hp 12 _ rfl rfl))
  · intro a w' H' hw hp ho
    have e3 := oget (t := 3) ho rfl
    clear hw hp ho
    go_simp
    rfl
  try simp only [List.nil_append, List.cons_append]
  apply agl_val (hfl := rfl) (hg := fun _ _ _ hp => wants rfl (hp 12 _ rfl rfl))
  · intro a w' H' hw hp ho
    have e18 := tget (t := 18) (hp 13 _ rfl rfl)
    have r_hb1 := (hb1.grow hw).cell
    have r_hb2 := (hb2.grow hw).cell
    clear hw hp ho
    go_simp
    rfl
  apply agl_val (hfl := rfl) (hg := fun _ _ _ hp => wants rfl (hp 12 _ rfl rfl))
  · intro a w' H' hw hp ho
    have e2 := oget (t := 2) ho rfl
    have r_hb1 := (hb1.grow hw).cell
    have r_hb2 := (hb2.grow hw).cell
    clear hw hp ho
    go_simp
    rfl
  try simp only [List.nil_append, List.cons_append]
  apply agl_call (hfl := rfl) (hg := fun _ _ _ hp => wants rfl (hp 12 _ rfl rfl))
  · intro a w' H' hw hp ho
    have e20 := tget (t := 20) (hp 15 _ rfl rfl)
    apply Exists.intro
    apply And.intro
    · go_simp; first | rfl | exact ⟨rfl, rfl⟩
    · exact l3make_ret H' ⟨v, ve, re, th, at', kn⟩ w' hw.sub h1 h2 h3 h4
  · exact fun _ _ _ l h => h.le l
  apply agl_ex (j := 16) (hj := rfl) (hwj := rfl) (hfl := rfl) (hg := fun _ _ _ hp => wants rfl (hp 12 _ rfl rfl))
  · intro x a w' H' hw hp ho ex hx
    replace ex := tget (t := 21) ex
    have r_hb1 := (hb1.grow hw).cell
    have r_hb2 := (hb2.grow hw).cell
    clear hw hp ho
    go_simp
    rfl
  · exact fun _ _ _ l h => h.le l
  try simp only [List.nil_append, List.cons_append]
  apply agl_callv (hfl := rfl) (hg := fun _ _ _ hp => wants rfl (hp 12 _ rfl rfl))
  · intro a w' H' hw hp ho
    have e19 := tget (t := 19) (hp 14 _ rfl rfl)
    obtain ⟨x17, e22, hx17⟩ := hp 17 _ rfl rfl
    replace e22 := tget (t := 22) e22
    apply Exists.intro
    apply And.intro
    · go_simp; first | rfl | exact ⟨rfl, rfl⟩
    · exact vSame_ret H' _ _ _ w' hw.sub (hr.le (hw.le hg0.sub)) hx17
  apply agl_val (hfl := rfl) (hg := fun _ _ _ _ => wanted_none rfl)
  · intro a w' H' hw hp ho
    have e17 := tget (t := 17) (hp 12 _ rfl rfl)
    have e23 := tget (t := 23) (hp 18 _ rfl rfl)
    clear hw hp ho
    go_simp
    rfl
  refine agl_nil fun W Hf hgr => ?_
  simp only [List.nil_append, List.cons_append, List.take_succ_cons, List.take_zero]
  refine FinL_eq ?_
  refine FinL_eq ?_
  refine FinL_eq ?_
  refine FinL_eq ?_
  refine FinL_eq ?_
  refine FinL_eq ?_
  refine FinL_eq ?_
  refine FinL_eq ?_
  refine FinL_eq ?_
  refine FinL_eq ?_
  refine FinL_eq ?_
  refine FinL_eq ?_
  refine FinL_eq ?_
  refine FinL_eq ?_
  refine FinL_eq ?_
  refine FinL_eq ?_
  refine FinL_ex fun x16 hx16 => ?_
  refine FinL_ex fun x17 hx17 => ?_
  refine FinL_eq ?_
  refine FinL_eq ?_
  refine FinL_nil ?_
  replace hb1 := hb1.grow hgr
  replace hb2 := hb2.grow hgr
  simp only [List.drop_succ_cons, List.drop_zero, Act.put, List.setIfInBounds_toArray, List.set_cons_succ, List.set_cons_zero]
  go_wp2
  go_ret
  exact retv_mk (hg0.below.trans (hgr.below.mono (by omega)))

theorem hLen_eq (s : SlV) (N : Int) (w : World) (h : (s.n : Int) = N) : RetV Try.prog 16 #[.agg #[.slice s.a s.n s.c]] w (.int .i64 N) := h ▸ hLen_ret s w

def IsRel (H : Hp) (w : World) (hb : Nat) (s : SlV) (n : Nat) (i : Value) (wr : World) : Prop :=
  ∃ (k : Nat) (Hk : Hp), k ≤ n ∧ i = .int .i64 k ∧ Grow w H wr Hk ∧ Box wr hb #[.slice s.a s.n s.c] 26

set_option maxRecDepth 100000 in
set_option maxHeartbeats 3000000 in
theorem l3is_ret (H : Hp) (x y z : Int) (s1 s : SlV) (l : List OneV) (w : World) (hs : Sub H w) (hh : HistR H s1 (⟨x, y, z, 0, fun _ => 0⟩ :: l.map OneV.msg)) (hl : SlR 6 OneR H s.a s.n s.c l) (hn : s.n ≤ 100) :
    RetV Try.prog 22 #[.agg #[.slice s1.a s1.n s1.c], .agg #[.int .i64 x, .int .u32 y, .int .u32 z], .slice s.a s.n s.c] w (.bool true) := by
  have hlen := hl.len
  have hlen1 := hh.len
  have hs1 : (s1.n : Int) = s.n + 1 := by simp at hlen1; omega
  have hs1c : s1.n ≤ 1000000 := by omega
  have hL : ∀ k : Nat, k < s.n → ∃ xk, l[k]? = some xk ∧ atM (⟨x, y, z, 0, fun _ => 0⟩ :: l.map OneV.msg) ((k : Int) + 1) = (xk.msg, true) := by
    intro k hk
    refine ⟨l[k]'(by omega), by simp, ?_⟩
    unfold atM
    rw [if_pos ⟨by omega, by simp; omega⟩]
    have : ((k : Int) + 1).toNat = k + 1 := by omega
    rw [this]
    simp [List.getD_eq_getElem?_getD, List.getElem?_map, List.getElem?_eq_getElem (show k < l.length by omega)]
  have h0 : atM (⟨x, y, z, 0, fun _ => 0⟩ :: l.map OneV.msg) 0 = (⟨x, y, z, 0, fun _ => 0⟩, true) := by
    unfold atM
    rw [if_pos ⟨by omega, by simp⟩]; rfl
  generalize (⟨x, y, z, 0, fun _ => 0⟩ :: l.map OneV.msg : List MsgV) = L at hh hL h0
  clear hlen1
  unfold RetV
  go_enter Try.func22, Try.ntmps22
  go_wp2_with fail
  refine RetV.use (hLen_eq s1 _ _ hs1) fun w1 hb1 => ?_
  have HS := Lib.hid hs1
  clear hs1
  have hbh : Box w1 w.heap.size _ _ := (hb1.block _ (by simp; omega)).trans (heap_past _ _ (heap_at _ _ rfl))
  have hbw : Box w1 (w.heap.size + 1) _ _ := (hb1.block _ (by simp)).trans (heap_at _ _ (by simp))
  have hg1 : Grow w H w1 H := Grow.of_below hs ((((Below.refl _ _).alloc (Nat.le_refl _) _).alloc (by simp) _).trans (hb1.mono (by simp; omega)))
  have hc1 := hbh.cell
  have hc2 := hbw.cell
  go_wp2_with fail
  refine Ret.use (hAt_ret H s1 L 0 _ hg1.sub hh (by omega)) fun x2 w2 H2 hg2 hx2 => ?_
  rw [h0] at hx2 ⊢
  simp only [MsgV.v] at hx2 ⊢
  replace hbh := hbh.grow hg2
  replace hbw := hbw.grow hg2
  replace hg1 := hg1.trans hg2
  have hc3 := hbh.cell
  have hc4 := hbw.cell
  have hlh := hbh.lt
  have hlw := hbw.lt
  clear hg2 hc1 hc2 hb1
  go_wp2_with fail
  refine RetV.use (vSame_ret H2 x2 none (fun _ => 0) _ (hg1.sub.alloc _) hx2 (ViewR.zero _)) fun w3 hb3 => ?_
  have hg3 : Grow w H w3 H2 := (hg1.alloc _).trans (Grow.of_below (hg1.sub.alloc _) hb3)
  replace hbh : Box w3 w.heap.size _ _ := (hb3.block _ (by simp; omega)).trans (heap_past _ _ hbh)
  clear hbw hc3 hc4 hg1 hb3 h0 hx2 hlh hlw
  have hc5 := hbh.cell
  go_wp2_with fail
  go_loopw [46] (fun i wr => IsRel H w w.heap.size s1 s.n i wr) (fun i _ => s.n - (intOf i).toNat)
  case atStart => exact ⟨0, _, Nat.zero_le _, rfl, hg3, hbh⟩
  case round =>
    clear hbh hg3 hc5
    obtain ⟨k, Hk, hk, rfl, hgk, hbh⟩ := hrel
    have hc6 := hbh.cell
    by_cases hlt : k < s.n
    · obtain ⟨xk, hxk, hat⟩ := hL k hlt
      obtain ⟨b, o, es, ha, hes, ⟨rfl, v1, v2, v3, v4⟩, ⟨ob, hob⟩, hcl⟩ := hl.at hxk (by omega)
      have hle := hgk.le hs
      have hsub : Sub H wr := fun i o e => hgk.sub i o (hle i o e)
      have c0 := hcl wr hsub 0 _ rfl
      have c1 := hcl wr hsub 1 _ rfl
      have c2 := hcl wr hsub 2 _ rfl
      have c3 := hcl wr hsub 3 _ rfl
      have c4 := hcl wr hsub 4 _ rfl
      have c5 := hcl wr hsub 5 _ rfl
      simp only [Nat.add_zero] at c0
      clear hcl
      have hbl := hsub.lt hob
      have hbh0 := hbh.lt
      obtain ⟨sa, sn, sc⟩ := s
      simp only at ha hlt hlen hl hk hn hL HS
      subst ha
      go_wp2_with fail
      have hg0 : Grow wr Hk (wr.alloc (.cells #[.int .i64 xk.val, .int .u32 xk.ver, .int .u32 xk.ref, .int .i64 xk.th, .int .u8 xk.at', .int .u8 xk.kn] 37)) Hk := (Grow.refl hgk.sub).alloc _
      refine Ret.use (hAt_ret Hk s1 L _ _ hg0.sub (HistR.le hh hle) (by omega)) fun x4 w4 H4 hg4 hx4 => ?_
      rw [hat] at hx4 ⊢
      simp only [MsgV.v, OneV.msg] at hx4 ⊢
      have hbx : Box w4 wr.heap.size _ _ := (hg4.below.block _ (by simp)).trans (heap_at _ _ rfl)
      replace hbh : Box w4 w.heap.size _ _ := (hg4.below.block _ (by simp; omega)).trans (heap_past _ _ hbh)
      have hgw := hgk.trans (hg0.trans hg4)
      have hc7 := hbh.cell
      have hc8 := hbx.cell
      have hl7 := hbh.lt
      have hl8 := hbx.lt
      clear c0 c1 c2 c3 c4 c5 hc6 hat hbl hg0 hg4
      go_wp2_with fail
      refine RetV.use (l3is1_ret H4 xk x4 _ (hgw.sub.alloc _) v1 v2 v3 v4 hx4) fun w5 hb5 => ?_
      have hg5 := (hgw.alloc _).trans (Grow.of_below (hgw.sub.alloc _) hb5)
      replace hbh : Box w5 w.heap.size _ _ := (hb5.block _ (by simp; omega)).trans (heap_past _ _ hbh)
      go_wp2
      go_roundw
      case rel => exact ⟨k + 1, _, by omega, by go_num, hg5, hbh⟩
      case measure => simp [intOf]; omega
    · have hkn : k = s.n := by omega
      subst hkn
      go_wp2
      go_ret
      exact retv_mk hgk.below
end Go.Proofs.Ytlbhfpcbbembgaa
