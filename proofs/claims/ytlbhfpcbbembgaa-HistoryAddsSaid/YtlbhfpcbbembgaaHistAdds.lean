/-
  HistoryAdds returns true for every input: a history contains exactly the messages that were added, in order, Last returns the last one, and earlier histories are unchanged.
  Conditions: none.
-/
import Derived.Test.YtlbhfpcbbembgaaOne
import Derived.Test.YtlbhfpcbbembgaaHistIs
namespace Go.Proofs.Ytlbhfpcbbembgaa
open Go.ChangeShapes Go.WideShapes Go.ChangeAt Go.RowKit

theorem hAt_eq (H : Hp) (s : SlV) (l : List MsgV) (i : Int) (m : MsgV) (ok : Bool) (w : World) (hs : Sub H w) (h : HistR H s l) (hb : s.n ≤ 1000000) (he : atM l i = (m, ok)) :
    Ret Try.prog 19 #[.agg #[.slice s.a s.n s.c], .int .i64 i] w H (fun r : Option Nat => .tuple #[.agg #[.int .i64 m.val, .int .u32 m.ver, .int .u32 m.ref, .int .i64 m.th, .map r], .bool ok]) (fun r H' => ViewR H' r m.view) := by
  have := hAt_ret H s l i w hs h (by omega)
  rw [he] at this
  exact this
theorem hLast_eq (H : Hp) (s : SlV) (l : List MsgV) (m : MsgV) (w : World) (hs : Sub H w) (h : HistR H s l) (hb : s.n ≤ 1000000) (he : lastM l = m) :
    Ret Try.prog 20 #[.agg #[.slice s.a s.n s.c]] w H (fun r : Option Nat => .agg #[.int .i64 m.val, .int .u32 m.ver, .int .u32 m.ref, .int .i64 m.th, .map r]) (fun r H' => ViewR H' r m.view) := by
  have := hLast_ret H s l w hs h hb
  rw [he] at this
  exact this
theorem lastM_snoc (l : List MsgV) (m : MsgV) : lastM (l ++ [m]) = m := by
  unfold lastM atM
  rw [if_pos ⟨by simp, by simp; omega⟩]
  have : (((l ++ [m]).length : Int) - 1).toNat = l.length := by simp
  simp only [this]
  simp [List.getD_eq_getElem?_getD]
theorem atM_last (l : List MsgV) (h : 0 < l.length) : atM l ((l.length : Int) - 1) = (lastM l, true) := by
  unfold lastM atM
  rw [if_pos ⟨by omega, by omega⟩]

theorem Box.setCell1 {w : World} {b : Nat} {x v : Value} {t : TypeId} (h : Box w b #[x] t) : Box (w.setCell ⟨b, 0, none⟩ v) b #[v] t := by
  unfold Box at *
  simp [World.setCell, Array.getElem?_modify, h]
theorem Box.setCell_other {w : World} {b b' : Nat} {v : Value} {cs : Array Value} {t : TypeId} (h : Box w b cs t) (hne : b' ≠ b) (i : Nat) : Box (w.setCell ⟨b', i, none⟩ v) b cs t := by
  unfold Box at *
  simp [World.setCell, Array.getElem?_modify, h, hne]

def AddsRel (H : Hp) (w : World) (wb hb : Nat) (m0 : MsgV) (l : List OneV) (n : Nat) (i : Value) (wr : World) : Prop :=
  ∃ (k : Nat) (sk : SlV) (Hk : Hp), k ≤ n ∧ i = .int .i64 k ∧ Grow w H wr Hk ∧ Box wr hb #[.slice sk.a sk.n sk.c] 26 ∧ Hk hb = none ∧ Box wr wb #[.int .i64 m0.val, .int .u32 m0.ver, .int .u32 m0.ref] 30 ∧ HistR Hk sk (m0 :: (l.take k).map OneV.msg)

set_option maxRecDepth 100000 in
set_option maxHeartbeats 5000000 in
theorem historyAdds_ret (H : Hp) (x y z : Int) (s : SlV) (l : List OneV) (w : World) (hs : Sub H w) (hl : SlR 6 OneR H s.a s.n s.c l) (hn : s.c ≤ 9223372036854775807) :
    RetV Try.prog 7 #[.agg #[.int .i64 x, .int .u32 y, .int .u32 z], .slice s.a s.n s.c] w (.bool true) := by
  have hcap := hl.cap
  have hlen := hl.len
  unfold RetV
  by_cases h100 : s.n ≤ 100
  · go_enter Try.func7, Try.ntmps7
    go_wp2_with (go_at_call 21; refine Ret.use (hNew_ret H x y z _ (hs.alloc _)) fun s1 w1 H1 hg1 hh1 => ?_)
    have hbw : Box w1 w.heap.size _ _ := (hg1.below.block _ (by simp)).trans (heap_at _ _ rfl)
    have hgw := ((Grow.refl hs).alloc (.cells #[.int .i64 x, .int .u32 y, .int .u32 z] 30)).trans hg1
    go_loopw [20] (fun i wr => AddsRel H w w.heap.size w1.heap.size ⟨x, y, z, 0, fun _ => 0⟩ l s.n i wr) (fun i _ => s.n - (intOf i).toNat)
    case atStart => exact ⟨0, s1, H1, Nat.zero_le _, rfl, hgw.alloc _, heap_at _ _ rfl, hg1.sub.none (Nat.le_refl _), heap_past _ _ hbw, hh1⟩
    case round =>
      obtain ⟨k, sk, Hk, hk, rfl, hgk, hbh, hHk, hbw', hhk⟩ := hrel
      have hw1 : w.heap.size < w1.heap.size := hbw.lt
      clear hg1 hh1 hgw hbw
      have hsk : sk.n = k + 1 := by have := hhk.len; simp at this; omega
      have hskc : sk.n ≤ 1000000 := by omega
      have HSK := Lib.hid hsk
      clear hsk
      by_cases hlt : k < s.n
      · obtain ⟨xk, hxk⟩ : ∃ xk, l[k]? = some xk := ⟨l[k]'(by omega), by simp⟩
        obtain ⟨b, o, es, ha, hes, ⟨rfl, v1, v2, v3, v4⟩, ⟨ob, hob⟩, hcl⟩ := hl.at hxk (by omega)
        have hle := hgk.le hs
        have hsub : Sub H wr := fun i o e => hgk.sub i o (hle i o e)
        have c0 := hcl wr hsub 0 _ rfl
        have c1 := hcl wr hsub 1 _ rfl
        have c2 := hcl wr hsub 2 _ rfl
        have c3 := hcl wr hsub 3 _ rfl
        have c4 := hcl wr hsub 4 _ rfl
        have c5 := hcl wr hsub 5 _ rfl
        simp only [Nat.add_zero] at c0
        clear hcl
        have hbl := hsub.lt hob
        have hclip := hl.clip k s.c (by omega) (by omega) (Nat.le_refl _)
        obtain ⟨sa, sn, sc⟩ := s
        simp only at ha hlt hlen hl hk hn hcap hclip
        subst ha
        go_wp2_with fail
        refine wp_abs1 hgk.sub fun W0 hbx hg0 hz => ?_
        have hbhl := hbh.lt
        have hbwl := hbw'.lt
        replace hbh := hbh.grow hg0
        replace hbw' := hbw'.grow hg0
        have hwr := hgk.below.size
        have hwr1 : w.heap.size ≤ w1.heap.size := by omega
        clear c0 c1 c2 c3 c4 c5
        refine wp_region_ag 5 [] Hk (by kernel_rfl) (by kernel_rfl) (by kernel_rfl) (fun _ _ _ _ _ h => h) hg0.sub ?_
        simp only [List.take_succ_cons, List.take_zero]
        apply agl_val (hfl := rfl) (hg := fun _ _ _ _ => wanted_none rfl)
        · intro a w' H' hw hp ho
          have e5 := oget (t := 5) ho rfl
          have r_hbh := (hbh.grow hw).cell
          have r_hbw' := (hbw'.grow hw).cell
          have r_hbx := (hbx.grow hw).cell
          clear hw hp ho
          go_simp
          rfl
        apply agl_val (hfl := rfl) (hg := fun _ _ _ _ => wanted_none rfl)
        · intro a w' H' hw hp ho
          have e7 := oget (t := 7) ho rfl
          have r_hbh := (hbh.grow hw).cell
          have r_hbw' := (hbw'.grow hw).cell
          have r_hbx := (hbx.grow hw).cell
          clear hw hp ho
          go_simp
          rfl
        try simp only [List.nil_append, List.cons_append]
        apply agl_call (hfl := rfl) (hg := fun _ _ _ _ => wanted_none rfl)
        · intro a w' H' hw hp ho
          have e26 := tget (t := 26) (hp 1 _ rfl rfl)
          apply Exists.intro
          apply And.intro
          · go_simp; first | rfl | exact ⟨rfl, rfl⟩
          · exact l3make_ret H' xk w' hw.sub v1 v2 v3 v4
        · exact fun _ _ _ l h => h.le l
        apply agl_call (hfl := rfl) (hg := fun _ _ _ _ => wanted_none rfl)
        · intro a w' H' hw hp ho
          have e25 := tget (t := 25) (hp 0 _ rfl rfl)
          obtain ⟨x2, e27, hx2⟩ := hp 2 _ rfl rfl
          replace e27 := tget (t := 27) e27
          apply Exists.intro
          apply And.intro
          · go_simp; first | rfl | exact ⟨rfl, rfl⟩
          · exact hAdd_ret H' sk _ xk.msg x2 w' hw.sub (hhk.le (hw.le hg0.sub)) hx2 hskc
        · exact fun _ _ _ g h => HistR.le h g
        try simp only [List.nil_append, List.cons_append]
        apply agl_alloc (hfl := rfl) (hg := fun _ _ _ _ => wanted_none rfl)
        · intro a w' H' hw hp ho
          clear hw hp ho
          go_simp
          rfl
        refine agl_nil fun W Hf hgr => ?_
        simp only [List.nil_append, List.cons_append, List.take_succ_cons, List.take_zero]
        refine FinL_eq ?_
        refine FinL_eq ?_
        refine FinL_ex fun x2 hx2 => ?_
        refine FinL_ex fun x3 hx3 => ?_
        refine FinL_var fun b4 hB4 hN4 hv4 => ?_
        refine FinL_nil ?_
        replace hbh := hbh.grow hgr
        replace hbw' := hbw'.grow hgr
        replace hbx := hbx.grow hgr
        simp only [List.drop_succ_cons, List.drop_zero, Act.put, List.setIfInBounds_toArray, List.set_cons_succ, List.set_cons_zero]
        have hb4l : b4 < W.heap.size := (Array.getElem?_eq_some_iff.1 hv4).1
        have hgW := hgk.trans (hg0.trans hgr)
        refine wpList_store_box (val := .agg #[_]) rfl _ _ _ rfl _ _ _ rfl rfl hv4 (by kernel_rfl) rfl (by simp [Value.cells, Value.oneCell']) fun w4 hp4 => ?_
        have hg4 : Grow w H w4 Hf := hp4.grow hgW (by omega) hN4
        have hbN := hp4.box
        replace hbh := hbh.put hp4 (by omega)
        replace hbw' := hbw'.put hp4 (by omega)
        have hhk4 := hhk.le ((hg0.trans hgr).le hgk.sub)
        have hHk4 : Hf w1.heap.size = none := (hg0.trans hgr).priv hbhl hHk
        clear hx2 hhk hHk hgk hg0 hgr hp4 hgW hbx hv4
        have hbNl := hbN.lt
        have hbhl4 := hbh.lt
        have hw4 := hg4.below.size
        have hxn := hx3
        clear hx3
        generalize x3 = nx at hbN hxn ⊢
        generalize b4 = nb at hbN hB4 hN4 hb4l hbNl ⊢
        go_wp2_with fail
        refine wp_region_ag 5 [] Hf (by kernel_rfl) (by kernel_rfl) (by kernel_rfl) (fun _ _ _ _ _ h => h) hg4.sub ?_
        simp only [List.take_succ_cons, List.take_zero]
        apply agl_val (hfl := rfl) (hg := fun _ _ _ _ => wanted_none rfl)
        · intro a w' H' hw hp ho
          have e5 := oget (t := 5) ho rfl
          have r_hbh := (hbh.grow hw).cell
          have r_hbw' := (hbw'.grow hw).cell
          have r_hbN := (hbN.grow hw).cell
          clear hw hp ho
          go_simp
          rfl
        apply agl_val (hfl := rfl) (hg := fun _ _ _ _ => wanted_none rfl)
        · intro a w' H' hw hp ho
          clear hw hp ho
          go_simp
          rfl
        try simp only [List.nil_append, List.cons_append]
        apply agl_call (hfl := rfl) (hg := fun _ _ _ _ => wanted_none rfl)
        · intro a w' H' hw hp ho
          have e30 := tget (t := 30) (hp 1 _ rfl rfl)
          apply Exists.intro
          apply And.intro
          · go_simp; first | rfl | exact ⟨rfl, rfl⟩
          · exact l3make_ret H' ⟨0, 0, 0, -9, 0, 0⟩ w' hw.sub (by decide) (by decide) (by decide) (by decide)
        · exact fun _ _ _ l h => h.le l
        apply agl_call (hfl := rfl) (hg := fun _ _ _ _ => wanted_none rfl)
        · intro a w' H' hw hp ho
          have e29 := tget (t := 29) (hp 0 _ rfl rfl)
          obtain ⟨x2, e31, hx2⟩ := hp 2 _ rfl rfl
          replace e31 := tget (t := 31) e31
          apply Exists.intro
          apply And.intro
          · go_simp; first | rfl | exact ⟨rfl, rfl⟩
          · exact hAdd_ret H' sk _ (OneV.msg ⟨0, 0, 0, -9, 0, 0⟩) x2 w' hw.sub (hhk4.le (hw.le hg4.sub)) hx2 hskc
        · exact fun _ _ _ g h => HistR.le h g
        try simp only [List.nil_append, List.cons_append]
        apply agl_alloc (hfl := rfl) (hg := fun _ _ _ _ => wanted_none rfl)
        · intro a w' H' hw hp ho
          clear hw hp ho
          go_simp
          rfl
        refine agl_nil fun W Hf hgr => ?_
        simp only [List.nil_append, List.cons_append, List.take_succ_cons, List.take_zero]
        refine FinL_eq ?_
        refine FinL_eq ?_
        refine FinL_ex fun x2 hx2 => ?_
        refine FinL_ex fun x3 hx3 => ?_
        refine FinL_var fun b4 hB4 hN4 hv4 => ?_
        refine FinL_nil ?_
        replace hbh := hbh.grow hgr
        replace hbw' := hbw'.grow hgr
        replace hbN := hbN.grow hgr
        simp only [List.drop_succ_cons, List.drop_zero, Act.put, List.setIfInBounds_toArray, List.set_cons_succ, List.set_cons_zero]
        have hb4l' : b4 < W.heap.size := (Array.getElem?_eq_some_iff.1 hv4).1
        have hgW := hg4.trans hgr
        refine wpList_store_box (val := .agg #[_]) rfl _ _ _ rfl _ _ _ rfl rfl hv4 (by kernel_rfl) rfl (by simp [Value.cells, Value.oneCell']) fun w5 hp5 => ?_
        have hg5 : Grow w H w5 _ := hp5.grow hgW (by omega) hN4
        have hbO := hp5.box
        have hbhl5 := hbh.lt
        replace hbh := hbh.put hp5 (by omega)
        replace hbw' := hbw'.put hp5 (by omega)
        replace hbN := hbN.put hp5 (by omega)
        have hbhl6 := hbh.lt
        have hle5 := hgr.le hg4.sub
        have hhk5 := hhk4.le hle5
        have hxn5 := hxn.le hle5
        have hHk5 := hgr.priv hbhl4 hHk4
        clear hx2 hhk4 hHk4 hgr hp5 hgW hv4 hxn hg4 hle5 hN4 hB4
        have hx3n : x3.n = sk.n + 1 := by have := hx3.len; have := hhk5.len; simp at *; omega
        have hx3c : x3.n ≤ 1000000 := by have := HSK.out; omega
        have hx3i : (x3.n : Int) = (k : Int) + 2 := by have := HSK.out; omega
        clear hx3n
        have HX := Lib.hid hx3i
        clear hx3i
        have hlast : lastM (⟨x, y, z, 0, fun _ => 0⟩ :: ((List.take k l).map OneV.msg ++ [OneV.msg ⟨0, 0, 0, -9, 0, 0⟩])) = OneV.msg ⟨0, 0, 0, -9, 0, 0⟩ := lastM_snoc (⟨x, y, z, 0, fun _ => 0⟩ :: (List.take k l).map OneV.msg) _
        have HL := Lib.hid hlast
        clear hlast
        have hle9 := hg5.le hs
        have hm1 := run_msg1
        have hksc : k ≤ sc := by omega
        go_wp2_with fail
        refine wp_region_ag 20 [] _ (by kernel_rfl) (by kernel_rfl) (by kernel_rfl) (fun _ _ _ _ _ h => h) hg5.sub ?_
        simp only [List.take_succ_cons, List.take_zero]
        apply agl_val (hfl := rfl) (hg := fun _ _ _ _ => wanted_none rfl)
        · intro a w' H' hw hp ho
          have e5 := oget (t := 5) ho rfl
          have r_hbh := (hbh.grow hw).cell
          have r_hbw' := (hbw'.grow hw).cell
          have r_hbN := (hbN.grow hw).cell
          have r_hbO := (hbO.grow hw).cell
          clear hw hp ho
          go_simp
          rfl
        apply agl_val (hfl := rfl) (hg := fun _ _ _ _ => wanted_none rfl)
        · intro a w' H' hw hp ho
          have e2 := oget (t := 2) ho rfl
          have r_hbh := (hbh.grow hw).cell
          have r_hbw' := (hbw'.grow hw).cell
          have r_hbN := (hbN.grow hw).cell
          have r_hbO := (hbO.grow hw).cell
          clear hw hp ho
          go_simp
          rfl
        try simp only [List.nil_append, List.cons_append]
        apply agl_val (hfl := rfl) (hg := fun _ _ _ _ => wanted_none rfl)
        · intro a w' H' hw hp ho
          have e1 := oget (t := 1) ho rfl
          clear hw hp ho
          go_simp
          rfl
        apply agl_val (hfl := rfl) (hg := fun _ _ _ _ => wanted_none rfl)
        · intro a w' H' hw hp ho
          have e6 := oget (t := 6) ho rfl
          clear hw hp ho
          go_simp
          rfl
        try simp only [List.nil_append, List.cons_append]
        apply agl_val (hfl := rfl) (hg := fun _ _ _ _ => wanted_none rfl)
        · intro a w' H' hw hp ho
          have e35 := tget (t := 35) (hp 2 _ rfl rfl)
          have e36 := tget (t := 36) (hp 3 _ rfl rfl)
          have r_hbh := (hbh.grow hw).cell
          have r_hbw' := (hbw'.grow hw).cell
          have r_hbN := (hbN.grow hw).cell
          have r_hbO := (hbO.grow hw).cell
          clear hw hp ho
          go_simp
          rfl
        apply agl_callv (hfl := rfl) (hg := fun _ _ _ _ => wanted_none rfl)
        · intro a w' H' hw hp ho
          have e33 := tget (t := 33) (hp 0 _ rfl rfl)
          have e34 := tget (t := 34) (hp 1 _ rfl rfl)
          have e37 := tget (t := 37) (hp 4 _ rfl rfl)
          apply Exists.intro
          apply And.intro
          · go_simp; first | rfl | exact ⟨rfl, rfl⟩
          · exact l3is_ret H' x y z sk ⟨some ⟨b, o, none⟩, k, sc⟩ (l.take k) w' hw.sub (HistR.le hhk5 (hw.le hg5.sub)) (hclip.le OneR.mono (hle9.trans (hw.le hg5.sub))) (by simp only; omega)
        try simp only [List.nil_append, List.cons_append]
        apply agl_val (hfl := rfl) (hg := fun _ _ _ _ => wanted_none rfl)
        · intro a w' H' hw hp ho
          have e38 := tget (t := 38) (hp 5 _ rfl rfl)
          clear hw hp ho
          go_simp
          try simp (disch := omega) only [IntWalk.i64_in, IntWalk.u8_in, IntWalk.u32_in, IntWalk.rem_in]
          rfl
        apply agl_val (hfl := rfl) (hg := fun _ _ _ _ => wanted_none rfl)
        · intro a w' H' hw hp ho
          have e39 := tget (t := 39) (hp 6 _ rfl rfl)
          clear hw hp ho
          go_simp
          rfl
        try simp only [List.nil_append, List.cons_append]
        apply agl_val (hfl := rfl) (hg := fun _ _ _ hp => wants rfl (hp 7 _ rfl rfl))
        · intro a w' H' hw hp ho
          have e9 := oget (t := 9) ho rfl
          have r_hbh := (hbh.grow hw).cell
          have r_hbw' := (hbw'.grow hw).cell
          have r_hbN := (hbN.grow hw).cell
          have r_hbO := (hbO.grow hw).cell
          clear hw hp ho
          go_simp
          rfl
        apply agl_callv (hfl := rfl) (hg := fun _ _ _ hp => wants rfl (hp 7 _ rfl rfl))
        · intro a w' H' hw hp ho
          have e41 := tget (t := 41) (hp 8 _ rfl rfl)
          apply Exists.intro
          apply And.intro
          · go_simp; first | rfl | exact ⟨rfl, rfl⟩
          · exact hLen_eq x3 ((k : Int) + 2) w' HX.out
        try simp only [List.nil_append, List.cons_append]
        apply agl_val (hfl := rfl) (hg := fun _ _ _ hp => wants rfl (hp 7 _ rfl rfl))
        · intro a w' H' hw hp ho
          have e6 := oget (t := 6) ho rfl
          clear hw hp ho
          go_simp
          rfl
        apply agl_val (hfl := rfl) (hg := fun _ _ _ hp => wants rfl (hp 7 _ rfl rfl))
        · intro a w' H' hw hp ho
          have e43 := tget (t := 43) (hp 10 _ rfl rfl)
          clear hw hp ho
          go_simp
          try simp (disch := omega) only [IntWalk.i64_in, IntWalk.u8_in, IntWalk.u32_in, IntWalk.rem_in]
          rfl
        try simp only [List.nil_append, List.cons_append]
        apply agl_val (hfl := rfl) (hg := fun _ _ _ hp => wants rfl (hp 7 _ rfl rfl))
        · intro a w' H' hw hp ho
          have e42 := tget (t := 42) (hp 9 _ rfl rfl)
          have e44 := tget (t := 44) (hp 11 _ rfl rfl)
          clear hw hp ho
          go_simp
          try simp (disch := omega) only [IntWalk.i64_in, IntWalk.u8_in, IntWalk.u32_in, IntWalk.rem_in]
          rfl
        apply agl_val (hfl := rfl) (hg := fun _ _ _ _ => wanted_none rfl)
        · intro a w' H' hw hp ho
          have e40 := tget (t := 40) (hp 7 _ rfl rfl)
          have e45 := tget (t := 45) (hp 12 _ rfl rfl)
          clear hw hp ho
          go_simp
          rfl
        try simp only [List.nil_append, List.cons_append]
        apply agl_val (hfl := rfl) (hg := fun _ _ _ _ => wanted_none rfl)
        · intro a w' H' hw hp ho
          have e46 := tget (t := 46) (hp 13 _ rfl rfl)
          clear hw hp ho
          go_simp
          rfl
        apply agl_val (hfl := rfl) (hg := fun _ _ _ hp => wants rfl (hp 14 _ rfl rfl))
        · intro a w' H' hw hp ho
          have e9 := oget (t := 9) ho rfl
          have r_hbh := (hbh.grow hw).cell
          have r_hbw' := (hbw'.grow hw).cell
          have r_hbN := (hbN.grow hw).cell
          have r_hbO := (hbO.grow hw).cell
          clear hw hp ho
          go_simp
          rfl
        try simp only [List.nil_append, List.cons_append]
        apply agl_call (hfl := rfl) (hg := fun _ _ _ hp => wants rfl (hp 14 _ rfl rfl))
        · intro a w' H' hw hp ho
          have e48 := tget (t := 48) (hp 15 _ rfl rfl)
          apply Exists.intro
          apply And.intro
          · go_simp; first | rfl | exact ⟨rfl, rfl⟩
          · exact hLast_eq H' x3 _ _ w' hw.sub (HistR.le hx3 (hw.le hg5.sub)) hx3c HL.out
        · exact fun _ _ _ l h => h.le l
        apply agl_val (hfl := rfl) (hg := fun _ _ _ hp => wants rfl (hp 14 _ rfl rfl))
        · intro a w' H' hw hp ho
          obtain ⟨x16, e49, hx16⟩ := hp 16 _ rfl rfl
          replace e49 := tget (t := 49) e49
          simp only [OneV.msg] at e49
          clear hw hp ho
          go_simp
          rfl
        try simp only [List.nil_append, List.cons_append]
        apply agl_val (hfl := rfl) (hg := fun _ _ _ hp => wants rfl (hp 14 _ rfl rfl))
        · intro a w' H' hw hp ho
          have e50 := tget (t := 50) (hp 17 _ rfl rfl)
          clear hw hp ho
          go_simp
          try simp (disch := omega) only [IntWalk.i64_in, IntWalk.u8_in, IntWalk.u32_in, IntWalk.rem_in]
          rfl
        apply agl_val (hfl := rfl) (hg := fun _ _ _ _ => wanted_none rfl)
        · intro a w' H' hw hp ho
          have e47 := tget (t := 47) (hp 14 _ rfl rfl)
          have e51 := tget (t := 51) (hp 18 _ rfl rfl)
          clear hw hp ho
          go_simp
          rfl
        refine agl_nil fun W Hf hgr => ?_
        simp only [List.nil_append, List.cons_append, List.take_succ_cons, List.take_zero]
        refine FinL_eq ?_
        refine FinL_eq ?_
        refine FinL_eq ?_
        refine FinL_eq ?_
        refine FinL_eq ?_
        refine FinL_eq ?_
        refine FinL_eq ?_
        refine FinL_eq ?_
        refine FinL_eq ?_
        refine FinL_eq ?_
        refine FinL_eq ?_
        refine FinL_eq ?_
        refine FinL_eq ?_
        refine FinL_eq ?_
        refine FinL_eq ?_
        refine FinL_eq ?_
        refine FinL_ex fun x16 hx16 => ?_
        refine FinL_eq ?_
        refine FinL_eq ?_
        refine FinL_eq ?_
        refine FinL_nil ?_
        replace hbh := hbh.grow hgr
        replace hbw' := hbw'.grow hgr
        replace hbN := hbN.grow hgr
        replace hbO := hbO.grow hgr
        simp only [List.drop_succ_cons, List.drop_zero, Act.put, List.setIfInBounds_toArray, List.set_cons_succ, List.set_cons_zero]
        have hg9 := hg5.trans hgr
        have hle10 := hgr.le hg5.sub
        have hH9 := hgr.priv hbhl6 hHk5
        have hxn9 := hxn5.le hle10
        have hNc := hbN.cell
        have hHc := hbh.cell
        have hHf := hbh.frozen
        clear hx16
        go_wp2
        go_roundw
        case rel =>
          refine ⟨k + 1, nx, _, by omega, by go_num, hg9.setCell hwr1 hH9 _, hbh.setCell1, hH9, hbw'.setCell_other (by omega) 0, ?_⟩
          rw [List.take_add_one, hxk]; simpa using hxn9
        case measure => simp [intOf]; omega
      · have hkn : k = s.n := by omega
        subst hkn
        rw [List.take_of_length_le (by omega)] at hhk
        have hLl := hhk.len
        have hat0 := atM_last (⟨x, y, z, 0, fun _ => 0⟩ :: l.map OneV.msg) (by simp)
        have hat : atM (⟨x, y, z, 0, fun _ => 0⟩ :: l.map OneV.msg) ((sk.n : Int) - 1) = (lastM (⟨x, y, z, 0, fun _ => 0⟩ :: l.map OneV.msg), true) := by rw [← hLl]; exact hat0
        obtain ⟨m, hm⟩ : ∃ m, lastM (⟨x, y, z, 0, fun _ => 0⟩ :: l.map OneV.msg) = m := ⟨_, rfl⟩
        rw [hm] at hat
        have HM := Lib.hid hm
        have HA := Lib.hid hat
        clear hm hat hat0 hLl
        have hbhl := hbh.lt
        have hbwl := hbw'.lt
        have hskp : 1 ≤ sk.n := by have := HSK.out; omega
        have hle := hgk.le hs
        go_wp2_with fail
        refine wp_region_ag 9 [7] Hk (by kernel_rfl) (by kernel_rfl) (by kernel_rfl) (fun _ _ _ _ _ h => h) hgk.sub ?_
        simp only [List.take_succ_cons, List.take_zero]
        apply agl_val (hfl := rfl) (hg := fun _ _ _ _ => wanted_none rfl)
        · intro a w' H' hw hp ho
          have e5 := oget (t := 5) ho rfl
          have r_hbh := (hbh.grow hw).cell
          have r_hbw' := (hbw'.grow hw).cell
          clear hw hp ho
          go_simp
          rfl
        apply agl_val (hfl := rfl) (hg := fun _ _ _ _ => wanted_none rfl)
        · intro a w' H' hw hp ho
          have e5 := oget (t := 5) ho rfl
          have r_hbh := (hbh.grow hw).cell
          have r_hbw' := (hbw'.grow hw).cell
          clear hw hp ho
          go_simp
          rfl
        try simp only [List.nil_append, List.cons_append]
        apply agl_callv (hfl := rfl) (hg := fun _ _ _ _ => wanted_none rfl)
        · intro a w' H' hw hp ho
          have e57 := tget (t := 57) (hp 1 _ rfl rfl)
          apply Exists.intro
          apply And.intro
          · go_simp; first | rfl | exact ⟨rfl, rfl⟩
          · exact hLen_ret sk w'
        apply agl_val (hfl := rfl) (hg := fun _ _ _ _ => wanted_none rfl)
        · intro a w' H' hw hp ho
          have e58 := tget (t := 58) (hp 2 _ rfl rfl)
          clear hw hp ho
          go_simp
          try simp (disch := omega) only [IntWalk.i64_in, IntWalk.u8_in, IntWalk.u32_in, IntWalk.rem_in]
          rfl
        try simp only [List.nil_append, List.cons_append]
        apply agl_call (hfl := rfl) (hg := fun _ _ _ _ => wanted_none rfl)
        · intro a w' H' hw hp ho
          have e56 := tget (t := 56) (hp 0 _ rfl rfl)
          have e59 := tget (t := 59) (hp 3 _ rfl rfl)
          apply Exists.intro
          apply And.intro
          · go_simp; first | rfl | exact ⟨rfl, rfl⟩
          · exact hAt_eq H' sk _ _ _ _ w' hw.sub (hhk.le (hw.le hgk.sub)) hskc HA.out
        · exact fun _ _ _ l h => h.le l
        apply agl_ex (j := 4) (hj := rfl) (hwj := rfl) (hfl := rfl) (hg := fun _ _ _ _ => wanted_none rfl)
        · intro x a w' H' hw hp ho ex hx
          replace ex := tget (t := 60) ex
          have r_hbh := (hbh.grow hw).cell
          have r_hbw' := (hbw'.grow hw).cell
          clear hw hp ho
          go_simp
          rfl
        · exact fun _ _ _ l h => h.le l
        try simp only [List.nil_append, List.cons_append]
        apply agl_ex (j := 5) (hj := rfl) (hwj := rfl) (hfl := rfl) (hg := fun _ _ _ _ => wanted_none rfl)
        · intro x a w' H' hw hp ho ex hx
          replace ex := tget (t := 55) ex
          have r_hbh := (hbh.grow hw).cell
          have r_hbw' := (hbw'.grow hw).cell
          clear hw hp ho
          go_simp
          rfl
        · exact fun _ _ _ l h => h.le l
        apply agl_floatx (j := 5) (hj := rfl) (hwj := rfl) (hfl := rfl) (hg := fun _ _ _ _ => wanted_none rfl)
        · intro x a w' H' hw hp ho ex w1
          replace ex := tget (t := 55) ex
          clear hw hp ho
          go_simp
          rfl
        · exact fun _ _ _ l h => h.le l
        try simp only [List.nil_append, List.cons_append]
        apply agl_alloc (hfl := rfl) (hg := fun _ _ _ _ => wanted_none rfl)
        · intro a w' H' hw hp ho
          clear hw hp ho
          go_simp
          rfl
        refine agl_nil fun W Hf hgr => ?_
        simp only [List.nil_append, List.cons_append, List.take_succ_cons, List.take_zero]
        refine FinL_eq ?_
        refine FinL_eq ?_
        refine FinL_eq ?_
        refine FinL_eq ?_
        refine FinL_ex fun x4 hx4 => ?_
        refine FinL_ex fun x5 hx5 => ?_
        refine FinL_ex fun x6 hx6 => ?_
        refine FinL_ex fun x7 hx7 => ?_
        refine FinL_var fun b8 hB8 hN8 hv8 => ?_
        refine FinL_nil ?_
        replace hbh := hbh.grow hgr
        replace hbw' := hbw'.grow hgr
        simp only [List.drop_succ_cons, List.drop_zero, Act.put, List.setIfInBounds_toArray, List.set_cons_succ, List.set_cons_zero]
        have hb8l : b8 < W.heap.size := (Array.getElem?_eq_some_iff.1 hv8).1
        have hgW := hgk.trans hgr
        refine wpList_store_box (val := .agg #[_, _, _, _, _]) rfl _ _ _ rfl _ _ _ rfl rfl hv8 (by kernel_rfl) rfl (by simp [Value.cells, Value.oneCell']) fun w4 hp4 => ?_
        have hg4 : Grow w H w4 Hf := hp4.grow hgW (by have := hgk.below.size; omega) hN8
        have hbM := hp4.box
        replace hbh := hbh.put hp4 (by omega)
        replace hbw' := hbw'.put hp4 (by omega)
        have hhk4 := hhk.le (hgr.le hgk.sub)
        have hle4 := hg4.le hs
        clear hhk hgr hp4 hgW hv8 hgk hx4 hx5
        have hm0 := run_msg0
        have hm1 := run_msg1
        have hm2 := run_msg2
        have hlL := hl.le OneR.mono hle4
        go_wp2_with fail
        refine wp_region_ag 34 [] Hf (by kernel_rfl) (by kernel_rfl) (by kernel_rfl) (fun _ _ _ _ _ h => h) hg4.sub ?_
        simp only [List.take_succ_cons, List.take_zero]
        apply agl_callv (hfl := rfl) (hg := fun _ _ _ _ => wanted_none rfl)
        · intro a w' H' hw hp ho
          apply Exists.intro
          apply And.intro
          · go_simp; first | rfl | exact ⟨rfl, rfl⟩
          · exact l3awake_ret w'
        apply agl_val (hfl := rfl) (hg := fun _ _ _ _ => wanted_none rfl)
        · intro a w' H' hw hp ho
          have e63 := tget (t := 63) (hp 0 _ rfl rfl)
          clear hw hp ho
          go_simp
          rfl
        try simp only [List.nil_append, List.cons_append]
        apply agl_val (hfl := rfl) (hg := fun _ _ _ hp => wants rfl (hp 1 _ rfl rfl))
        · intro a w' H' hw hp ho
          have e5 := oget (t := 5) ho rfl
          have r_hbh := (hbh.grow hw).cell
          have r_hbw' := (hbw'.grow hw).cell
          have r_hbM := (hbM.grow hw).cell
          clear hw hp ho
          go_simp
          rfl
        apply agl_val (hfl := rfl) (hg := fun _ _ _ hp => wants rfl (hp 1 _ rfl rfl))
        · intro a w' H' hw hp ho
          have e2 := oget (t := 2) ho rfl
          have r_hbh := (hbh.grow hw).cell
          have r_hbw' := (hbw'.grow hw).cell
          have r_hbM := (hbM.grow hw).cell
          clear hw hp ho
          go_simp
          rfl
        try simp only [List.nil_append, List.cons_append]
        apply agl_val (hfl := rfl) (hg := fun _ _ _ hp => wants rfl (hp 1 _ rfl rfl))
        · intro a w' H' hw hp ho
          have e1 := oget (t := 1) ho rfl
          clear hw hp ho
          go_simp
          rfl
        apply agl_callv (hfl := rfl) (hg := fun _ _ _ hp => wants rfl (hp 1 _ rfl rfl))
        · intro a w' H' hw hp ho
          have e65 := tget (t := 65) (hp 2 _ rfl rfl)
          have e66 := tget (t := 66) (hp 3 _ rfl rfl)
          have e67 := tget (t := 67) (hp 4 _ rfl rfl)
          apply Exists.intro
          apply And.intro
          · go_simp; first | rfl | exact ⟨rfl, rfl⟩
          · exact l3is_ret H' x y z sk s l w' hw.sub (HistR.le hhk4 (hw.le hg4.sub)) (hlL.le OneR.mono (hw.le hg4.sub)) h100
        try simp only [List.nil_append, List.cons_append]
        apply agl_val (hfl := rfl) (hg := fun _ _ _ _ => wanted_none rfl)
        · intro a w' H' hw hp ho
          have e64 := tget (t := 64) (hp 1 _ rfl rfl)
          have e68 := tget (t := 68) (hp 5 _ rfl rfl)
          clear hw hp ho
          go_simp
          rfl
        apply agl_val (hfl := rfl) (hg := fun _ _ _ _ => wanted_none rfl)
        · intro a w' H' hw hp ho
          have e69 := tget (t := 69) (hp 6 _ rfl rfl)
          clear hw hp ho
          go_simp
          rfl
        try simp only [List.nil_append, List.cons_append]
        apply agl_val (hfl := rfl) (hg := fun _ _ _ hp => wants rfl (hp 7 _ rfl rfl))
        · intro a w' H' hw hp ho
          have e11 := oget (t := 11) ho rfl
          clear hw hp ho
          go_simp
          rfl
        apply agl_val (hfl := rfl) (hg := fun _ _ _ _ => wanted_none rfl)
        · intro a w' H' hw hp ho
          have e70 := tget (t := 70) (hp 7 _ rfl rfl)
          have e71 := tget (t := 71) (hp 8 _ rfl rfl)
          clear hw hp ho
          go_simp
          rfl
        try simp only [List.nil_append, List.cons_append]
        apply agl_val (hfl := rfl) (hg := fun _ _ _ _ => wanted_none rfl)
        · intro a w' H' hw hp ho
          have e72 := tget (t := 72) (hp 9 _ rfl rfl)
          clear hw hp ho
          go_simp
          rfl
        apply agl_val (hfl := rfl) (hg := fun _ _ _ hp => wants rfl (hp 10 _ rfl rfl))
        · intro a w' H' hw hp ho
          have e10 := oget (t := 10) ho rfl
          clear hw hp ho
          go_simp
          rfl
        try simp only [List.nil_append, List.cons_append]
        apply agl_val (hfl := rfl) (hg := fun _ _ _ hp => wants rfl (hp 10 _ rfl rfl))
        · intro a w' H' hw hp ho
          have e74 := tget (t := 74) (hp 11 _ rfl rfl)
          have r_hbh := (hbh.grow hw).cell
          have r_hbw' := (hbw'.grow hw).cell
          have r_hbM := (hbM.grow hw).cell
          clear hw hp ho
          go_simp
          rfl
        apply agl_val (hfl := rfl) (hg := fun _ _ _ hp => wants rfl (hp 10 _ rfl rfl))
        · intro a w' H' hw hp ho
          have e5 := oget (t := 5) ho rfl
          have r_hbh := (hbh.grow hw).cell
          have r_hbw' := (hbw'.grow hw).cell
          have r_hbM := (hbM.grow hw).cell
          clear hw hp ho
          go_simp
          rfl
        try simp only [List.nil_append, List.cons_append]
        apply agl_call (hfl := rfl) (hg := fun _ _ _ hp => wants rfl (hp 10 _ rfl rfl))
        · intro a w' H' hw hp ho
          have e76 := tget (t := 76) (hp 13 _ rfl rfl)
          apply Exists.intro
          apply And.intro
          · go_simp; first | rfl | exact ⟨rfl, rfl⟩
          · exact hLast_eq H' sk _ _ w' hw.sub (HistR.le hhk4 (hw.le hg4.sub)) hskc HM.out
        · exact fun _ _ _ l h => h.le l
        apply agl_val (hfl := rfl) (hg := fun _ _ _ hp => wants rfl (hp 10 _ rfl rfl))
        · intro a w' H' hw hp ho
          obtain ⟨x14, e77, hx14⟩ := hp 14 _ rfl rfl
          replace e77 := tget (t := 77) e77
          clear hw hp ho
          go_simp
          rfl
        try simp only [List.nil_append, List.cons_append]
        apply agl_val (hfl := rfl) (hg := fun _ _ _ hp => wants rfl (hp 10 _ rfl rfl))
        · intro a w' H' hw hp ho
          have e75 := tget (t := 75) (hp 12 _ rfl rfl)
          have e78 := tget (t := 78) (hp 15 _ rfl rfl)
          clear hw hp ho
          go_simp
          try simp (disch := omega) only [IntWalk.i64_in, IntWalk.u8_in, IntWalk.u32_in, IntWalk.rem_in]
          rfl
        apply agl_val (hfl := rfl) (hg := fun _ _ _ _ => wanted_none rfl)
        · intro a w' H' hw hp ho
          have e73 := tget (t := 73) (hp 10 _ rfl rfl)
          have e79 := tget (t := 79) (hp 16 _ rfl rfl)
          clear hw hp ho
          go_simp
          rfl
        try simp only [List.nil_append, List.cons_append]
        apply agl_val (hfl := rfl) (hg := fun _ _ _ _ => wanted_none rfl)
        · intro a w' H' hw hp ho
          have e80 := tget (t := 80) (hp 17 _ rfl rfl)
          clear hw hp ho
          go_simp
          rfl
        apply agl_val (hfl := rfl) (hg := fun _ _ _ hp => wants rfl (hp 18 _ rfl rfl))
        · intro a w' H' hw hp ho
          have e10 := oget (t := 10) ho rfl
          clear hw hp ho
          go_simp
          rfl
        try simp only [List.nil_append, List.cons_append]
        apply agl_val (hfl := rfl) (hg := fun _ _ _ hp => wants rfl (hp 18 _ rfl rfl))
        · intro a w' H' hw hp ho
          have e82 := tget (t := 82) (hp 19 _ rfl rfl)
          have r_hbh := (hbh.grow hw).cell
          have r_hbw' := (hbw'.grow hw).cell
          have r_hbM := (hbM.grow hw).cell
          clear hw hp ho
          go_simp
          rfl
        apply agl_val (hfl := rfl) (hg := fun _ _ _ hp => wants rfl (hp 18 _ rfl rfl))
        · intro a w' H' hw hp ho
          have e5 := oget (t := 5) ho rfl
          have r_hbh := (hbh.grow hw).cell
          have r_hbw' := (hbw'.grow hw).cell
          have r_hbM := (hbM.grow hw).cell
          clear hw hp ho
          go_simp
          rfl
        try simp only [List.nil_append, List.cons_append]
        apply agl_call (hfl := rfl) (hg := fun _ _ _ hp => wants rfl (hp 18 _ rfl rfl))
        · intro a w' H' hw hp ho
          have e84 := tget (t := 84) (hp 21 _ rfl rfl)
          apply Exists.intro
          apply And.intro
          · go_simp; first | rfl | exact ⟨rfl, rfl⟩
          · exact hLast_eq H' sk _ _ w' hw.sub (HistR.le hhk4 (hw.le hg4.sub)) hskc HM.out
        · exact fun _ _ _ l h => h.le l
        apply agl_val (hfl := rfl) (hg := fun _ _ _ hp => wants rfl (hp 18 _ rfl rfl))
        · intro a w' H' hw hp ho
          obtain ⟨x22, e85, hx22⟩ := hp 22 _ rfl rfl
          replace e85 := tget (t := 85) e85
          clear hw hp ho
          go_simp
          rfl
        try simp only [List.nil_append, List.cons_append]
        apply agl_val (hfl := rfl) (hg := fun _ _ _ hp => wants rfl (hp 18 _ rfl rfl))
        · intro a w' H' hw hp ho
          have e83 := tget (t := 83) (hp 20 _ rfl rfl)
          have e86 := tget (t := 86) (hp 23 _ rfl rfl)
          clear hw hp ho
          go_simp
          try simp (disch := omega) only [IntWalk.i64_in, IntWalk.u8_in, IntWalk.u32_in, IntWalk.rem_in]
          rfl
        apply agl_val (hfl := rfl) (hg := fun _ _ _ _ => wanted_none rfl)
        · intro a w' H' hw hp ho
          have e81 := tget (t := 81) (hp 18 _ rfl rfl)
          have e87 := tget (t := 87) (hp 24 _ rfl rfl)
          clear hw hp ho
          go_simp
          rfl
        try simp only [List.nil_append, List.cons_append]
        apply agl_val (hfl := rfl) (hg := fun _ _ _ _ => wanted_none rfl)
        · intro a w' H' hw hp ho
          have e88 := tget (t := 88) (hp 25 _ rfl rfl)
          clear hw hp ho
          go_simp
          rfl
        apply agl_val (hfl := rfl) (hg := fun _ _ _ hp => wants rfl (hp 26 _ rfl rfl))
        · intro a w' H' hw hp ho
          have e10 := oget (t := 10) ho rfl
          clear hw hp ho
          go_simp
          rfl
        try simp only [List.nil_append, List.cons_append]
        apply agl_val (hfl := rfl) (hg := fun _ _ _ hp => wants rfl (hp 26 _ rfl rfl))
        · intro a w' H' hw hp ho
          have e90 := tget (t := 90) (hp 27 _ rfl rfl)
          have r_hbh := (hbh.grow hw).cell
          have r_hbw' := (hbw'.grow hw).cell
          have r_hbM := (hbM.grow hw).cell
          clear hw hp ho
          go_simp
          rfl
        apply agl_val (hfl := rfl) (hg := fun _ _ _ hp => wants rfl (hp 26 _ rfl rfl))
        · intro a w' H' hw hp ho
          have e5 := oget (t := 5) ho rfl
          have r_hbh := (hbh.grow hw).cell
          have r_hbw' := (hbw'.grow hw).cell
          have r_hbM := (hbM.grow hw).cell
          clear hw hp ho
          go_simp
          rfl
        try simp only [List.nil_append, List.cons_append]
        apply agl_call (hfl := rfl) (hg := fun _ _ _ hp => wants rfl (hp 26 _ rfl rfl))
        · intro a w' H' hw hp ho
          have e92 := tget (t := 92) (hp 29 _ rfl rfl)
          apply Exists.intro
          apply And.intro
          · go_simp; first | rfl | exact ⟨rfl, rfl⟩
          · exact hLast_eq H' sk _ _ w' hw.sub (HistR.le hhk4 (hw.le hg4.sub)) hskc HM.out
        · exact fun _ _ _ l h => h.le l
        apply agl_ex (j := 30) (hj := rfl) (hwj := rfl) (hfl := rfl) (hg := fun _ _ _ hp => wants rfl (hp 26 _ rfl rfl))
        · intro x a w' H' hw hp ho ex hx
          replace ex := tget (t := 93) ex
          have r_hbh := (hbh.grow hw).cell
          have r_hbw' := (hbw'.grow hw).cell
          have r_hbM := (hbM.grow hw).cell
          clear hw hp ho
          go_simp
          rfl
        · exact fun _ _ _ l h => h.le l
        try simp only [List.nil_append, List.cons_append]
        apply agl_callv (hfl := rfl) (hg := fun _ _ _ hp => wants rfl (hp 26 _ rfl rfl))
        · intro a w' H' hw hp ho
          have e91 := tget (t := 91) (hp 28 _ rfl rfl)
          obtain ⟨x31, e94, hx31⟩ := hp 31 _ rfl rfl
          replace e94 := tget (t := 94) e94
          apply Exists.intro
          apply And.intro
          · go_simp; first | rfl | exact ⟨rfl, rfl⟩
          · exact vSame_ret H' _ _ _ w' hw.sub (hx6.le (hw.le hg4.sub)) hx31
        apply agl_val (hfl := rfl) (hg := fun _ _ _ _ => wanted_none rfl)
        · intro a w' H' hw hp ho
          have e89 := tget (t := 89) (hp 26 _ rfl rfl)
          have e95 := tget (t := 95) (hp 32 _ rfl rfl)
          clear hw hp ho
          go_simp
          rfl
        refine agl_nil fun W Hf hgr => ?_
        simp only [List.nil_append, List.cons_append, List.take_succ_cons, List.take_zero]
        refine FinL_eq ?_
        refine FinL_eq ?_
        refine FinL_eq ?_
        refine FinL_eq ?_
        refine FinL_eq ?_
        refine FinL_eq ?_
        refine FinL_eq ?_
        refine FinL_eq ?_
        refine FinL_eq ?_
        refine FinL_eq ?_
        refine FinL_eq ?_
        refine FinL_eq ?_
        refine FinL_eq ?_
        refine FinL_eq ?_
        refine FinL_ex fun x14 hx14 => ?_
        refine FinL_eq ?_
        refine FinL_eq ?_
        refine FinL_eq ?_
        refine FinL_eq ?_
        refine FinL_eq ?_
        refine FinL_eq ?_
        refine FinL_eq ?_
        refine FinL_ex fun x22 hx22 => ?_
        refine FinL_eq ?_
        refine FinL_eq ?_
        refine FinL_eq ?_
        refine FinL_eq ?_
        refine FinL_eq ?_
        refine FinL_eq ?_
        refine FinL_eq ?_
        refine FinL_ex fun x30 hx30 => ?_
        refine FinL_ex fun x31 hx31 => ?_
        refine FinL_eq ?_
        refine FinL_eq ?_
        refine FinL_nil ?_
        replace hbh := hbh.grow hgr
        replace hbw' := hbw'.grow hgr
        replace hbM := hbM.grow hgr
        simp only [List.drop_succ_cons, List.drop_zero, Act.put, List.setIfInBounds_toArray, List.set_cons_succ, List.set_cons_zero]
        go_wp2
        go_ret
        exact retv_mk (hg4.trans hgr).below
  · go_enter Try.func7, Try.ntmps7
    go_wp2_with (go_at_call 12; refine RetV.use (l3awake_ret _) fun w1 hb1 => ?_)
    go_ret
    exact retv_mk (((Below.refl _ _).alloc (Nat.le_refl _) _).trans (hb1.mono (by simp)))

set_option maxRecDepth 100000 in
theorem historyAdds_lifted (os : Os) (started : os.Started) (H : Type) (enc : TypeId × Value → H) :
    ReturnsInHanded {} Try.checked os 7 .any (Rows.historyAddsSpec.pre6 enc Try.prog Try.f7 Rows.historyAddsRow.domain false) (Rows.historyAddsSpec.post enc Try.prog Try.f7 false true false false) := by
  refine lifted_of (C := Try.checked) own started (by kernel_rfl) Try.func7
    (ChangeSpec.witness6 (enc := enc) (C := Try.checked) false ⟨#[], #[.agg #[.int .i64 0, .int .u32 0, .int .u32 0], .slice Option.none 0 0], []⟩ 8 (by kernel_rfl) (by kernel_rfl) (by kernel_rfl) (by kernel_rfl))
    laidOut (by kernel_rfl) (tb := 4) (by kernel_rfl) Try.underlying4 rfl (fun ds h => match ds, h with | [_, _], _ => ⟨rfl, rfl, rfl⟩) ?_
  intro W base args ds p hval0 hA0
  have hval : ∀ (j : Nat) t v, Try.f7.params[j]? = some t → args[j]? = some v → Value.okWide Try.prog W .any base t v := hval0
  have hA : DataW.TrodAll enc Try.prog W 0 (fun _ => true) true Try.f7.params.toList args.toList ds p := hA0
  rw [Try.params7] at hA hval
  obtain ⟨v0, v1, d0, d1, p0, p1, rfl, rfl, rfl, a0, a1⟩ := trodAll_two hA
  obtain ⟨cs, rfl, hF⟩ := structOpen (m := 4) (ks := [.int .i64, .int .u32, .int .u32]) Try.underlying30 (by kernel_rfl) (hval 0 _ v0 rfl rfl) a0
  obtain ⟨a, _, rfl, _, _, hF⟩ := hF.int
  obtain ⟨b, _, rfl, _, _, hF⟩ := hF.int
  obtain ⟨c, _, rfl, _, _, hF⟩ := hF.int
  cases hF.nil
  obtain ⟨s, l, rfl, hsl, hc⟩ := sliceOpen (R := OneR) (m := 4) (ks := oneK) Try.underlying22 (by kernel_rfl) (by kernel_rfl) oneR_of (hval 1 _ v1 rfl rfl) a1
  exact historyAdds_ret (allHp W) a b c s l W (allSub W) hsl (by simp only [maxLen] at hc; omega)

theorem historyAdds_holds : Rows.HistoryAddsSaid :=
  OpenClaim.holds_of_wide 7 Try.f7 rfl rfl rfl rfl rfl rfl rfl ⟨rfl, rfl, rfl, rfl, rfl⟩ rfl rfl rfl rfl rfl (by kernel_rfl) Try.func7 (by kernel_rfl)
    (of_decide_eq_true (by kernel_rfl)) (by unfold Func.isWrapper; first | (rw [if_pos (by decide +kernel)]; kernel_rfl) | (rw [if_neg (by decide +kernel)]; exact ⟨rfl, rfl⟩))
    (fun os started H enc _ => historyAdds_lifted os started H enc)
end Go.Proofs.Ytlbhfpcbbembgaa
