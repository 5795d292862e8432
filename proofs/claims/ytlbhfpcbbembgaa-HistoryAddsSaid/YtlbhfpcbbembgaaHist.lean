/-
  Histories: what each function of package history returns.
-/
import Derived.Test.YtlbhfpcbbembgaaView
namespace Go.Proofs.Ytlbhfpcbbembgaa
open Go.RowKit Go.Maps

structure MsgV where
  val : Int
  ver : Int
  ref : Int
  th : Int
  view : Int → Int

def MsgR : Elt MsgV := fun H cs m => ∃ r, cs = [.int .i64 m.val, .int .u32 m.ver, .int .u32 m.ref, .int .i64 m.th, .map r] ∧ ViewR H r m.view
theorem MsgR.mono : Mono MsgR := fun H H' cs x g ⟨r, h1, h2⟩ => ⟨r, h1, h2.le g⟩

def HistR (H : Hp) (s : SlV) (l : List MsgV) : Prop := SlR 5 MsgR H s.a s.n s.c l
theorem HistR.le {H H' : Hp} {s : SlV} {l : List MsgV} (h : HistR H s l) (g : Le H H') : HistR H' s l := SlR.le h MsgR.mono g

theorem ViewR.zero (H : Hp) : ViewR H none (fun _ => 0) := ⟨by simp, by simp, by simp⟩

set_option maxRecDepth 100000 in
set_option maxHeartbeats 400000 in
theorem clipMsg_ret (s : SlV) (w : World) (hn : s.n ≤ s.c) (hb : s.n ≤ 9223372036854775807) : RetV Try.prog 38 #[.slice s.a s.n s.c] w (.slice s.a s.n s.n) := by
  obtain ⟨a, n, c⟩ := s
  simp only at hn hb
  unfold RetV
  go_enter Try.func38, Try.ntmps38
  go_wp2
  go_ret
  exact retv_mk (Below.refl _ _)

set_option maxRecDepth 100000 in
theorem hLen_ret (s : SlV) (w : World) : RetV Try.prog 16 #[.agg #[.slice s.a s.n s.c]] w (.int .i64 s.n) := by
  unfold RetV
  go_enter Try.func16, Try.ntmps16
  go_wp2
  go_ret
  exact retv_mk ((Below.refl _ _).alloc (Nat.le_refl _) _)

set_option maxRecDepth 100000 in
set_option maxHeartbeats 400000 in
theorem hNew_ret (H : Hp) (x y z : Int) (w : World) (hs : Sub H w) : Ret Try.prog 21 #[.agg #[.int .i64 x, .int .u32 y, .int .u32 z]] w H (fun s : SlV => .agg #[.slice s.a s.n s.c]) (fun s H' => HistR H' s [⟨x, y, z, 0, fun _ => 0⟩]) := by
  unfold Ret
  go_enter Try.func21, Try.ntmps21
  go_wp2
  refine bodyPost_ret (v := .agg #[.slice (some ⟨w.heap.size + 1 + 1, 0, none⟩) 1 1]) (by simp [results, Try.results21, go_sem]) rfl
    (ret_mk (⟨some ⟨w.heap.size + 1 + 1, 0, none⟩, 1, 1⟩ : SlV) (H.add (w.heap.size + 1 + 1) (.cells #[.int .i64 x, .int .u32 y, .int .u32 z, .int .i64 0, .map none] 43 (0, 0))) ?_ ?_)
  · exact Grow.add ((((Grow.refl hs).alloc _).alloc _).alloc _) (heap_at _ _ (by simp)) (by omega)
  · refine ⟨[.int .i64 x, .int .u32 y, .int .u32 z, .int .i64 0, .map none], rfl, Nat.le_refl _, fun e => (by cases e), FlatR.one rfl ⟨none, rfl, ViewR.zero _⟩, by simp [Value.oneCell'], fun j u hu => ?_⟩
    exact ⟨_, 0, _, _, _, rfl, Hp.add_at _ _ _, by simpa using hu⟩

def zeroMsg : MsgV := ⟨0, 0, 0, 0, fun _ => 0⟩
/-- The message with index i, and whether there is one. -/
def atM (l : List MsgV) (i : Int) : MsgV × Bool := if 0 ≤ i ∧ i < l.length then (l.getD i.toNat zeroMsg, true) else (zeroMsg, false)
def MsgV.v (m : MsgV) (r : Option Nat) : Value := .agg #[.int .i64 m.val, .int .u32 m.ver, .int .u32 m.ref, .int .i64 m.th, .map r]

set_option maxRecDepth 100000 in
set_option maxHeartbeats 400000 in
theorem hAt_ret (H : Hp) (s : SlV) (l : List MsgV) (i : Int) (w : World) (hs : Sub H w) (h : HistR H s l) (hb : s.n ≤ 9223372036854775807) :
    Ret Try.prog 19 #[.agg #[.slice s.a s.n s.c], .int .i64 i] w H (fun r : Option Nat => .tuple #[(atM l i).1.v r, .bool (atM l i).2]) (fun r H' => ViewR H' r (atM l i).1.view) := by
  have hl := h.len
  obtain ⟨a, n, c⟩ := s
  simp only at hl hb
  unfold HistR at h
  simp only at h
  by_cases hc : 0 ≤ i ∧ i < l.length
  · obtain ⟨c1, c2⟩ := hc
    obtain ⟨j, rfl⟩ := Int.eq_ofNat_of_zero_le c1
    have hx : l[j]? = some (l.getD j zeroMsg) := by
      rw [List.getD_eq_getElem?_getD, List.getElem?_eq_getElem (by omega)]; rfl
    have e : atM l j = (l.getD j zeroMsg, true) := by rw [atM, if_pos ⟨c1, c2⟩]; simp
    obtain ⟨b, o, es, rfl, hk, ⟨r, rfl, hv⟩, ⟨ob, hob⟩, hc⟩ := h.at hx (by omega)
    rw [e]
    generalize l.getD j zeroMsg = m at *
    have hbl := hs.lt hob
    have hc0 := hc w hs 0 _ rfl
    have hc1 := hc w hs 1 _ rfl
    have hc2 := hc w hs 2 _ rfl
    have hc3 := hc w hs 3 _ rfl
    have hc4 := hc w hs 4 _ rfl
    simp only [Nat.add_zero] at hc0
    have hjn : j < n := by omega
    clear hx e hc h
    unfold Ret
    go_enter Try.func19, Try.ntmps19
    go_wp2
    exact bodyPost_ret (v := .tuple #[m.v r, .bool true]) (by simp [results, Try.results19, go_sem, MsgV.v]) rfl (ret_mk r H (((Grow.refl hs).alloc _).alloc _) hv)
  · have e : atM l i = (zeroMsg, false) := by rw [atM, if_neg hc]
    rw [e]
    unfold Ret
    have hc' : i < 0 ∨ (n : Int) ≤ i := by omega
    go_enter Try.func19, Try.ntmps19
    go_wp2
    all_goals exact bodyPost_ret (v := .tuple #[zeroMsg.v none, .bool false]) (by simp [results, Try.results19, go_sem, MsgV.v, zeroMsg]) rfl (ret_mk none H (((Grow.refl hs).alloc _).alloc _) (ViewR.zero _))

theorem infoMsg : (Try.prog.info? 43).map (fun i => (i.zero, i.size, i.bytes)) = some (some (.agg #[.int .i64 0, .int .u32 0, .int .u32 0, .int .i64 0, .map none]), 5, 32) := by kernel_rfl

set_option maxRecDepth 100000 in
set_option maxHeartbeats 1000000 in
theorem hAdd_ret (H : Hp) (s : SlV) (l : List MsgV) (m : MsgV) (r : Option Nat) (w : World) (hs : Sub H w) (h : HistR H s l) (hm : ViewR H r m.view) (hb : s.n ≤ 1000000) :
    Ret Try.prog 17 #[.agg #[.slice s.a s.n s.c], .agg #[.int .i64 m.val, .int .u32 m.ver, .int .u32 m.ref, .int .i64 m.th, .map r]] w H (fun s : SlV => .agg #[.slice s.a s.n s.c]) (fun s H' => HistR H' s (l ++ [m])) := by
  obtain ⟨i0, hi, hz0, hz1, hz2⟩ := info_parts infoMsg
  unfold Ret
  go_enter Try.func17, Try.ntmps17
  go_wp2
  refine wp_abs3 hs fun W0 hb1 hb2 hb3 hg0 hz => ?_
  refine wp_region_ag 7 [] H (by kernel_rfl) (by kernel_rfl) (by kernel_rfl) (fun _ _ _ _ _ h => h) hg0.sub ?_
  simp only [List.take_succ_cons, List.take_zero]
  apply agl_val (hfl := rfl) (hg := fun _ _ _ _ => wanted_none rfl)
  · intro a w' H' hw hp ho
    have e2 := oget (t := 2) ho rfl
    clear hw hp ho
    go_simp
    rfl
  apply agl_val (hfl := rfl) (hg := fun _ _ _ _ => wanted_none rfl)
  · intro a w' H' hw hp ho
    have e5 := tget (t := 5) (hp 0 _ rfl rfl)
    have r_hb1 := (hb1.grow hw).cell
    have r_hb2 := (hb2.grow hw).cell
    have r_hb3 := (hb3.grow hw).cell
    clear hw hp ho
    go_simp
    rfl
  try simp only [List.nil_append, List.cons_append]
  apply agl_callv (hfl := rfl) (hg := fun _ _ _ _ => wanted_none rfl)
  · intro a w' H' hw hp ho
    have e6 := tget (t := 6) (hp 1 _ rfl rfl)
    apply Exists.intro
    apply And.intro
    · go_simp; first | rfl | exact ⟨rfl, rfl⟩
    · exact clipMsg_ret s w' h.cap (by omega)
  apply agl_val (hfl := rfl) (hg := fun _ _ _ _ => wanted_none rfl)
  · intro a w' H' hw hp ho
    have e3 := oget (t := 3) ho rfl
    have r_hb1 := (hb1.grow hw).cell
    have r_hb2 := (hb2.grow hw).cell
    have r_hb3 := (hb3.grow hw).cell
    clear hw hp ho
    go_simp
    rfl
  try simp only [List.nil_append, List.cons_append]
  apply agl_lit (hfl := rfl) (hg := fun _ _ _ _ => wanted_none rfl)
  · intro a w' H' hw hp ho
    have e8 := tget (t := 8) (hp 3 _ rfl rfl)
    clear hw hp ho
    go_simp
    first | rfl | exact ⟨rfl, rfl⟩
  apply agl_append (L := l ++ [m]) (k := 5) (R := MsgR) (hop := rfl) (hfl := rfl) (hg := fun _ _ _ _ => wanted_none rfl) (ht := Try.underlying24) (hi := hi) (hz := hz0) (hsize := hz1) (hby := hz2) (hzs := rfl) (hk := by decide) (hm := MsgR.mono)
  · intro a w' H' hw hp ho
    have e7 : a.eval (.tmp 7) = _ := hp 2 _ rfl rfl
    obtain ⟨b, e9, hb9⟩ := hp 4 _ rfl rfl
    have hle := hw.le hg0.sub
    refine ⟨s.a, s.n, s.n, l, ⟨b, 0, none⟩, 1, 1, [m], [.int .i64 m.val, .int .u32 m.ver, .int .u32 m.ref, .int .i64 m.th, .map r], e7, e9, ?_, FlatR.one rfl ⟨r, rfl, hm.le hle⟩, rfl, by simp [Value.oneCell'], ?_, by omega, by unfold maxLen; omega, by omega, rfl⟩
    · have := (HistR.le h hle).clip s.n s.n (Nat.le_refl _) (Nat.le_refl _) h.cap
      rw [List.take_of_length_le (by rw [h.len]; exact Nat.le_refl _)] at this
      exact this
    · intro j u hu
      rw [Addr.add_lit]
      have := hw.sub
      have hx : Box w' b _ _ := this _ _ hb9
      rw [hx.cell]; simpa using hu
  try simp only [List.nil_append, List.cons_append]
  apply agl_ex (j := 5) (hj := rfl) (hwj := rfl) (hfl := rfl) (hg := fun _ _ _ _ => wanted_none rfl)
  · intro x a w' H' hw hp ho ex hx
    replace ex := tget (t := 10) ex
    have r_hb1 := (hb1.grow hw).cell
    have r_hb2 := (hb2.grow hw).cell
    have r_hb3 := (hb3.grow hw).cell
    clear hw hp ho
    go_simp
    rfl
  · exact fun _ _ _ g h => HistR.le h g
  refine agl_nil fun W Hf hgr => ?_
  simp only [List.nil_append, List.cons_append, List.take_succ_cons, List.take_zero]
  refine FinL_eq ?_
  refine FinL_eq ?_
  refine FinL_eq ?_
  refine FinL_eq ?_
  refine FinL_lit fun b4 hv4 => ?_
  refine FinL_ex fun x5 hx5 => ?_
  refine FinL_ex fun x6 hx6 => ?_
  refine FinL_nil ?_
  replace hb1 := hb1.grow hgr
  replace hb2 := hb2.grow hgr
  replace hb3 := hb3.grow hgr
  simp only [List.drop_succ_cons, List.drop_zero, Act.put, List.setIfInBounds_toArray, List.set_cons_succ, List.set_cons_zero]
  refine wpList_store_box (val := .agg #[_]) rfl _ _ _ rfl _ _ _ rfl rfl hb3 (by kernel_rfl) rfl (by simp [Value.cells, Value.oneCell']) fun w2 hp2 => ?_
  have hc2 := hp2.box.cell
  go_wp2
  exact bodyPost_ret (v := .agg #[.slice x6.a x6.n x6.c]) (by simp [results, Try.results17, go_sem, hc2]) rfl (ret_mk x6 Hf (hp2.grow (hg0.trans hgr) (by omega) (hgr.priv (by omega) (hs.none (by omega)))) hx6)

end Go.Proofs.Ytlbhfpcbbembgaa
