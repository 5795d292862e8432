/-
  Histories: Last.
-/
import Derived.Test.YtlbhfpcbbembgaaLaw3
import Derived.Test.YtlbhfpcbbembgaaSame
namespace Go.Proofs.Ytlbhfpcbbembgaa
open Go.RowKit Go.Maps

theorem HistR.zero (H : Hp) : HistR H ⟨none, 0, 0⟩ [] := SlR.nil MsgR H
def lastM (l : List MsgV) : MsgV := (atM l ((l.length : Int) - 1)).1

set_option maxRecDepth 100000 in
set_option maxHeartbeats 1000000 in
theorem hLast_ret (H : Hp) (s : SlV) (l : List MsgV) (w : World) (hs : Sub H w) (h : HistR H s l) (hb : s.n ≤ 1000000) :
    Ret Try.prog 20 #[.agg #[.slice s.a s.n s.c]] w H (fun r : Option Nat => (lastM l).v r) (fun r H' => ViewR H' r (lastM l).view) := by
  have hl := h.len
  have e : lastM l = (atM l ((s.n : Int) - 1)).1 := by unfold lastM; rw [hl]
  rw [e]
  unfold Ret
  go_enter Try.func20, Try.ntmps20
  go_wp2_with fail
  refine Ret.use (hAt_ret H s l _ _ ((hs.alloc _).alloc _) h (by omega)) fun x w1 H1 hg1 hx1 => ?_
  have hbc : Box w1 (w.heap.size + 1) _ _ := (hg1.below.block _ (by simp)).trans (heap_at _ _ (by simp))
  have hg : Grow w H w1 H1 := (((Grow.refl hs).alloc _).alloc _).trans hg1
  have hpr : H1 (w.heap.size + 1) = none := (hg1.old _ (by simp)).trans (hs.none (by omega))
  have hc := hbc.cell
  have hf := hbc.frozen
  have hlt := hbc.lt
  generalize hm : atM l ((s.n : Int) - 1) = m at hx1 ⊢
  obtain ⟨m, ok⟩ := m
  simp only [MsgV.v] at hx1 ⊢
  go_wp2
  refine bodyPost_ret (v := .agg #[.int .i64 m.val, .int .u32 m.ver, .int .u32 m.ref, .int .i64 m.th, .map x]) (by simp [results, Try.results20, go_sem, hc, hlt]) rfl ?_
  simp only [hm]
  exact ret_mk (c := fun r => m.v r) x H1 ((((((hg.setCell (by simp) hpr _).setCell (by simp) hpr _).setCell (by simp) hpr _).setCell (by simp) hpr _).setCell (by simp) hpr _).alloc _) hx1

theorem run_msg0 (a0 a1 a2 a3 a4 : Value) (w : World) : (Instr.field 43 (.agg #[a0, a1, a2, a3, a4]) 0).run Try.prog w = .ok (.agg #[a0, a1, a2]) w := by kernel_rfl
theorem run_msg1 (a0 a1 a2 a3 a4 : Value) (w : World) : (Instr.field 43 (.agg #[a0, a1, a2, a3, a4]) 1).run Try.prog w = .ok a3 w := by kernel_rfl
theorem run_msg2 (a0 a1 a2 a3 a4 : Value) (w : World) : (Instr.field 43 (.agg #[a0, a1, a2, a3, a4]) 2).run Try.prog w = .ok (.agg #[a4]) w := by kernel_rfl
end Go.Proofs.Ytlbhfpcbbembgaa
