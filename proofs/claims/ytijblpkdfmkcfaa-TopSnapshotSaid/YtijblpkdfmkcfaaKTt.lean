/-
  TopSnapshot, plain: what a commit of the law does.
-/
import Derived.Test.YtijblpkdfmkcfaaKTs
namespace Go.Proofs.Ytijblpkdfmkcfaa
set_option linter.unusedSimpArgs false
set_option linter.unusedVariables false
open Go.RowKit Go.Maps

theorem TsI.enOk {n : Nat} {v : TsV} (h : TsI n v) (hn : n ≤ 60) {i : Nat} {ni vi V : Int} (h1 : v.now[i]? = some ni) (h2 : v.vers[i]? = some vi) : EnOk ⟨i, ni, vi, V⟩ ∧ inC v.s (i : Int) = true ∧ ni = (lastP (listM v.s (i : Int))).2 ∧ vi = (v.s.writes (i : Int)).getD 0 := by
  have hi := (List.getElem?_eq_some_iff.1 h1).1
  rw [h.l1] at hi
  obtain ⟨a, b, c⟩ := h.ver i vi h2
  exact ⟨⟨by show (0 : Int) ≤ i; omega, by show (i : Int) < 2048; omega, b, by show vi < 100000; omega⟩, h.cell hi, (h.cur i ni h1).symm, a.symm⟩
theorem TsI.ens1 {n : Nat} {v : TsV} (h : TsI n v) (hn : n ≤ 60) {i : Nat} {ni vi V : Int} (h1 : v.now[i]? = some ni) (h2 : v.vers[i]? = some vi) : EnsAt v.s [⟨i, ni, vi, V⟩] := by
  obtain ⟨a, b, c, d⟩ := h.enOk hn (V := V) h1 h2
  refine ⟨⟨by simp, by simp, fun e he => ?_, fun p q x y hpq hx hy => ?_⟩, fun e he => ?_⟩
  · rw [List.mem_singleton.1 he]; exact a
  · have := (List.getElem?_eq_some_iff.1 hy).1
    simp only [List.length_cons, List.length_nil] at this; omega
  · rw [List.mem_singleton.1 he]; exact ⟨b, c, d⟩
theorem TsI.ens2 {n : Nat} {v : TsV} (h : TsI n v) (hn : n ≤ 60) {i k : Nat} (hik : k ≠ i) {ni vi V nk vk V2 : Int} (h1 : v.now[i]? = some ni) (h2 : v.vers[i]? = some vi) (h3 : v.now[k]? = some nk) (h4 : v.vers[k]? = some vk) :
    EnsAt v.s [⟨i, ni, vi, V⟩, ⟨k, nk, vk, V2⟩] := by
  obtain ⟨a, b, c, d⟩ := h.enOk hn (V := V) h1 h2
  obtain ⟨a', b', c', d'⟩ := h.enOk hn (V := V2) h3 h4
  refine ⟨⟨by simp, by simp, fun e he => ?_, fun p q x y hpq hx hy => ?_⟩, fun e he => ?_⟩
  · rcases List.mem_cons.1 he with rfl | he
    · exact a
    · rw [List.mem_singleton.1 he]; exact a'
  · have := (List.getElem?_eq_some_iff.1 hy).1
    simp only [List.length_cons, List.length_nil] at this
    obtain rfl : p = 0 := by omega
    obtain rfl : q = 1 := by omega
    cases hx; cases hy
    show (i : Int) ≠ k
    omega
  · rcases List.mem_cons.1 he with rfl | he
    · exact ⟨b, c, d⟩
    · rw [List.mem_singleton.1 he]; exact ⟨b', c', d'⟩
/-- One entry more. -/
theorem comm_now {s : SnM} {es : List EnV} {c : Int} {e : EnV} (he : es.find? (fun e => e.loc == c) = some e) : (lastP ((commL s es c).getD (listM s c))).2 = e.new := by
  unfold commL; rw [he]
  show (lastP (listM s c ++ [(s.now + 1, e.new)])).2 = _
  rw [lastP_snoc]
theorem comm_now_no {s : SnM} {es : List EnV} {c : Int} (he : es.find? (fun e => e.loc == c) = none) : (commL s es c).getD (listM s c) = listM s c := by
  unfold commL; rw [he]; rfl
theorem comm_ver {s : SnM} {es : List EnV} {c : Int} {e : EnV} (he : es.find? (fun e => e.loc == c) = some e) : (wroB (commL s es) (commW es) s.writes (fun _ => false) c).getD 0 = incW s.writes c := by
  unfold wroB commL commW; rw [he]; rfl
theorem comm_ver_no {s : SnM} {es : List EnV} {c : Int} (he : es.find? (fun e => e.loc == c) = none) : wroB (commL s es) (commW es) s.writes (fun _ => false) c = s.writes c := by
  unfold wroB commL commW; rw [he]; rfl
theorem TsI.incW {n : Nat} {v : TsV} (h : TsI n v) (hn : n ≤ 60) {i : Nat} {vi : Int} (h2 : v.vers[i]? = some vi) : incW v.s.writes (i : Int) = vi + 1 := by
  obtain ⟨a, b, c⟩ := h.ver i vi h2
  unfold Go.Proofs.Ytijblpkdfmkcfaa.incW
  rw [a, IntKind.wrap_u32]; omega
theorem TsI.comm1 {n : Nat} {v : TsV} (h : TsI n v) (hn : n ≤ 60) {i : Nat} {ni vi V : Int} (h1 : v.now[i]? = some ni) (h2 : v.vers[i]? = some vi) :
    TsI (n + 1) ⟨commitM v.s [⟨i, ni, vi, V⟩], v.now.set i V, v.vers.set i (vi + 1), v.wo, fun r => (v.si r).map (· + 1)⟩ := by
  have hE := h.ens1 hn (V := V) h1 h2
  obtain ⟨a, b, c0⟩ := h.ver i vi h2
  have hin := h.incW hn h2
  refine h.commit hn hE (by simp) (by rw [List.length_set]; exact h.l1) (by rw [List.length_set]; exact h.l2) (fun c z hz => ?_) (fun c z hz => ?_)
  · rw [List.getElem?_set] at hz
    by_cases e : i = c
    · subst e
      have hlt := (List.getElem?_eq_some_iff.1 h1).1
      rw [if_pos rfl, if_pos hlt] at hz; cases hz
      rw [comm_now (e := ⟨i, ni, vi, V⟩) (by simp)]
    · rw [if_neg e] at hz
      rw [comm_now_no (by simp; omega)]; exact h.cur c z hz
  · rw [List.getElem?_set] at hz
    by_cases e : i = c
    · subst e
      have hlt := (List.getElem?_eq_some_iff.1 h2).1
      rw [if_pos rfl, if_pos hlt] at hz; cases hz
      rw [comm_ver (e := ⟨i, ni, vi, V⟩) (by simp), hin]
      exact ⟨rfl, by omega, by omega⟩
    · rw [if_neg e] at hz
      rw [comm_ver_no (by simp; omega)]
      obtain ⟨p, q, r⟩ := h.ver c z hz
      exact ⟨p, q, by omega⟩
theorem TsI.comm2 {n : Nat} {v : TsV} (h : TsI n v) (hn : n ≤ 60) {i k : Nat} (hik : k ≠ i) {ni vi V nk vk V2 : Int} (h1 : v.now[i]? = some ni) (h2 : v.vers[i]? = some vi) (h3 : v.now[k]? = some nk) (h4 : v.vers[k]? = some vk) :
    TsI (n + 1) ⟨commitM v.s [⟨i, ni, vi, V⟩, ⟨k, nk, vk, V2⟩], (v.now.set i V).set k V2, (v.vers.set i (vi + 1)).set k (vk + 1), v.wo, fun r => (v.si r).map (· + 2)⟩ := by
  have hE := h.ens2 hn hik (V := V) (V2 := V2) h1 h2 h3 h4
  obtain ⟨a, b, c0⟩ := h.ver i vi h2
  obtain ⟨a', b', c0'⟩ := h.ver k vk h4
  have hin := h.incW hn h2
  have hin' := h.incW hn h4
  have hki : ((k : Int) == (i : Int)) = false := by simp; omega
  have hki' : ((i : Int) == (k : Int)) = false := by simp; omega
  refine h.commit hn hE (by simp) (by rw [List.length_set, List.length_set]; exact h.l1) (by rw [List.length_set, List.length_set]; exact h.l2) (fun c z hz => ?_) (fun c z hz => ?_)
  · rw [List.getElem?_set, List.getElem?_set, List.length_set] at hz
    by_cases e : k = c
    · subst e
      have hlt := (List.getElem?_eq_some_iff.1 h3).1
      rw [if_pos rfl, if_pos hlt] at hz; cases hz
      rw [comm_now (e := ⟨k, nk, vk, V2⟩) (by simp [List.find?_cons, hki'])]
    · rw [if_neg e] at hz
      by_cases e2 : i = c
      · subst e2
        have hlt := (List.getElem?_eq_some_iff.1 h1).1
        rw [if_pos rfl, if_pos hlt] at hz; cases hz
        rw [comm_now (e := ⟨i, ni, vi, V⟩) (by simp [List.find?_cons])]
      · rw [if_neg e2] at hz
        rw [comm_now_no (by simp; omega)]; exact h.cur c z hz
  · rw [List.getElem?_set, List.getElem?_set, List.length_set] at hz
    by_cases e : k = c
    · subst e
      have hlt := (List.getElem?_eq_some_iff.1 h4).1
      rw [if_pos rfl, if_pos hlt] at hz; cases hz
      rw [comm_ver (e := ⟨k, nk, vk, V2⟩) (by simp [List.find?_cons, hki']), hin']
      exact ⟨rfl, by omega, by omega⟩
    · rw [if_neg e] at hz
      by_cases e2 : i = c
      · subst e2
        have hlt := (List.getElem?_eq_some_iff.1 h2).1
        rw [if_pos rfl, if_pos hlt] at hz; cases hz
        rw [comm_ver (e := ⟨i, ni, vi, V⟩) (by simp [List.find?_cons]), hin]
        exact ⟨rfl, by omega, by omega⟩
      · rw [if_neg e2] at hz
        rw [comm_ver_no (by simp; omega)]
        obtain ⟨p, q, r⟩ := h.ver c z hz
        exact ⟨p, q, by omega⟩
end Go.Proofs.Ytijblpkdfmkcfaa
