/-
  Maps with integer keys: the canonical reading.
-/
import Derived.Test.YtfcjkchpldfamaaSl
import Derived.Maps.RangeWalk
import Derived.Maps.Ext
import Derived.Maps.OwnSet
import Derived.Laws.IdiomRangeMap
namespace Go.Proofs.Ytfcjkchpldfamaa
set_option linter.unusedSimpArgs false
set_option linter.unusedVariables false
open Go.RowKit Go.Maps

/-- The canonical reading of the map that f describes. -/
def DF (D : DataW Value) (f : Int → Option Value) : Prop := ∃ es, D = .map es ∧ es.Pairwise (fun p q => p.1.before q.1 = true) ∧ ∀ p, p ∈ es ↔ ∃ k v, p = (.int .i64 k, .held v) ∧ f k = some v
theorem DF.one {D D' : DataW Value} {f : Int → Option Value} (h : DF D f) (h' : DF D' f) : D = D' := by
  obtain ⟨es, rfl, r, m⟩ := h
  obtain ⟨es', rfl, r', m'⟩ := h'
  rw [eq_of_mem_rising r r' (fun p => (m p).trans (m' p).symm)]
theorem DF.nil {f : Int → Option Value} (h : ∀ k, f k = none) : DF (.map []) f := ⟨[], rfl, List.Pairwise.nil, fun p => ⟨fun h => by simp at h, fun ⟨k, v, _, h2⟩ => by rw [h] at h2; cases h2⟩⟩

theorem MapOf.df {kt : TypeId} {o : Obj} {n b : Nat} {f : Int → Option Value} {w : World} (h : MapOf kt o n f) (hb : w.heap[b]? = some o) (hk : Try.prog.underlying kt = some (.int .i64)) :
    ∃ D : DataW Value, w.ownsMap Try.prog kt anyElem b n D ∧ DF D f := by
  obtain ⟨D, hown, hf⟩ := h.owns hb
  have K := int_keyed (P := Try.prog) hk
  have hown0 := hown
  obtain ⟨es, rfl, hris, hkl⟩ := hown.canon K
  have hap := apart_of_rising hris
  have hkeys : ∀ p ∈ es, ∃ k v, p = (.int .i64 k, .held v) := by
    obtain ⟨es0, clock, _, F, _, hD⟩ := hown0
    simp only [DataW.map.injEq] at hD
    intro p hp
    rw [hD] at hp
    obtain ⟨x, hx, rfl⟩ := List.mem_map.1 (mem_sorted.1 hp)
    obtain ⟨y, hy⟩ := F.reads x hx
    obtain ⟨z, hz, hzd⟩ := Go.WideElems.rd_val hy
    have hrg := Go.WideElems.rg_of hy
    obtain ⟨v, hv⟩ := Maps.fit_keys F _ (List.mem_map.2 ⟨x, hx, rfl⟩)
    obtain ⟨k, _, hk2, _⟩ := Maps.keyOf_int_inv hk hv
    simp only [anyElem, Option.some.injEq] at hz
    refine ⟨k, x.val, Prod.ext hk2 ?_⟩
    rw [hrg, hzd, ← hz]
  refine ⟨_, hown, es, rfl, hris, fun p => ⟨fun hp => ?_, fun ⟨k, v, hp, hv⟩ => ?_⟩⟩
  · obtain ⟨k, v, rfl⟩ := hkeys p hp
    refine ⟨k, v, rfl, ?_⟩
    have hat := WideAt.atKey_mem (entries := es) (k := .int .i64 k) (d := .held v) .nil (hkl _ hp) hap hp
    rw [hf k] at hat
    cases e : f k with
    | some v' => rw [e] at hat; simp only [DataW.held.injEq] at hat; rw [hat]
    | none => rw [e] at hat; cases hat
  · subst hp
    have hat := hf k
    rw [hv] at hat
    cases hh : Maps.has (.map es) (.int .i64 k) with
    | false => rw [Maps.atKey_of_not_has hh .nil] at hat; cases hat
    | true =>
      obtain ⟨p, hp, hs⟩ := List.any_eq_true.1 (show es.any (fun p => p.1.sameKey (.int .i64 k)) = true from hh)
      have e1 : p.1 = .int .i64 k := WideAt.sameKey_eq hs
      have e2 : (DataW.map es).atKey (.int .i64 k) .nil = p.2 := by rw [← e1]; exact WideAt.atKey_mem .nil (hkl p hp) hap hp
      have : p = (.int .i64 k, .held v) := Prod.ext e1 (by rw [← e2, hat])
      rw [← this]; exact hp

end Go.Proofs.Ytfcjkchpldfamaa
