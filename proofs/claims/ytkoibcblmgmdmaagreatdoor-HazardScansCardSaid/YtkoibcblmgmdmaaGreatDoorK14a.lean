/-
  Layer 14 by shadows: hazards.
-/
import Derived.Test.YtkoibcblmgmdmaaGreatDoorK10a
import Derived.Test.YtkoibcblmgmdmaaGreatDoorK11
import Derived.Test.YtkoibcblmgmdmaaGreatDoorMC
import Derived.Test.YtkoibcblmgmdmaaGreatDoorSc14
namespace Go.Proofs.YtkoibcblmgmdmaaGreatDoor
set_option linter.unusedSimpArgs false
set_option linter.unusedVariables false
open Go.RowKit Go.Maps
inductive PPos | begin | found | held | again
  deriving DecidableEq
def fnP : PPos → FuncId
  | .begin => 100 | .found => 117 | .held => 130 | .again => 138
structure ProtV where
  loc : Int
  own : Int
  word : WordV
  fin : Bool
  pos : PPos
structure LetV where
  own : Int
  pt : Int
structure ScanV where
  lay : LayV
  nxt : Int
  held : List Int
  fin : Bool
abbrev shP14 (p : PPos) : Sh := .fn (.func (fnP p)) [] []
abbrev cProt (s : ProtV) : List Sh := [sI s.loc, sI s.own, shP14 s.pos, sI s.word.val, sU s.word.ver, sU s.word.ref, sB s.fin]
abbrev cLet (s : LetV) : List Sh := [sI s.own, sI s.pt]
abbrev eH1 (v : Int) : List Sh := [sI v]
abbrev cScan (s : ScanV) : List Sh := [sI s.lay.threads, sI s.lay.cells, sI s.lay.blocks, sI s.nxt, .sl 1 0 (s.held.map eH1), sB s.fin]
def foundP (s : ProtV) (g : GotV) : ProtV × ActM := ({ s with word := g.word, pos := .held }, ⟨4, s.own, zWord, ⟨g.word.val, 0, 0⟩⟩)
def lookP (s : ProtV) (p : PPos) : ProtV × ActM := ({ s with pos := p }, ⟨5, s.loc, zWord, zWord⟩)
def againP (s : ProtV) (g : GotV) : ProtV × ActM := if weq g.word s.word = true then ({ s with fin := true }, zAct) else foundP s g
def protDo (s : ProtV) (g : GotV) : ProtV × ActM :=
  match s.pos with
  | .begin => lookP s .found
  | .found => foundP s g
  | .held => lookP s .again
  | .again => againP s g
abbrev pStep (r : ProtV × ActM) : Sh := .tup [.agg (cProt r.1), .agg (eAct4 r.2)]
theorem ok_hBegin (s : ProtV) (g : GotV) : Ok 100 [.agg (cProt s), .agg (eGot g)] (pStep (lookP s .found)) := by
  refine ok_of_tr Tryz.func100 tr_hBegin rfl ?_
  unfold lookP
  unfold evFn sc_hBegin rv_hBegin
  refine eS fun _ hn1 _ _ => ?_;refine eO fun _ hk2 => ?_;refine tL0 ?_;refine hk2 _ ?_;refine hn1 (some ([2,4,5], none)) _ ?_;refine eS fun _ hn3 _ _ => ?_;refine eO fun _ hk4 => ?_;refine tZ0 ?_;refine hk4 _ ?_;refine hn3 (some ([2,4,5], none)) _ ?_;refine eS fun _ hn5 _ _ => ?_;refine eP ([]) [4,5] [0,1,2,3] [4,5] (by kernel_rfl) (fun _ hk6 => ?_);refine sp0 ?_
  have F1 := @shPP
  refine evP_take 1 fun _ hk7 => ?_;refine sh1 F1 ?_;refine sd ?_;refine hk7 _ ?_;refine evP_take 2 fun _ hk8 => ?_;refine sh1 F1 ?_;refine sd ?_;refine hk8 _ ?_;refine sh1 F1 ?_;refine hk6 _ (by rfl) (fun _ hk9 => ?_);refine sp0 ?_;refine toKL ?_;refine tC 1 F1 ?_;refine tZ F1 ?_;refine hk9 _ ?_;refine so0 ?_;refine hn5 (some ([4,5], none)) _ ?_;refine sg1 F1 ?_
  rfl
theorem ok_hHeld (s : ProtV) (g : GotV) : Ok 130 [.agg (cProt s), .agg (eGot g)] (pStep (lookP s .again)) := by
  refine ok_of_tr Tryz.func130 tr_hHeld rfl ?_
  unfold lookP
  unfold evFn sc_hHeld rv_hHeld
  refine eS fun _ hn1 _ _ => ?_;refine eO fun _ hk2 => ?_;refine tL0 ?_;refine hk2 _ ?_;refine hn1 (some ([2,4,5], none)) _ ?_;refine eS fun _ hn3 _ _ => ?_;refine eO fun _ hk4 => ?_;refine tZ0 ?_;refine hk4 _ ?_;refine hn3 (some ([2,4,5], none)) _ ?_;refine eS fun _ hn5 _ _ => ?_;refine eP ([]) [4,5] [0,1,2,3] [4,5] (by kernel_rfl) (fun _ hk6 => ?_);refine sp0 ?_
  have F1 := @shPP
  refine evP_take 1 fun _ hk7 => ?_;refine sh1 F1 ?_;refine sd ?_;refine hk7 _ ?_;refine evP_take 2 fun _ hk8 => ?_;refine sh1 F1 ?_;refine sd ?_;refine hk8 _ ?_;refine sh1 F1 ?_;refine hk6 _ (by rfl) (fun _ hk9 => ?_);refine sp0 ?_;refine toKL ?_;refine tC 1 F1 ?_;refine tZ F1 ?_;refine hk9 _ ?_;refine so0 ?_;refine hn5 (some ([4,5], none)) _ ?_;refine sg1 F1 ?_
  rfl
theorem ok_hFound (s : ProtV) (g : GotV) : Ok 117 [.agg (cProt s), .agg (eGot g)] (pStep (foundP s g)) := by
  refine ok_of_tr Tryz.func117 tr_hFound rfl ?_
  unfold foundP
  unfold evFn sc_hFound rv_hFound
  refine eS fun _ hn1 _ _ => ?_;refine eO fun _ hk2 => ?_;refine tL0 ?_;refine hk2 _ ?_;refine hn1 (some ([2,3,4,5], none)) _ ?_;refine eS fun _ hn3 _ _ => ?_;refine eO fun _ hk4 => ?_;refine tC0 2 ?_;refine tC0 2 ?_;refine tZ0 ?_;refine hk4 _ ?_;refine hn3 (some ([2,3,4,5], none)) _ ?_;refine eS fun _ hn5 _ _ => ?_;refine eP ([]) [4,5] [0,1,2,3,4,5,6,7] [8,9] (by kernel_rfl) (fun _ hk6 => ?_);refine sp0 ?_
  have F1 := @shPP
  refine evP_take 1 fun _ hk7 => ?_;refine sh1 F1 ?_;refine sd ?_;refine hk7 _ ?_;refine evP_take 2 fun _ hk8 => ?_;refine sh1 F1 ?_;refine sd ?_;refine hk8 _ ?_;refine evP_take 3 fun _ hk9 => ?_;refine sh1 F1 ?_;refine sd ?_;refine hk9 _ ?_;refine sh1 F1 ?_;refine hk6 _ (by rfl) (fun _ hk10 => ?_);refine sp0 ?_;refine toKL ?_;refine tC 1 F1 ?_;refine tZ F1 ?_;refine hk10 _ ?_;refine so0 ?_;refine hn5 (some ([4,5], none)) _ ?_;refine sg1 F1 ?_
  rfl
theorem eqsh_word_ne {a b : WordV} (h : a ≠ b) : EqSh 66 (.agg (eWord a)) (.agg (eWord b)) false := by
  have e : (a.val == b.val && (a.ver == b.ver && a.ref == b.ref)) = false := Bool.eq_false_iff.2 fun hh => h (by
    obtain ⟨a1, a2, a3⟩ := a
    obtain ⟨b1, b2, b3⟩ := b
    simp only [Bool.and_eq_true, beq_iff_eq] at hh
    obtain ⟨rfl, rfl, rfl⟩ := hh
    rfl)
  have := eqsh_word a b
  rwa [e] at this
theorem ok_hAgain (s : ProtV) (g : GotV) : Ok 138 [.agg (cProt s), .agg (eGot g)] (pStep (againP s g)) := by
  refine ok_of_tr Tryz.func138 tr_hAgain rfl ?_
  have k0 := ok_hFound s g
  unfold againP
  obtain ⟨loc, own, ⟨v, r, f⟩, dn, pos⟩ := s
  obtain ⟨⟨v2, r2, f2⟩, ok⟩ := g
  by_cases h : (⟨v2, r2, f2⟩ : WordV) = ⟨v, r, f⟩
  · cases h
    rw [if_pos (weq_iff.2 rfl)]
    unfold evFn sc_hAgain rv_hAgain
    refine eS fun K1 hn1 hr1 he1 => ?_;refine eO fun K2 hk2 => ?_;refine tL0 ?_;refine hk2 _ ?_;refine hn1 (some ([2,3,4,5], none)) _ ?_;refine eS fun K3 hn3 hr3 he3 => ?_;refine eS fun K4 hn4 hr4 he4 => ?_;refine eO fun K5 hk5 => ?_;refine tC0 2 ?_;refine tC0 2 ?_;refine tL0 ?_;refine Or.inl ⟨_, eqsh_word_refl ⟨v, r, f⟩, ?_⟩;refine hk5 _ ?_;refine hn4 (some ([2,3,4,5,10], none)) _ ?_;refine eCf ?_;refine hn3 (some ([2,4,5], none)) _ ?_;refine eS fun K6 hn6 hr6 he6 => ?_;refine eO fun K7 hk7 => ?_;refine tZ0 ?_;refine hk7 _ ?_;refine hn6 (some ([2,4,5], none)) _ ?_;refine eS fun _ hn8 _ _ => ?_;refine eO fun _ hk9 => ?_;refine tC0 1 ?_;refine tC0 2 ?_;refine tZ0 ?_;refine hk9 _ ?_;refine hn8 (some ([4,5], none)) _ ?_
    exact sf0
  · rw [if_neg (fun h2 => h (weq_iff.1 h2))]
    unfold evFn sc_hAgain rv_hAgain
    refine eS fun K1 hn1 hr1 he1 => ?_;refine eO fun K2 hk2 => ?_;refine tL0 ?_;refine hk2 _ ?_;refine hn1 (some ([2,3,4,5], none)) _ ?_;refine eS fun K3 hn3 hr3 he3 => ?_;refine eS fun K4 hn4 hr4 he4 => ?_;refine eO fun K5 hk5 => ?_;refine tC0 2 ?_;refine tC0 2 ?_;refine tL0 ?_;refine Or.inl ⟨_, eqsh_word_ne h, ?_⟩;refine hk5 _ ?_;refine hn4 (some ([2,3,4,5,10], none)) _ ?_;refine eCt ?_;refine eS fun K6 hn6 hr6 he6 => ?_;refine eO fun K7 hk7 => ?_;refine tC0 1 ?_;refine tC0 1 ?_;refine tS0 1 ?_;refine Or.inl (Or.inl ⟨_, k0, ?_⟩);refine tC0 3 ?_;refine tZ0 ?_;refine hk7 _ ?_;refine hn6 (some ([4,5], none)) _ ?_;refine hr3 _ ?_
    exact sf0
theorem enters_hBegin : Enters 100 := callFunc_enter Tryz.func100 rfl rfl
theorem enters_hFound : Enters 117 := callFunc_enter Tryz.func117 rfl rfl
theorem enters_hHeld : Enters 130 := callFunc_enter Tryz.func130 rfl rfl
theorem enters_hAgain : Enters 138 := callFunc_enter Tryz.func138 rfl rfl
theorem enters_fnP : ∀ p, Enters (fnP p)
  | .begin => enters_hBegin | .found => enters_hFound | .held => enters_hHeld | .again => enters_hAgain
theorem ok_fnP (s : ProtV) (g : GotV) : Ok (fnP s.pos) [.agg (cProt s), .agg (eGot g)] (pStep (protDo s g)) := by
  obtain ⟨loc, own, w, dn, pos⟩ := s
  cases pos
  · exact ok_hBegin ⟨loc, own, w, dn, .begin⟩ g
  · exact ok_hFound ⟨loc, own, w, dn, .found⟩ g
  · exact ok_hHeld ⟨loc, own, w, dn, .held⟩ g
  · exact ok_hAgain ⟨loc, own, w, dn, .again⟩ g
def protNext (s : ProtV) (g : GotV) : ProtV × ActM × Bool :=
  if s.fin = true then (s, zAct, true) else ((protDo s g).1, (protDo s g).2, (protDo s g).1.fin)
set_option maxRecDepth 20000 in
theorem ok_hpNext (s : ProtV) (g : GotV) : Ok 173 [.agg (cProt s), .agg (eGot g)] (.tup [.ifc 135 (.agg (cProt (protNext s g).1)), .agg (eAct4 (protNext s g).2.1), sB (protNext s g).2.2]) := by
  refine ok_of_tr Tryz.func173 tr_hpNext rfl ?_
  have hE := enters_fnP s.pos
  have hok := ok_fnP s g
  unfold protNext
  generalize protDo s g = R at hok ⊢
  obtain ⟨R1, R2⟩ := R
  obtain ⟨loc, own, w, dn, pos⟩ := s
  simp only at hE hok ⊢
  cases dn
  case true =>
    rw [if_pos rfl]
    unfold evFn sc_hpNext rv_hpNext
    refine eS fun K1 hn1 hr1 he1 => ?_;refine eO fun K2 hk2 => ?_;refine tL0 ?_;refine hk2 _ ?_;refine hn1 (some ([2,3,5], none)) _ ?_;refine eS fun K3 hn3 hr3 he3 => ?_;refine eS fun K4 hn4 hr4 he4 => ?_;refine eO fun K5 hk5 => ?_;refine tZ0 ?_;refine hk5 _ ?_;refine hn4 (some ([2,3,5,10], none)) _ ?_;refine eCt ?_;refine eS fun K6 hn6 hr6 he6 => ?_;refine eO fun K7 hk7 => ?_;refine tC0 1 ?_;refine tC0 4 ?_;refine tL0 ?_;refine hk7 _ ?_;refine hn6 (some ([4,5,6], none)) _ ?_;refine hr3 _ ?_;refine sg0 ?_
    rfl
  rw [if_neg (by simp)]
  unfold evFn sc_hpNext rv_hpNext
  refine eS fun K1 hn1 hr1 he1 => ?_;refine eO fun K2 hk2 => ?_;refine tL0 ?_;refine hk2 _ ?_;refine hn1 (some ([2,3,5], none)) _ ?_;refine eS fun K3 hn3 hr3 he3 => ?_;refine eS fun K4 hn4 hr4 he4 => ?_;refine eO fun K5 hk5 => ?_;refine tZ0 ?_;refine hk5 _ ?_;refine hn4 (some ([2,3,5,10], none)) _ ?_;refine eCf ?_;refine hn3 (some ([2,3,5], none)) _ ?_;refine eS fun K6 hn6 hr6 he6 => ?_;refine eO fun K7 hk7 => ?_;refine tC0 2 ?_;refine tC0 1 ?_;refine tC0 1 ?_;refine tS0 1 ?_;refine ⟨hE, _, hok, ?_⟩;refine tC0 6 ?_;refine tZ0 ?_;refine hk7 _ ?_;refine hn6 (some ([5,7,8], none)) _ ?_;refine eS fun _ hn8 _ _ => ?_;refine eP ([]) [4,5,6] [0,1,2,3,4,5,7] [6] (by kernel_rfl) (fun _ hk9 => ?_);refine sp0 ?_
  have F1 := @shPP
  refine evP_take 1 fun _ hk10 => ?_;refine sh1 F1 ?_;refine sd ?_;refine hk10 _ ?_;refine evP_take 2 fun _ hk11 => ?_;refine sh1 F1 ?_;refine sd ?_;refine hk11 _ ?_;refine evP_take 2 fun _ hk12 => ?_;refine sh1 F1 ?_;refine sd ?_;refine hk12 _ ?_;refine sh1 F1 ?_;refine hk9 _ (by rfl) (fun _ hk13 => ?_);refine sp0 ?_;refine toKL ?_;refine tZ F1 ?_;refine hk13 _ ?_;refine so0 ?_;refine hn8 (some ([4,5,6], none)) _ ?_
  exact sf1 F1
def letNext (s : LetV) : LetV × ActM × Bool := if 0 < s.pt then ({ s with pt := 2 }, zAct, true) else ({ s with pt := 1 }, ⟨4, s.own, zWord, zWord⟩, false)
theorem ok_hlNext (s : LetV) (g : GotV) : Ok 176 [.agg (cLet s), .agg (eGot g)] (.tup [.ifc 183 (.agg (cLet (letNext s).1)), .agg (eAct4 (letNext s).2.1), sB (letNext s).2.2]) := by
  refine ok_of_tr Tryz.func176 tr_hlNext rfl ?_
  obtain ⟨own, pt⟩ := s
  unfold letNext
  simp only
  by_cases h : 0 < pt
  · rw [if_pos h]
    unfold evFn sc_hlNext rv_hlNext
    have F1 := @h
    refine eS fun K1 hn1 hr1 he1 => ?_;refine eO fun K2 hk2 => ?_;refine tL F1 ?_;refine hk2 _ ?_;refine hn1 (some ([2,5], none)) _ ?_;refine eS fun K3 hn3 hr3 he3 => ?_;refine eS fun K4 hn4 hr4 he4 => ?_;refine eO fun K5 hk5 => ?_;refine tC 2 F1 ?_;refine tZ F1 ?_;refine hk5 _ ?_;refine hn4 (some ([2,5,9], none)) _ ?_;refine eCt ?_;refine eS fun K6 hn6 hr6 he6 => ?_;refine eO fun K7 hk7 => ?_;refine tZ F1 ?_;refine hk7 _ ?_;refine hn6 (some ([2,5], none)) _ ?_;refine eS fun K8 hn8 hr8 he8 => ?_;refine eO fun K9 hk9 => ?_;refine tC 1 F1 ?_;refine tC 4 F1 ?_;refine tL F1 ?_;refine hk9 _ ?_;refine hn8 (some ([4,5,6], none)) _ ?_;refine hr3 _ ?_
    exact sf1 F1
  · rw [if_neg h]
    unfold evFn sc_hlNext rv_hlNext
    have F1 := @h
    refine eS fun K1 hn1 hr1 he1 => ?_;refine eO fun K2 hk2 => ?_;refine tL F1 ?_;refine hk2 _ ?_;refine hn1 (some ([2,5], none)) _ ?_;refine eS fun K3 hn3 hr3 he3 => ?_;refine eS fun K4 hn4 hr4 he4 => ?_;refine eO fun K5 hk5 => ?_;refine tC 2 F1 ?_;refine tZ F1 ?_;refine hk5 _ ?_;refine hn4 (some ([2,5,9], none)) _ ?_;refine eCf ?_;refine hn3 (some ([2,5], none)) _ ?_;refine eS fun K6 hn6 hr6 he6 => ?_;refine eO fun K7 hk7 => ?_;refine tZ F1 ?_;refine hk7 _ ?_;refine hn6 (some ([2,5], none)) _ ?_;refine eS fun K8 hn8 hr8 he8 => ?_;refine eD [] (n := 6) fun K9 hk9 => ?_;refine sq0 ?_;refine fC 1 F1 ?_;refine fC 3 F1 ?_;refine fL F1 ?_;refine hk9 _ ?_;refine sr0 ?_;refine tC 1 F1 ?_;refine tL F1 ?_;refine hn8 (some ([4,5,6], none)) _ ?_
    exact sf1 F1
def metS (s : ScanV) (g : GotV) : List Int := if 0 < s.nxt ∧ g.word.val ≠ 0 then s.held ++ [g.word.val] else s.held
def scanNext (s : ScanV) (g : GotV) : ScanV × ActM × Bool :=
  if s.fin = true then (s, zAct, true)
  else if s.lay.threads < s.nxt + 1 then (⟨s.lay, s.nxt + 1, metS s g, true⟩, zAct, true)
  else (⟨s.lay, s.nxt + 1, metS s g, false⟩, ⟨5, atL s.lay 1 s.nxt 1, zWord, zWord⟩, false)
structure ScanOk (n : Nat) (s : ScanV) : Prop where
  nxt : 0 ≤ s.nxt ∧ s.nxt ≤ n
  held : s.held.length ≤ n
theorem scan_keeps {n : Nat} {s : ScanV} (g : GotV) (h : ScanOk n s) : ScanOk (n + 1) (scanNext s g).1 := by
  obtain ⟨⟨h1, h2⟩, h3⟩ := h
  have hm : (metS s g).length ≤ n + 1 := by
    unfold metS
    split
    · simp; omega
    · omega
  unfold scanNext
  split
  · exact ⟨⟨h1, by show s.nxt ≤ ((n + 1 : Nat) : Int); omega⟩, by show s.held.length ≤ n + 1; omega⟩
  · split
    · exact ⟨⟨by show 0 ≤ s.nxt + 1; omega, by show s.nxt + 1 ≤ _; omega⟩, hm⟩
    · exact ⟨⟨by show 0 ≤ s.nxt + 1; omega, by show s.nxt + 1 ≤ _; omega⟩, hm⟩
set_option maxHeartbeats 4000000 in
theorem ok_hsNext {n : Nat} (s : ScanV) (g : GotV) (h : ScanOk n s) (hn : n ≤ 900) : Ok 172 [.agg (cScan s), .agg (eGot g)] (.tup [.ifc 132 (.agg (cScan (scanNext s g).1)), .agg (eAct4 (scanNext s g).2.1), sB (scanNext s g).2.2]) := by
  refine ok_of_tr Tryz.func172 tr_hsNext rfl ?_
  obtain ⟨⟨h1, h2⟩, h3⟩ := h
  have k0 := ok_layHaz s.lay (s.nxt + 1)
  obtain ⟨⟨lt, lc, lb⟩, nxt, held, dn⟩ := s
  obtain ⟨⟨v, wv, wr⟩, ok⟩ := g
  simp only at h1 h2 h3 k0
  have w0 : IntKind.i64.wrap (nxt + 1) = nxt + 1 := by rw [IntKind.wrap_i64]; omega
  rw [show nxt + 1 - 1 = nxt by omega, show IntKind.i64.wrap nxt = nxt by rw [IntKind.wrap_i64]; omega] at k0
  unfold scanNext metS
  simp only
  cases dn
  case true =>
    rw [if_pos rfl]
    unfold evFn sc_hsNext rv_hsNext
    refine eS fun K1 hn1 hr1 he1 => ?_;refine eO fun K2 hk2 => ?_;refine tL0 ?_;refine hk2 _ ?_;refine hn1 (some ([2,3,5], none)) _ ?_;refine eS fun K3 hn3 hr3 he3 => ?_;refine eS fun K4 hn4 hr4 he4 => ?_;refine eO fun K5 hk5 => ?_;refine tZ0 ?_;refine hk5 _ ?_;refine hn4 (some ([2,3,5,8], none)) _ ?_;refine eCt ?_;refine eS fun K6 hn6 hr6 he6 => ?_;refine eO fun K7 hk7 => ?_;refine tC0 1 ?_;refine tC0 4 ?_;refine tL0 ?_;refine hk7 _ ?_;refine hn6 (some ([4,5,6], none)) _ ?_;refine hr3 _ ?_;refine sg0 ?_
    rfl
  rw [if_neg (by simp)]
  have w1 : (held.length : Int) ≤ (held.length : Int) := Int.le_refl _
  have w2 : held.length + 1 ≤ 1000000 := by omega
  have w3 : (held.length + 1) * 8 ≤ 140737488355328 := by omega
  have w4 : List.take held.length (held.map eH1) = held.map eH1 := List.take_of_length_le (by simp)
  by_cases h4 : lt < nxt + 1
  · rw [if_pos h4]
    by_cases h5 : 0 < nxt
    · by_cases h6 : v = 0
      · subst h6
        rw [if_neg (fun h => h.2 rfl)]
        unfold evFn sc_hsNext rv_hsNext
        have F1 := And.intro @h4 (And.intro @h5 @w0)
        refine eS fun K1 hn1 hr1 he1 => ?_;refine eO fun K2 hk2 => ?_;refine tL F1 ?_;refine hk2 _ ?_;refine hn1 (some ([2,3,5], none)) _ ?_;refine eS fun K3 hn3 hr3 he3 => ?_;refine eS fun K4 hn4 hr4 he4 => ?_;refine eO fun K5 hk5 => ?_;refine tZ F1 ?_;refine hk5 _ ?_;refine hn4 (some ([2,3,5,8], none)) _ ?_;refine eCf ?_;refine hn3 (some ([2,3,5], none)) _ ?_;refine eS fun K6 hn6 hr6 he6 => ?_;refine eS fun K7 hn7 hr7 he7 => ?_;refine eO fun K8 hk8 => ?_;refine tC 2 F1 ?_;refine tC 1 F1 ?_;refine tC 4 F1 ?_;refine tC 1 F1 ?_;refine tL F1 ?_;refine hk8 _ ?_;refine hn7 (some ([2,3,5,20], none)) _ ?_;refine eCf ?_;refine hn6 (some ([2,5], none)) _ ?_;refine eS fun K9 hn9 hr9 he9 => ?_;refine eO fun K10 hk10 => ?_;refine tC 2 F1 ?_;refine tC 1 F1 ?_;refine tZ F1 ?_;refine hk10 _ ?_;refine hn9 (some ([2,5], none)) _ ?_;refine eS fun K11 hn11 hr11 he11 => ?_;refine eS fun K12 hn12 hr12 he12 => ?_
        refine eO fun K13 hk13 => ?_;refine tC 2 F1 ?_;refine tC 3 F1 ?_;refine tZ F1 ?_;refine hk13 _ ?_;refine hn12 (some ([2,5,45], none)) _ ?_;refine eCt ?_;refine eS fun K14 hn14 hr14 he14 => ?_;refine eO fun K15 hk15 => ?_;refine tZ F1 ?_;refine hk15 _ ?_;refine hn14 (some ([2,5], none)) _ ?_;refine eS fun K16 hn16 hr16 he16 => ?_;refine eO fun K17 hk17 => ?_;refine tC 1 F1 ?_;refine tC 4 F1 ?_;refine tL F1 ?_;refine hk17 _ ?_;refine hn16 (some ([4,5,6], none)) _ ?_;refine hr11 _ ?_
        exact sf1 F1
      · rw [if_pos ⟨h5, h6⟩]
        simp only [cScan, List.map_append, List.map_cons, List.map_nil]
        have d6 : (v != 0) = true := by simpa using h6
        unfold evFn sc_hsNext rv_hsNext
        have F1 := And.intro @h4 (And.intro @h5 (And.intro @w0 (And.intro @d6 (And.intro @w2 (And.intro @w3 @w4)))))
        refine eS fun K1 hn1 hr1 he1 => ?_;refine eO fun K2 hk2 => ?_;refine tL F1 ?_;refine hk2 _ ?_;refine hn1 (some ([2,3,5], none)) _ ?_;refine eS fun K3 hn3 hr3 he3 => ?_;refine eS fun K4 hn4 hr4 he4 => ?_;refine eO fun K5 hk5 => ?_;refine tZ F1 ?_;refine hk5 _ ?_;refine hn4 (some ([2,3,5,8], none)) _ ?_;refine eCf ?_;refine hn3 (some ([2,3,5], none)) _ ?_;refine eS fun K6 hn6 hr6 he6 => ?_;refine eS fun K7 hn7 hr7 he7 => ?_;refine eO fun K8 hk8 => ?_;refine tC 2 F1 ?_;refine tC 1 F1 ?_;refine tC 4 F1 ?_;refine tC 1 F1 ?_;refine tL F1 ?_;refine hk8 _ ?_;refine hn7 (some ([2,3,5,20], none)) _ ?_;refine eCt ?_;refine eD [] (n := 13) fun K9 hk9 => ?_;refine sq0 ?_;refine fC 2 F1 ?_;refine fC 2 F1 ?_;refine fC 3 F1 ?_;refine fC 2 F1 ?_;refine fC 3 F1 ?_;refine fZ F1 ?_;refine hk9 _ ?_;refine sr0 ?_;refine tC 1 F1 ?_;refine tZ F1 ?_;refine hn6 (some ([2,5], none)) _ ?_;refine eS fun K11 hn11 hr11 he11 => ?_
        refine eO fun K12 hk12 => ?_;refine tC 2 F1 ?_;refine tC 1 F1 ?_;refine tZ F1 ?_;refine hk12 _ ?_;refine hn11 (some ([2,5], none)) _ ?_;refine eS fun K13 hn13 hr13 he13 => ?_;refine eS fun K14 hn14 hr14 he14 => ?_;refine eO fun K15 hk15 => ?_;refine tC 2 F1 ?_;refine tC 3 F1 ?_;refine tZ F1 ?_;refine hk15 _ ?_;refine hn14 (some ([2,5,45], none)) _ ?_;refine eCt ?_;refine eS fun K16 hn16 hr16 he16 => ?_;refine eO fun K17 hk17 => ?_;refine tZ F1 ?_;refine hk17 _ ?_;refine hn16 (some ([2,5], none)) _ ?_;refine eS fun _ hn18 _ _ => ?_;refine eO fun _ hk19 => ?_;refine tC 1 F1 ?_;refine tC 4 F1 ?_;refine tL F1 ?_;refine hk19 _ ?_;refine hn18 (some ([4,5,6], none)) _ ?_;refine hr13 _ ?_
        exact sf1 F1
    · rw [if_neg (fun h => h5 h.1)]
      unfold evFn sc_hsNext rv_hsNext
      have F1 := And.intro @h4 (And.intro @h5 @w0)
      refine eS fun K1 hn1 hr1 he1 => ?_;refine eO fun K2 hk2 => ?_;refine tL F1 ?_;refine hk2 _ ?_;refine hn1 (some ([2,3,5], none)) _ ?_;refine eS fun K3 hn3 hr3 he3 => ?_;refine eS fun K4 hn4 hr4 he4 => ?_;refine eO fun K5 hk5 => ?_;refine tZ F1 ?_;refine hk5 _ ?_;refine hn4 (some ([2,3,5,8], none)) _ ?_;refine eCf ?_;refine hn3 (some ([2,3,5], none)) _ ?_;refine eS fun K6 hn6 hr6 he6 => ?_;refine eS fun K7 hn7 hr7 he7 => ?_;refine eO fun K8 hk8 => ?_;refine tC 2 F1 ?_;refine tC 1 F1 ?_;refine tC 4 F1 ?_;refine tC 1 F1 ?_;refine tL F1 ?_;refine hk8 _ ?_;refine hn7 (some ([2,3,5,20], none)) _ ?_;refine eCf ?_;refine hn6 (some ([2,5], none)) _ ?_;refine eS fun K9 hn9 hr9 he9 => ?_;refine eO fun K10 hk10 => ?_;refine tC 2 F1 ?_;refine tC 1 F1 ?_;refine tZ F1 ?_;refine hk10 _ ?_;refine hn9 (some ([2,5], none)) _ ?_;refine eS fun K11 hn11 hr11 he11 => ?_;refine eS fun K12 hn12 hr12 he12 => ?_
      refine eO fun K13 hk13 => ?_;refine tC 2 F1 ?_;refine tC 3 F1 ?_;refine tZ F1 ?_;refine hk13 _ ?_;refine hn12 (some ([2,5,45], none)) _ ?_;refine eCt ?_;refine eS fun K14 hn14 hr14 he14 => ?_;refine eO fun K15 hk15 => ?_;refine tZ F1 ?_;refine hk15 _ ?_;refine hn14 (some ([2,5], none)) _ ?_;refine eS fun K16 hn16 hr16 he16 => ?_;refine eO fun K17 hk17 => ?_;refine tC 1 F1 ?_;refine tC 4 F1 ?_;refine tL F1 ?_;refine hk17 _ ?_;refine hn16 (some ([4,5,6], none)) _ ?_;refine hr11 _ ?_
      exact sf1 F1
  · rw [if_neg h4]
    by_cases h5 : 0 < nxt
    · by_cases h6 : v = 0
      · subst h6
        rw [if_neg (fun h => h.2 rfl)]
        unfold evFn sc_hsNext rv_hsNext
        have F1 := And.intro @h4 (And.intro @h5 @w0)
        refine eS fun K1 hn1 hr1 he1 => ?_;refine eO fun K2 hk2 => ?_;refine tL F1 ?_;refine hk2 _ ?_;refine hn1 (some ([2,3,5], none)) _ ?_;refine eS fun K3 hn3 hr3 he3 => ?_;refine eS fun K4 hn4 hr4 he4 => ?_;refine eO fun K5 hk5 => ?_;refine tZ F1 ?_;refine hk5 _ ?_;refine hn4 (some ([2,3,5,8], none)) _ ?_;refine eCf ?_;refine hn3 (some ([2,3,5], none)) _ ?_;refine eS fun K6 hn6 hr6 he6 => ?_;refine eS fun K7 hn7 hr7 he7 => ?_;refine eO fun K8 hk8 => ?_;refine tC 2 F1 ?_;refine tC 1 F1 ?_;refine tC 4 F1 ?_;refine tC 1 F1 ?_;refine tL F1 ?_;refine hk8 _ ?_;refine hn7 (some ([2,3,5,20], none)) _ ?_;refine eCf ?_;refine hn6 (some ([2,5], none)) _ ?_;refine eS fun K9 hn9 hr9 he9 => ?_;refine eO fun K10 hk10 => ?_;refine tC 2 F1 ?_;refine tC 1 F1 ?_;refine tZ F1 ?_;refine hk10 _ ?_;refine hn9 (some ([2,5], none)) _ ?_;refine eS fun K11 hn11 hr11 he11 => ?_;refine eS fun K12 hn12 hr12 he12 => ?_
        refine eO fun K13 hk13 => ?_;refine tC 2 F1 ?_;refine tC 3 F1 ?_;refine tZ F1 ?_;refine hk13 _ ?_;refine hn12 (some ([2,5,45], none)) _ ?_;refine eCf ?_;refine hn11 (some ([2,5], none)) _ ?_;refine eS fun K14 hn14 hr14 he14 => ?_;refine eD [] (n := 9) fun K15 hk15 => ?_;refine sq0 ?_;refine fC 1 F1 ?_;refine fC 3 F1 ?_;refine fC 2 F1 ?_;refine fS 1 F1 ?_;refine ⟨_, k0, ?_⟩;refine fL F1 ?_;refine hk15 _ ?_;refine sr0 ?_;refine tC 1 F1 ?_;refine tL F1 ?_;refine hn14 (some ([4,5,6], none)) _ ?_
        exact sf1 F1
      · rw [if_pos ⟨h5, h6⟩]
        simp only [cScan, List.map_append, List.map_cons, List.map_nil]
        have d6 : (v != 0) = true := by simpa using h6
        unfold evFn sc_hsNext rv_hsNext
        have F1 := And.intro @h4 (And.intro @h5 (And.intro @w0 (And.intro @d6 (And.intro @w2 (And.intro @w3 @w4)))))
        refine eS fun K1 hn1 hr1 he1 => ?_;refine eO fun K2 hk2 => ?_;refine tL F1 ?_;refine hk2 _ ?_;refine hn1 (some ([2,3,5], none)) _ ?_;refine eS fun K3 hn3 hr3 he3 => ?_;refine eS fun K4 hn4 hr4 he4 => ?_;refine eO fun K5 hk5 => ?_;refine tZ F1 ?_;refine hk5 _ ?_;refine hn4 (some ([2,3,5,8], none)) _ ?_;refine eCf ?_;refine hn3 (some ([2,3,5], none)) _ ?_;refine eS fun K6 hn6 hr6 he6 => ?_;refine eS fun K7 hn7 hr7 he7 => ?_;refine eO fun K8 hk8 => ?_;refine tC 2 F1 ?_;refine tC 1 F1 ?_;refine tC 4 F1 ?_;refine tC 1 F1 ?_;refine tL F1 ?_;refine hk8 _ ?_;refine hn7 (some ([2,3,5,20], none)) _ ?_;refine eCt ?_;refine eD [] (n := 13) fun K9 hk9 => ?_;refine sq0 ?_;refine fC 2 F1 ?_;refine fC 2 F1 ?_;refine fC 3 F1 ?_;refine fC 2 F1 ?_;refine fC 3 F1 ?_;refine fZ F1 ?_;refine hk9 _ ?_;refine sr0 ?_;refine tC 1 F1 ?_;refine tZ F1 ?_;refine hn6 (some ([2,5], none)) _ ?_;refine eS fun K11 hn11 hr11 he11 => ?_
        refine eO fun K12 hk12 => ?_;refine tC 2 F1 ?_;refine tC 1 F1 ?_;refine tZ F1 ?_;refine hk12 _ ?_;refine hn11 (some ([2,5], none)) _ ?_;refine eS fun K13 hn13 hr13 he13 => ?_;refine eS fun K14 hn14 hr14 he14 => ?_;refine eO fun K15 hk15 => ?_;refine tC 2 F1 ?_;refine tC 3 F1 ?_;refine tZ F1 ?_;refine hk15 _ ?_;refine hn14 (some ([2,5,45], none)) _ ?_;refine eCf ?_;refine hn13 (some ([2,5], none)) _ ?_;refine eS fun K16 hn16 hr16 he16 => ?_;refine eD [.own 3] (n := 9) fun K17 hk17 => ?_;refine sq0 ?_;refine fC 1 F1 ?_;refine fC 3 F1 ?_;refine fC 2 F1 ?_;refine fS 1 F1 ?_;refine ⟨_, k0, ?_⟩;refine fL F1 ?_;refine hk17 _ ?_;refine sr0 ?_;refine tC 1 F1 ?_;refine tL F1 ?_;refine hn16 (some ([4,5,6], none)) _ ?_
        exact sf1 F1
    · rw [if_neg (fun h => h5 h.1)]
      unfold evFn sc_hsNext rv_hsNext
      have F1 := And.intro @h4 (And.intro @h5 @w0)
      refine eS fun K1 hn1 hr1 he1 => ?_;refine eO fun K2 hk2 => ?_;refine tL F1 ?_;refine hk2 _ ?_;refine hn1 (some ([2,3,5], none)) _ ?_;refine eS fun K3 hn3 hr3 he3 => ?_;refine eS fun K4 hn4 hr4 he4 => ?_;refine eO fun K5 hk5 => ?_;refine tZ F1 ?_;refine hk5 _ ?_;refine hn4 (some ([2,3,5,8], none)) _ ?_;refine eCf ?_;refine hn3 (some ([2,3,5], none)) _ ?_;refine eS fun K6 hn6 hr6 he6 => ?_;refine eS fun K7 hn7 hr7 he7 => ?_;refine eO fun K8 hk8 => ?_;refine tC 2 F1 ?_;refine tC 1 F1 ?_;refine tC 4 F1 ?_;refine tC 1 F1 ?_;refine tL F1 ?_;refine hk8 _ ?_;refine hn7 (some ([2,3,5,20], none)) _ ?_;refine eCf ?_;refine hn6 (some ([2,5], none)) _ ?_;refine eS fun K9 hn9 hr9 he9 => ?_;refine eO fun K10 hk10 => ?_;refine tC 2 F1 ?_;refine tC 1 F1 ?_;refine tZ F1 ?_;refine hk10 _ ?_;refine hn9 (some ([2,5], none)) _ ?_;refine eS fun K11 hn11 hr11 he11 => ?_;refine eS fun K12 hn12 hr12 he12 => ?_
      refine eO fun K13 hk13 => ?_;refine tC 2 F1 ?_;refine tC 3 F1 ?_;refine tZ F1 ?_;refine hk13 _ ?_;refine hn12 (some ([2,5,45], none)) _ ?_;refine eCf ?_;refine hn11 (some ([2,5], none)) _ ?_;refine eS fun K14 hn14 hr14 he14 => ?_;refine eD [] (n := 9) fun K15 hk15 => ?_;refine sq0 ?_;refine fC 1 F1 ?_;refine fC 3 F1 ?_;refine fC 2 F1 ?_;refine fS 1 F1 ?_;refine ⟨_, k0, ?_⟩;refine fL F1 ?_;refine hk15 _ ?_;refine sr0 ?_;refine tC 1 F1 ?_;refine tL F1 ?_;refine hn14 (some ([4,5,6], none)) _ ?_
      exact sf1 F1
theorem next_hprot : MethodIs 135 "Next" 173 := by intro v w; kernel_rfl
theorem enters_hprot : Enters 173 := callFunc_enter Tryz.func173 rfl rfl
theorem next_hlet : MethodIs 183 "Next" 176 := by intro v w; kernel_rfl
theorem enters_hlet : Enters 176 := callFunc_enter Tryz.func176 rfl rfl
theorem next_hscan : MethodIs 132 "Next" 172 := by intro v w; kernel_rfl
theorem enters_hscan : Enters 172 := callFunc_enter Tryz.func172 rfl rfl
inductive HzV
  | prot (s : ProtV)
  | clr (s : LetV)
  | scan (s : ScanV)
  | put (s : AtmV)
def hzEnc : HzV → Sh
  | .prot s => .ifc 135 (.agg (cProt s))
  | .clr s => .ifc 183 (.agg (cLet s))
  | .scan s => .ifc 132 (.agg (cScan s))
  | .put s => .ifc 185 (.agg (cAtm s))
def hzNext : HzV → GotV → HzV × ActM × Bool
  | .prot s, g => (.prot (protNext s g).1, (protNext s g).2)
  | .clr s, _ => (.clr (letNext s).1, (letNext s).2)
  | .scan s, g => (.scan (scanNext s g).1, (scanNext s g).2)
  | .put s, g => (.put (atmNext s g).1, (atmNext s g).2)
def hzGood (n : Nat) : HzV → Prop
  | .prot _ => True
  | .clr _ => True
  | .scan s => ScanOk n s
  | .put s => atm.good n s
abbrev hz : Coder where
  St := HzV
  enc := hzEnc
  next := hzNext
  good := hzGood
  up {n k s} h h' := by
    cases s with
    | prot s => trivial
    | clr s => trivial
    | scan s =>
      have h : ScanOk n s := h
      exact ⟨⟨h.nxt.1, by have := h.nxt.2; omega⟩, by have := h.held; omega⟩
    | put s => exact atm.up (k := k) (show atm.good n s from h) h'
  keeps {n s} g h := by
    cases s with
    | prot s => trivial
    | clr s => trivial
    | scan s => exact scan_keeps g h
    | put s => exact atm.keeps g (show atm.good n s from h)
  shape s := by cases s <;> exact ⟨_, _, rfl⟩
  ok {n s} g h hn := by
    cases s with
    | prot s => exact ⟨_, _, _, rfl, next_hprot, enters_hprot, ok_hpNext s g⟩
    | clr s => exact ⟨_, _, _, rfl, next_hlet, enters_hlet, ok_hlNext s g⟩
    | scan s => exact ⟨_, _, _, rfl, next_hscan, enters_hscan, ok_hsNext s g h hn⟩
    | put s => exact ⟨_, _, _, rfl, next_atm, enters_atm, ok_aNext s g h hn⟩
end Go.Proofs.YtkoibcblmgmdmaaGreatDoor
