/-
  Layer 12 by shadows: the law's plan; the reference's sets of used blocks.
-/
import Derived.Test.YtkmbcjnaaokilaaGreatDoorK12n
namespace Go.Proofs.YtkmbcjnaaokilaaGreatDoor
set_option linter.unusedSimpArgs false
set_option linter.unusedVariables false
open Go.RowKit Go.Maps
def xC (t b : Int) : b1 := ⟨1 + t % 4,8,1 + b % 64⟩
theorem akH {t b : Int} (aL : 0 ≤ t) (aI : 0 ≤ b) : e4 (xC t b) = 0 := by
 obtain ⟨i,aq⟩ : ∃ i : Nat,t % 4 = (i : Int) ∧ i < 4 := ⟨(t % 4).toNat,by omega,by omega⟩
 obtain ⟨j,aN⟩ : ∃ j : Nat,b % 64 = (j : Int) ∧ j < 64 := ⟨(b % 64).toNat,by omega,by omega⟩
 unfold xC
 rw [aq.1,aN.1]
 have : ∀ i : Nat,i < 4 → ∀ j : Nat,j < 64 → e4 ⟨1 + (i : Int),8,1 + (j : Int)⟩ = 0 := by decide +kernel
 exact this i aq.2 j aN.2
theorem ajL {t b : Int} (aL : 0 ≤ t ∧ t ≤ 255) (aI : 0 ≤ b ∧ b ≤ 255) : cq 9 [.v (.int .u8 t),.v (.int .u8 b)] (.agg (fu (xC t b))) := by
 refine df Tryz.func9 anx rfl ?_
 have fB : t.tmod 4 = t % 4 := by rw [Int.tmod_eq_emod_of_nonneg aL.1]
 have cn : b.tmod 64 = b % 64 := by rw [Int.tmod_eq_emod_of_nonneg aI.1]
 have dM : IntKind.i64.wrap (t % 4) = t % 4 := by rw [IntKind.wrap_i64]; omega
 have fH : IntKind.i64.wrap (b % 64) = b % 64 := by rw [IntKind.wrap_i64]; omega
 have iw : IntKind.i64.wrap (1 + t % 4) = 1 + t % 4 := by rw [IntKind.wrap_i64]; omega
 have nG : IntKind.i64.wrap (1 + b % 64) = 1 + b % 64 := by rw [IntKind.wrap_i64]; omega
 unfold bK Wt Vl;delta ab aQ aa ay
 have ad := And.intro @fB (And.intro @cn (And.intro @dM (And.intro @fH (And.intro @iw @nG))))
 refine ae fun _ aK _ _ => ai fun _ aH => ?_;refine al ad ?_;refine aH _ (aK (some ([0,1,4],none)) _ (ae fun _ aP _ _ => ai fun _ bk => ?_));refine ag 2 ad ?_;refine ag 2 ad ?_;refine ag 2 ad ?_;refine ag 2 ad ?_;refine aS ad ?_;refine bk _ (aP (some ([4],none)) _ ?_)
 exact cQ ad
def Y7 (g : Nat) (a : List Nat) (b : Nat) (k : Nat) (S : ak) : Prop :=
 ∃ i : Nat,i ≤ a.length ∧ k = a.length - i ∧ (∀ j,j < i → a[j]? ≠ some b) ∧ S = ⟨[(0,.au 1 g (a.map hq)),(1,aG b),(5,aG i)],[],0⟩
set_option maxHeartbeats 2000000 in
theorem T7 (g : Nat) (a : List Nat) (b : Nat) (a9 : a.length ≤ 1000000) : cq 14 [.au 1 g (a.map hq),aG b] (eA (a.contains b)) := by
 refine df Tryz.func14 aoe rfl ?_
 unfold bK WZ VO;delta ab aa ay a3
 refine ae fun _ aK _ _ => ai fun _ aH => ?_;refine cE ?_;refine aH _ (aK (some ([0,1],none)) _ (ae fun _ aP bx _ => ae fun _ bI _ _ => ai fun _ b0 => ?_));refine cE ?_;refine b0 _ (bI (some ([0,1,5],none)) _ (cj fun _ _ lA c5 _ => ?_));refine ie (Y7 g a b) (a.length) (some ([0,1,5],none)) ([]) ?_ ?_
 ·try refine dR ?_
  exact ⟨0,by omega,by omega,fun j aN => absurd aN (by omega),by rfl⟩
 ·intro k bT aW
  obtain ⟨i,aq,rfl,aN,rfl⟩ := aW
  have dZ : i = a.length ∨ a[i]? = some b ∨ (∃ x,a[i]? = some x ∧ x ≠ b) := by
   rcases Nat.lt_or_ge i a.length with h | h
   ·have af := List.getElem?_eq_getElem h
    by_cases e : a[i] = b
    ·exact .inr (.inl (by rw [af,e]))
    ·exact .inr (.inr ⟨_,af,e⟩)
   ·exact .inl (by omega)
  intro _ cz ey fp
  rcases dZ with ea | e7 | ⟨x,e7,dj⟩
  ·skip
   have cn : ¬ (i : Int) < (a.length : Int) := by omega
   have a1 : a.contains b = false := by
    rw [List.contains_eq_any_beq,List.any_eq_false]
    intro x ar
    obtain ⟨j,yC,rfl⟩ := List.getElem_of_mem ar
    have aj := aN j (by omega)
    rw [List.getElem?_eq_getElem yC] at aj
    simp; intro e; exact aj (by rw [e])
   have ad := And.intro @cn @a1
   refine ae fun _ _ _ gw => ae fun _ cR _ _ => ai fun _ cK => ?_;refine aS ad ?_;refine cK _ (cR (some ([0,1,5,9],none)) _ (bs (gw 0 _ (fp 0 _ (lA _ (aP (some ([],none)) _ (ae fun _ cr _ _ => ai fun _ cD => ?_)))))));refine al ad ?_;refine cD _ (cr (some ([4],none)) _ ?_)
   exact cQ ad
  ·skip
   have bQ := (List.getElem?_eq_some_iff.1 e7).1
   have cn : (i : Int) < (a.length : Int) := by omega
   have a1 : a.contains b = true := by rw [List.contains_iff_mem]; exact List.mem_of_getElem? e7
   have aD := And.intro @cn (And.intro @e7 @a1)
   refine ae fun _ dF _ _ => ae fun _ fx _ _ => ai fun _ eJ => ?_;refine aS aD ?_;refine eJ _ (fx (some ([0,1,5,9],none)) _ (bU (dF (some ([0,1,5],none)) _ (ae fun _ _ r4 _ => cj fun _ _ _ yW _ => ae fun _ hM _ _ => ai fun _ hr => ?_))));refine ag 3 aD ?_;refine ag 1 aD ?_;refine aS aD ?_;refine hr _ (hM (some ([0,1,5,17],none)) _ (bU (ae fun _ hZ _ _ => ai fun _ hh => ?_)));refine al aD ?_;refine hh _ (hZ (some ([4],none)) _ (yW _ (r4 _ (ey _ (c5 _ (bx _ ?_))))))
   exact cQ aD
  ·skip
   have bQ := (List.getElem?_eq_some_iff.1 e7).1
   have cn : (i : Int) < (a.length : Int) := by omega
   have dM : IntKind.i64.wrap ((i : Int) + 1) = ((i + 1 : Nat) : Int) := by rw [IntKind.wrap_i64]; omega
   have fH : ((x : Int) == (b : Int)) = false := by rw [beq_eq_false_iff_ne]; omega
   have bc := And.intro @cn (And.intro @dM (And.intro @fH @e7))
   refine ae fun _ lu _ _ => ae fun _ iu _ _ => ai fun _ iq => ?_;refine aS bc ?_;refine iq _ (iu (some ([0,1,5,9],none)) _ (bU (lu (some ([0,1,5],none)) _ (ae fun _ ns _ _ => cj fun _ lv _ _ _ => ae fun _ iQ _ _ => ai fun _ iO => ?_))));refine ag 3 bc ?_;refine ag 1 bc ?_;refine aS bc ?_;refine iO _ (iQ (some ([0,1,5,17],none)) _ (bs (lv _ (ns (some ([0,1,5],none)) _ (ai fun _ hY => ?_)))));refine ag 2 bc ?_;refine al bc ?_;refine hY _ ?_;refine cz (a.length - (i + 1)) (some ([0,1,5],none)) _ ?_ ?_
   all_goals try refine dR ?_
   ·omega
   ·refine ⟨i + 1,by omega,rfl,fun j kA => ?_,rfl⟩
    rcases Nat.lt_or_ge j i with h | h
    ·exact aN j h
    ·obtain rfl : j = i := by omega
     rw [e7]; intro e; exact dj (Option.some.inj e)
def aaE (g : Nat) (a : List Nat) (b : Nat) (k : Nat) (S : ak) : Prop :=
 ∃ i : Nat,i ≤ a.length ∧ k = a.length - i ∧ S = ⟨[(0,.au 1 g (a.map hq)),(1,aG b),(5,.own 0),(6,aG i)],[(0,.row 3 1 (((a.take i).filter (fun x => x != b)).map hq))],1⟩
set_option maxHeartbeats 2000000 in
theorem akc (g : Nat) (a : List Nat) (b : Nat) (a9 : a.length ≤ 1000000) : cq 15 [.au 1 g (a.map hq),aG b] (.au 1 0 ((a.filter (fun x => x != b)).map hq)) := by
 refine df Tryz.func15 aoh rfl ?_
 unfold bK W1 VQ;delta ab aa ay
 refine ae fun _ aK _ _ => ai fun _ aH => ?_;refine cE ?_;refine aH _ (aK (some ([0,1],none)) _ (ae fun _ aP _ _ => ai fun _ bk => ?_));refine cE ?_;refine bk _ (aP (some ([0,1,5],none)) _ (ae fun _ bV _ _ => ae fun _ bp _ _ => ai fun _ bE => ?_));refine cE ?_;refine bE _ (bp (some ([0,1,5,6],none)) _ (cj fun _ _ vD _ _ => ?_));refine ie (aaE g a b) (a.length) (some ([0,1,5,6],some ([0],1))) ([.slot 5 (some 3) 1]) ?_ ?_
 ·try refine dR ?_
  exact ⟨0,by omega,by omega,by rfl⟩
 ·intro k bT aW
  obtain ⟨i,aq,rfl,rfl⟩ := aW
  have dZ : i = a.length ∨ a[i]? = some b ∨ (∃ x,a[i]? = some x ∧ x ≠ b) := by
   rcases Nat.lt_or_ge i a.length with h | h
   ·have af := List.getElem?_eq_getElem h
    by_cases e : a[i] = b
    ·exact .inr (.inl (by rw [af,e]))
    ·exact .inr (.inr ⟨_,af,e⟩)
   ·exact .inl (by omega)
  intro _ cR _ gQ
  rcases dZ with ea | e7 | ⟨x,e7,dj⟩
  ·skip
   have cn : ¬ (i : Int) < (a.length : Int) := by omega
   have a1 : a.take i = a := by rw [ea,List.take_length]
   have ad := And.intro @cn @a1
   refine ae fun _ _ _ jb => ae fun _ cr _ _ => ai fun _ cD => ?_;refine aS ad ?_;refine cD _ (cr (some ([0,1,5,6,10],none)) _ (bs (jb 0 _ (gQ 0 _ (vD _ (bV (some ([5],none)) _ (ae fun _ dF _ _ => ai fun _ dq => ?_)))))));refine al ad ?_;refine dq _ (dF (some ([4],none)) _ ?_)
   exact cQ ad
  ·skip
   have bQ := (List.getElem?_eq_some_iff.1 e7).1
   have cn : (i : Int) < (a.length : Int) := by omega
   have dM : IntKind.i64.wrap ((i : Int) + 1) = ((i + 1 : Nat) : Int) := by rw [IntKind.wrap_i64]; omega
   have ao : ((a.take (i + 1)).filter (fun x => x != b)).map hq = ((a.take i).filter (fun x => x != b)).map hq := by
    rw [List.take_add_one,e7,List.filter_append,List.map_append]; simp
   have aD := And.intro @cn (And.intro @dM @e7)
   refine ae fun _ gl _ _ => ae fun _ fF _ _ => ai fun _ eF => ?_;refine aS aD ?_;refine eF _ (fF (some ([0,1,5,6,10],none)) _ (bU (gl (some ([0,1,5,6],none)) _ (ae fun _ hM _ _ => cj fun _ hJ _ _ _ => ae fun _ hZ _ _ => ai fun _ hh => ?_))));refine ag 3 aD ?_;refine ag 1 aD ?_;refine aS aD ?_;refine hh _ (hZ (some ([0,1,5,6,18],none)) _ (bs (hJ _ (hM (some ([0,1,5,6],none)) _ (ai fun _ gf => ?_)))));refine ag 2 aD ?_;refine al aD ?_;refine gf _ ?_;refine cR (a.length - (i + 1)) (some ([0,1,5,6],some ([0],1))) _ ?_ ?_
   all_goals try refine dR ?_
   ·omega
   ·exact ⟨i + 1,by omega,by omega,by rw [ao]⟩
  ·skip
   have bQ := (List.getElem?_eq_some_iff.1 e7).1
   have cn : (i : Int) < (a.length : Int) := by omega
   have dM : IntKind.i64.wrap ((i : Int) + 1) = ((i + 1 : Nat) : Int) := by rw [IntKind.wrap_i64]; omega
   have fH : ((x : Int) != (b : Int)) = true := by rw [bne_iff_ne]; omega
   have ao : ((a.take (i + 1)).filter (fun x => x != b)).map hq = ((a.take i).filter (fun x => x != b)).map hq ++ [[aG x]] := by
    rw [List.take_add_one,e7,List.filter_append,List.map_append]; simp [dj]
   have iw : ((a.take i).filter (fun x => x != b)).length ≤ 1000000 := Nat.le_trans (List.length_filter_le _ _) (by simp; omega)
   have nG : ((a.take i).filter (fun x => x != b)).length + 1 ≤ 140737488355328 := by omega
   have km : (((a.take i).filter (fun x => x != b)).length + 1) * 8 ≤ 140737488355328 := by omega
   have bc := And.intro @cn (And.intro @dM (And.intro @fH (And.intro @e7 (And.intro @nG @km))))
   refine ae fun _ iu _ _ => ae fun _ iP _ _ => ai fun _ gD => ?_;refine aS bc ?_;refine gD _ (iP (some ([0,1,5,6,10],none)) _ (bU (iu (some ([0,1,5,6],none)) _ (ae fun _ lv _ _ => cj fun _ iQ _ _ _ => ae fun _ mv _ _ => ai fun _ hY => ?_))));refine ag 3 bc ?_;refine ag 1 bc ?_;refine aS bc ?_;refine hY _ (mv (some ([0,1,5,6,18],none)) _ (bU (ai fun _ jU => ?_)));refine ag 4 bc ?_;refine ag 1 bc ?_;refine ag 1 bc ?_;refine ag 1 bc ?_;refine al bc ?_;refine jU _ (iQ _ (lv (some ([0,1,5,6],none)) _ (ai fun _ mr => ?_)));refine ag 2 bc ?_;refine al bc ?_;refine mr _ ?_;refine cR (a.length - (i + 1)) (some ([0,1,5,6],some ([1],1))) _ ?_ ?_
   all_goals try refine dR ?_
   ·omega
   ·exact ⟨i + 1,by omega,by omega,by rw [ao]⟩
theorem aoy (U : Nat → Bool) (B b : Nat) : ((List.range B).filter U).filter (fun x => x != b) = (List.range B).filter (fun x => U x && !decide (b = x)) := by
 rw [List.filter_filter]
 congr 1; funext x
 by_cases h : b = x
 ·subst h; simp
 ·have aj : x ≠ b := fun e => h e.symm
  simp [h,aj]
def gT : List Nat → Nat → Bool → List Nat
 | [],b,put => if put = true then [] else [b]
 | x :: xs,b,put => (if (!put && decide (b < x)) = true then [b] else []) ++ x :: gT xs b (put || decide (b ≤ x))
theorem XO : ∀ (a : List Nat) (b : Nat) (p : Bool),(gT a b p).length ≤ 2 * a.length + 1
 | [],b,p => by unfold gT; split <;> simp
 | x :: xs,b,p => by
  have := XO xs b (p || decide (b ≤ x))
  unfold gT
  split <;> simp <;> omega
theorem O0 : ∀ (a : List Nat) (b : Nat),gT a b true = a
 | [],b => rfl
 | x :: xs,b => by unfold gT; simp [O0 xs b]
theorem aox (a : List Nat) (b : Nat) (h : ∀ x ∈ a,b < x) : gT a b false = b :: a := by
 cases a with
 | nil => rfl
 | cons x xs =>
  have af := h x (by simp)
  unfold gT
  simp [af,Nat.le_of_lt af,O0]
theorem XQ (U : Nat → Bool) (b : Nat) : ∀ (n s : Nat),s ≤ b → b < s + n → gT ((List.range' s n).filter U) b false = (List.range' s n).filter (fun x => U x || decide (b = x))
 | 0,s,af,aj => by omega
 | n + 1,s,af,aj => by
  rw [List.range'_succ,List.filter_cons,List.filter_cons]
  have R5 : ∀ (V : Nat → Bool),s = b → ∀ x ∈ (List.range' (s + 1) n).filter V,b < x := fun V e x ar => by
   have := List.mem_range'_1.1 (List.mem_filter.1 ar).1
   omega
  by_cases e : s = b
  ·have aZ : (List.range' (s + 1) n).filter (fun x => U x || decide (b = x)) = (List.range' (s + 1) n).filter U := List.filter_congr fun x ar => by
    have := List.mem_range'_1.1 ar
    rw [decide_eq_false (show ¬ b = x by omega),Bool.or_false]
   rw [aZ]
   cases hu : U s
   ·rw [if_neg (by simp),if_pos (by simp [e]),aox _ _ (R5 U e),e]
   ·rw [if_pos rfl,if_pos (by simp)]
    unfold gT
    rw [decide_eq_false (show ¬ b < s by omega),decide_eq_true (show b ≤ s by omega)]
    simp [O0]
  ·have dW := XQ U b n (s + 1) (by omega) (by omega)
   have d1 : decide (b = s) = false := decide_eq_false (by omega)
   cases hu : U s
   ·rw [if_neg (by simp),if_neg (by simp [d1]),dW]
   ·rw [if_pos rfl,if_pos (by simp)]
    unfold gT
    rw [decide_eq_false (show ¬ b < s by omega),decide_eq_false (show ¬ b ≤ s by omega)]
    simp [dW]
theorem O1 (U : Nat → Bool) {B b : Nat} (h : b < B) : gT ((List.range B).filter U) b false = (List.range B).filter (fun x => U x || decide (b = x)) := by
 rw [List.range_eq_range']
 exact XQ U b B 0 (by omega) (by omega)
def aaC (g : Nat) (a : List Nat) (b : Nat) (k : Nat) (S : ak) : Prop :=
 ∃ (i : Nat) (out : List Nat) (p : Bool),i ≤ a.length ∧ k = a.length - i ∧ out ++ gT (a.drop i) b p = gT a b false ∧ S = ⟨[(0,.au 1 g (a.map hq)),(1,aG b),(5,.own 0),(6,eA p),(7,aG i)],[(0,.row 3 1 (out.map hq))],1⟩
set_option maxHeartbeats 4000000 in
theorem MN (g : Nat) (a : List Nat) (b : Nat) (a9 : a.length ≤ 1000000) : cq 16 [.au 1 g (a.map hq),aG b] (.au 1 0 ((gT a b false).map hq)) := by
 refine df Tryz.func16 aog rfl ?_
 have hlen := XO a b false
 unfold bK W0 VP;delta ab a8 aa ay a3
 refine ae fun _ aK _ _ => ai fun _ aH => ?_;refine cE ?_;refine aH _ (aK (some ([0,1],none)) _ (ae fun _ aP _ _ => ai fun _ bk => ?_));refine cE ?_;refine bk _ (aP (some ([0,1,5],none)) _ (ae fun _ bV _ _ => ai fun _ dk => ?_));refine cE ?_;refine dk _ (bV (some ([0,1,5,6],none)) _ (ae fun _ cz _ _ => ae fun _ cv _ _ => ai fun _ aR => ?_));refine cE ?_;refine aR _ (cv (some ([0,1,5,6,7],none)) _ (cj fun _ _ GS _ _ => ?_));refine ie (aaC g a b) (a.length) (some ([0,1,5,6,7],some ([0],1))) ([.slot 5 (some 3) 1]) ?_ ?_
 ·try refine dR ?_
  exact ⟨0,[],false,by omega,by omega,by rw [List.drop_zero]; rfl,by rfl⟩
 ·intro k bT aW
  obtain ⟨i,out,p,aq,rfl,ax,rfl⟩ := aW
  have aqM : out.length ≤ 2 * a.length + 1 := by have := congrArg List.length ax; rw [List.length_append] at this; omega
  have nG : out.length + 1 ≤ 140737488355328 := by omega
  have km : (out.length + 1) * 8 ≤ 140737488355328 := by omega
  have tx : out.length + 1 + 1 ≤ 140737488355328 := by omega
  have pg : (out.length + 1 + 1) * 8 ≤ 140737488355328 := by omega
  have dZ : (i = a.length ∧ p = true) ∨ (i = a.length ∧ p = false) ∨ ∃ x,a[i]? = some x ∧ a.drop i = x :: a.drop (i + 1) ∧ ((p = true ∧ x = b) ∨ (p = true ∧ x ≠ b) ∨ (p = false ∧ b < x) ∨ (p = false ∧ x = b) ∨ (p = false ∧ x < b)) := by
   rcases Nat.lt_or_ge i a.length with h | h
   ·refine .inr (.inr ⟨_,List.getElem?_eq_getElem h,List.drop_eq_getElem_cons h,?_⟩)
    cases p
    ·rcases Nat.lt_trichotomy a[i] b with aj | aj | aj
     ·exact .inr (.inr (.inr (.inr ⟨rfl,aj⟩)))
     ·exact .inr (.inr (.inr (.inl ⟨rfl,aj⟩)))
     ·exact .inr (.inr (.inl ⟨rfl,aj⟩))
    ·by_cases aj : a[i] = b
     ·exact .inl ⟨rfl,aj⟩
     ·exact .inr (.inl ⟨rfl,aj⟩)
   ·cases p
    ·exact .inr (.inl ⟨by omega,rfl⟩)
    ·exact .inl ⟨by omega,rfl⟩
  intro _ cr _ g6
  rcases dZ with ⟨ea,rfl⟩ | ⟨ea,rfl⟩ | ⟨x,e7,a6,⟨rfl,rfl⟩ | ⟨rfl,dj⟩ | ⟨rfl,pO⟩ | ⟨rfl,rfl⟩ | ⟨rfl,pO⟩⟩
  ·skip
   have cn : ¬ (i : Int) < (a.length : Int) := by omega
   have a1 : gT a b false = out := by rw [← ax,ea,List.drop_length]; unfold gT; rw [if_pos rfl,List.append_nil]
   have ad := And.intro @cn @a1
   refine ae fun _ _ _ kx => ae fun _ dF _ _ => ai fun _ dq => ?_;refine aM 3 ad ?_;refine aS ad ?_;refine dq _ (dF (some ([0,1,5,6,7,11],none)) _ (bs (kx 0 _ (g6 0 _ (GS _ (cz (some ([1,5,6],none)) _ (ae fun _ gl _ _ => ae fun _ fF _ _ => ai fun _ eF => ?_)))))));refine al ad ?_;refine eF _ (fF (some ([1,5,42],none)) _ (bs (gl (some ([5],none)) _ (ae fun _ hM _ _ => ai fun _ hr => ?_))));refine al ad ?_;refine hr _ (hM (some ([4],none)) _ ?_)
   exact cQ ad
  ·skip
   have cn : ¬ (i : Int) < (a.length : Int) := by omega
   have a1 : (gT a b false).map hq = out.map hq ++ [[aG b]] := by rw [← ax,ea,List.drop_length]; unfold gT; rw [if_neg (by simp),List.map_append]; rfl
   have aD := And.intro @cn (And.intro @a1 (And.intro @nG @km))
   refine ae fun _ _ _ yy => ae fun _ hK _ _ => ai fun _ gf => ?_;refine aM 3 aD ?_;refine aS aD ?_;refine gf _ (hK (some ([0,1,5,6,7,11],none)) _ (bs (yy 0 _ (g6 0 _ (GS _ (cz (some ([1,5,6],none)) _ (ae fun _ iu _ _ => ae fun _ iP _ _ => ai fun _ gD => ?_)))))));refine al aD ?_;refine gD _ (iP (some ([1,5,42],none)) _ (bU (ai fun _ ir => ?_)));refine ag 3 aD ?_;refine ag 1 aD ?_;refine al aD ?_;refine ir _ (iu (some ([5],none)) _ (ae fun _ iQ _ _ => ai fun _ iO => ?_));refine al aD ?_;refine iO _ (iQ (some ([4],none)) _ ?_)
   exact cQ aD
  ·skip
   have bQ := (List.getElem?_eq_some_iff.1 e7).1
   have cn : (i : Int) < (a.length : Int) := by omega
   have dM : IntKind.i64.wrap ((i : Int) + 1) = ((i + 1 : Nat) : Int) := by rw [IntKind.wrap_i64]; omega
   have hw : (out ++ [x]) ++ gT (a.drop (i + 1)) x true = gT a x false := by
    rw [← ax,a6]
    conv => rhs; unfold gT
    simp
   have bc := And.intro @cn (And.intro @dM (And.intro @e7 (And.intro @nG (And.intro @km (And.intro @tx @pg)))))
   refine ae fun _ s0 _ _ => ae fun _ rf _ _ => ai fun _ mr => ?_;refine aM 3 bc ?_;refine aS bc ?_;refine mr _ (rf (some ([0,1,5,6,7,11],none)) _ (bU (s0 (some ([0,1,5,6,7],none)) _ (ae fun _ pP _ _ => cj fun _ kD _ _ _ => ae fun _ rh _ _ => ae fun _ pQ _ _ => ai fun _ pK => ?_))));refine aM 3 bc ?_;refine ag 3 bc ?_;refine ag 1 bc ?_;refine ag 2 bc ?_;refine al bc ?_;refine pK _ (pQ (some ([0,1,5,6,7,23],none)) _ (bs (rh (some ([0,1,5,6,7],none)) _ (ae fun _ pR _ _ => ae fun _ oy _ _ => ai fun _ jV => ?_))));refine ag 3 bc ?_;refine ag 1 bc ?_;refine aS bc ?_;refine jV _ (oy (some ([0,1,5,6,7,33],none)) _ (bU (ai fun _ nm => ?_)));refine al bc ?_;refine nm _ (pR (some ([0,1,5,6,7],none)) _ ?_)
   refine ai fun _ nn => ?_;refine aM 3 bc ?_;refine ag 1 bc ?_;refine ag 1 bc ?_;refine ag 1 bc ?_;refine ag 1 bc ?_;refine al bc ?_;refine nn _ (kD _ (pP (some ([0,1,5,6,7],none)) _ (ai fun _ np => ?_)));refine ag 2 bc ?_;refine al bc ?_;refine np _ ?_;refine cr (a.length - (i + 1)) (some ([0,1,5,6,7],some ([1],1))) _ ?_ ?_
   all_goals try refine dR ?_
   ·omega
   ·exact ⟨i + 1,_,_,by omega,rfl,hw,by rw [List.map_append]; rfl⟩
  ·skip
   have bQ := (List.getElem?_eq_some_iff.1 e7).1
   have cn : (i : Int) < (a.length : Int) := by omega
   have dM : IntKind.i64.wrap ((i : Int) + 1) = ((i + 1 : Nat) : Int) := by rw [IntKind.wrap_i64]; omega
   have fH : ((x : Int) == (b : Int)) = false := by rw [beq_eq_false_iff_ne]; omega
   have hw : (out ++ [x]) ++ gT (a.drop (i + 1)) b true = gT a b false := by
    rw [← ax,a6]
    conv => rhs; unfold gT
    simp
   have bt := And.intro @cn (And.intro @dM (And.intro @e7 (And.intro @nG (And.intro @km (And.intro @tx (And.intro @pg @fH))))))
   refine ae fun _ r2 _ _ => ae fun _ yL _ _ => ai fun _ q8 => ?_;refine aM 3 bt ?_;refine aS bt ?_;refine q8 _ (yL (some ([0,1,5,6,7,11],none)) _ (bU (r2 (some ([0,1,5,6,7],none)) _ (ae fun _ C0 _ _ => cj fun _ yM _ _ _ => ae fun _ yN _ _ => ae fun _ vq _ _ => ai fun _ ra => ?_))));refine aM 3 bt ?_;refine ag 3 bt ?_;refine ag 1 bt ?_;refine ag 2 bt ?_;refine al bt ?_;refine ra _ (vq (some ([0,1,5,6,7,23],none)) _ (bs (yN (some ([0,1,5,6,7],none)) _ (ae fun _ Lj _ _ => ae fun _ vr _ _ => ai fun _ vi => ?_))));refine ag 3 bt ?_;refine ag 1 bt ?_;refine aS bt ?_;refine vi _ (vr (some ([0,1,5,6,7,33],none)) _ (bs (Lj (some ([0,1,5,6,7],none)) _ (ai fun _ sY => ?_))))
   refine aM 3 bt ?_;refine ag 1 bt ?_;refine ag 1 bt ?_;refine ag 1 bt ?_;refine ag 1 bt ?_;refine al bt ?_;refine sY _ (yM _ (C0 (some ([0,1,5,6,7],none)) _ (ai fun _ ov => ?_)));refine ag 2 bt ?_;refine al bt ?_;refine ov _ ?_;refine cr (a.length - (i + 1)) (some ([0,1,5,6,7],some ([1],1))) _ ?_ ?_
   all_goals try refine dR ?_
   ·omega
   ·exact ⟨i + 1,_,_,by omega,rfl,hw,by rw [List.map_append]; rfl⟩
  ·skip
   have bQ := (List.getElem?_eq_some_iff.1 e7).1
   have cn : (i : Int) < (a.length : Int) := by omega
   have dM : IntKind.i64.wrap ((i : Int) + 1) = ((i + 1 : Nat) : Int) := by rw [IntKind.wrap_i64]; omega
   have fH : ((x : Int) == (b : Int)) = false := by rw [beq_eq_false_iff_ne]; omega
   have iw : (b : Int) < (x : Int) := by omega
   have hw : (out ++ [b] ++ [x]) ++ gT (a.drop (i + 1)) b true = gT a b false := by
    rw [← ax,a6]
    conv => rhs; unfold gT
    simp [pO,Nat.le_of_lt pO]
   have bB := And.intro @cn (And.intro @dM (And.intro @e7 (And.intro @nG (And.intro @km (And.intro @tx (And.intro @pg (And.intro @fH @iw)))))))
   refine ae fun _ vu _ _ => ae fun _ yQ _ _ => ai fun _ vk => ?_;refine aM 3 bB ?_;refine aS bB ?_;refine vk _ (yQ (some ([0,1,5,6,7,11],none)) _ (bU (vu (some ([0,1,5,6,7],none)) _ (ae fun _ yR _ _ => cj fun _ Lk _ _ _ => ae fun _ Ll _ _ => ae fun _ C2 _ _ => ai fun _ CL => ?_))));refine aM 3 bB ?_;refine ag 3 bB ?_;refine ag 1 bB ?_;refine ag 2 bB ?_;refine al bB ?_;refine CL _ (C2 (some ([0,1,5,6,7,23],none)) _ (bU (ae fun _ Ln _ _ => ai fun _ K1 => ?_)));refine ag 3 bB ?_;refine ag 1 bB ?_;refine al bB ?_;refine K1 _ (Ln (some ([0,1,5,7],none)) _ (ai fun _ CN => ?_));refine al bB ?_;refine CN _ (Ll (some ([0,1,5,6,7],none)) _ (ae fun _ Lq _ _ => ae fun _ agy _ _ => ?_))
   refine ai fun _ K2 => ?_;refine ag 3 bB ?_;refine ag 1 bB ?_;refine aS bB ?_;refine K2 _ (agy (some ([0,1,5,6,7,33],none)) _ (bs (Lq (some ([0,1,5,6,7],none)) _ (ai fun _ K3 => ?_))));refine aM 3 bB ?_;refine ag 1 bB ?_;refine ag 1 bB ?_;refine ag 1 bB ?_;refine ag 1 bB ?_;refine al bB ?_;refine K3 _ (Lk _ (yR (some ([0,1,5,6,7],none)) _ (ai fun _ yG => ?_)));refine ag 2 bB ?_;refine al bB ?_;refine yG _ ?_;refine cr (a.length - (i + 1)) (some ([0,1,5,6,7],some ([2],1))) _ ?_ ?_
   all_goals try refine dR ?_
   ·omega
   ·exact ⟨i + 1,_,_,by omega,rfl,hw,by rw [List.map_append,List.map_append]; rfl⟩
  ·skip
   have bQ := (List.getElem?_eq_some_iff.1 e7).1
   have cn : (i : Int) < (a.length : Int) := by omega
   have dM : IntKind.i64.wrap ((i : Int) + 1) = ((i + 1 : Nat) : Int) := by rw [IntKind.wrap_i64]; omega
   have iw : ¬ (x : Int) < (x : Int) := by omega
   have hw : (out ++ [x]) ++ gT (a.drop (i + 1)) x true = gT a x false := by
    rw [← ax,a6]
    conv => rhs; unfold gT
    simp
   have ep := And.intro @cn (And.intro @dM (And.intro @e7 (And.intro @nG (And.intro @km (And.intro @tx (And.intro @pg @iw))))))
   refine ae fun _ C3 _ _ => ae fun _ Ls _ _ => ai fun _ K5 => ?_;refine aM 3 ep ?_;refine aS ep ?_;refine K5 _ (Ls (some ([0,1,5,6,7,11],none)) _ (bU (C3 (some ([0,1,5,6,7],none)) _ (ae fun _ agA _ _ => cj fun _ C4 _ _ _ => ae fun _ agB _ _ => ae fun _ C5 _ _ => ai fun _ K6 => ?_))));refine aM 3 ep ?_;refine ag 3 ep ?_;refine ag 1 ep ?_;refine ag 2 ep ?_;refine al ep ?_;refine K6 _ (C5 (some ([0,1,5,6,7,23],none)) _ (bs (agB (some ([0,1,5,6,7],none)) _ (ae fun _ agD _ _ => ae fun _ Lu _ _ => ai fun _ agl => ?_))));refine ag 3 ep ?_;refine ag 1 ep ?_;refine aS ep ?_;refine agl _ (Lu (some ([0,1,5,6,7,33],none)) _ (bU (ai fun _ K8 => ?_)));refine al ep ?_;refine K8 _ (agD (some ([0,1,5,6,7],none)) _ ?_)
   refine ai fun _ K9 => ?_;refine aM 3 ep ?_;refine ag 1 ep ?_;refine ag 1 ep ?_;refine ag 1 ep ?_;refine ag 1 ep ?_;refine al ep ?_;refine K9 _ (C4 _ (agA (some ([0,1,5,6,7],none)) _ (ai fun _ agm => ?_)));refine ag 2 ep ?_;refine al ep ?_;refine agm _ ?_;refine cr (a.length - (i + 1)) (some ([0,1,5,6,7],some ([1],1))) _ ?_ ?_
   all_goals try refine dR ?_
   ·omega
   ·exact ⟨i + 1,_,_,by omega,rfl,hw,by rw [List.map_append]; rfl⟩
  ·skip
   have bQ := (List.getElem?_eq_some_iff.1 e7).1
   have cn : (i : Int) < (a.length : Int) := by omega
   have dM : IntKind.i64.wrap ((i : Int) + 1) = ((i + 1 : Nat) : Int) := by rw [IntKind.wrap_i64]; omega
   have fH : ((x : Int) == (b : Int)) = false := by rw [beq_eq_false_iff_ne]; omega
   have iw : ¬ (b : Int) < (x : Int) := by omega
   have hw : (out ++ [x]) ++ gT (a.drop (i + 1)) b false = gT a b false := by
    rw [← ax,a6]
    conv => rhs; unfold gT
    simp [Nat.not_le.2 pO,Nat.not_lt.2 (Nat.le_of_lt pO)]
   have eh := And.intro @cn (And.intro @dM (And.intro @e7 (And.intro @nG (And.intro @km (And.intro @tx (And.intro @pg (And.intro @fH @iw)))))))
   refine ae fun _ Lx _ _ => ae fun _ Ly _ _ => ai fun _ La => ?_;refine aM 3 eh ?_;refine aS eh ?_;refine La _ (Ly (some ([0,1,5,6,7,11],none)) _ (bU (Lx (some ([0,1,5,6,7],none)) _ (ae fun _ agH _ _ => cj fun _ C6 _ _ _ => ae fun _ agI _ _ => ae fun _ C7 _ _ => ai fun _ CR => ?_))));refine aM 3 eh ?_;refine ag 3 eh ?_;refine ag 1 eh ?_;refine ag 2 eh ?_;refine al eh ?_;refine CR _ (C7 (some ([0,1,5,6,7,23],none)) _ (bs (agI (some ([0,1,5,6,7],none)) _ (ae fun _ LA _ _ => ae fun _ agJ _ _ => ai fun _ Lc => ?_))));refine ag 3 eh ?_;refine ag 1 eh ?_;refine aS eh ?_;refine Lc _ (agJ (some ([0,1,5,6,7,33],none)) _ (bs (LA (some ([0,1,5,6,7],none)) _ (ai fun _ agr => ?_))))
   refine aM 3 eh ?_;refine ag 1 eh ?_;refine ag 1 eh ?_;refine ag 1 eh ?_;refine ag 1 eh ?_;refine al eh ?_;refine agr _ (C6 _ (agH (some ([0,1,5,6,7],none)) _ (ai fun _ ags => ?_)));refine ag 2 eh ?_;refine al eh ?_;refine ags _ ?_;refine cr (a.length - (i + 1)) (some ([0,1,5,6,7],some ([1],1))) _ ?_ ?_
   all_goals try refine dR ?_
   ·omega
   ·exact ⟨i + 1,_,_,by omega,rfl,hw,by rw [List.map_append]; rfl⟩
end Go.Proofs.YtkmbcjnaaokilaaGreatDoor
