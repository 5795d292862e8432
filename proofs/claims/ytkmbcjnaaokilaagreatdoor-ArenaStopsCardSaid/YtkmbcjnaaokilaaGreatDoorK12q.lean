/-
  Layer 12 by shadows: the law's plan; the reference's sets of used blocks.
-/
import Derived.Test.YtkmbcjnaaokilaaGreatDoorK12n
namespace Go.Proofs.YtkmbcjnaaokilaaGreatDoor
set_option linter.unusedSimpArgs false
set_option linter.unusedVariables false
open Go.RowKit Go.Maps
def vR (t b : Int) : cc := ⟨1 + t % 4,8,1 + b % 64⟩
theorem aha {t b : Int} (aO : 0 ≤ t) (aJ : 0 ≤ b) : fj (vR t b) = 0 := by
 obtain ⟨i,aq⟩ : ∃ i : Nat,t % 4 = (i : Int) ∧ i < 4 := ⟨(t % 4).toNat,by omega,by omega⟩
 obtain ⟨j,aM⟩ : ∃ j : Nat,b % 64 = (j : Int) ∧ j < 64 := ⟨(b % 64).toNat,by omega,by omega⟩
 unfold vR
 rw [aq.1,aM.1]
 have : ∀ i : Nat,i < 4 → ∀ j : Nat,j < 64 → fj ⟨1 + (i : Int),8,1 + (j : Int)⟩ = 0 := by decide +kernel
 exact this i aq.2 j aM.2
theorem agf {t b : Int} (aO : 0 ≤ t ∧ t ≤ 255) (aJ : 0 ≤ b ∧ b ≤ 255) : cu 9 [.v (.int .u8 t),.v (.int .u8 b)] (.agg (fe (vR t b))) := by
 refine df Tryz.func9 ajS rfl ?_
 have fh : t.tmod 4 = t % 4 := by rw [Int.tmod_eq_emod_of_nonneg aO.1]
 have cE : b.tmod 64 = b % 64 := by rw [Int.tmod_eq_emod_of_nonneg aJ.1]
 have dQ : IntKind.i64.wrap (t % 4) = t % 4 := by rw [IntKind.wrap_i64]; omega
 have gm : IntKind.i64.wrap (b % 64) = b % 64 := by rw [IntKind.wrap_i64]; omega
 have hO : IntKind.i64.wrap (1 + t % 4) = 1 + t % 4 := by rw [IntKind.wrap_i64]; omega
 have l7 : IntKind.i64.wrap (1 + b % 64) = 1 + b % 64 := by rw [IntKind.wrap_i64]; omega
 unfold bJ Tf R8;delta ab aR aa aA
 have ad := And.intro @fh (And.intro @cE (And.intro @dQ (And.intro @gm (And.intro @hO @l7))))
 refine ae fun _ aK _ _ => ai fun _ aG => ?_;refine an ad ?_;refine aG _ (aK (some ([0,1,4],none)) _ (ae fun _ aQ _ _ => ai fun _ bh => ?_));refine ag 2 ad ?_;refine ag 2 ad ?_;refine ag 2 ad ?_;refine ag 2 ad ?_;refine aU ad ?_;refine bh _ (aQ (some ([4],none)) _ ?_)
 exact cO ad
def WT (g : Nat) (a : List Nat) (b : Nat) (k : Nat) (S : ak) : Prop :=
 ∃ i : Nat,i ≤ a.length ∧ k = a.length - i ∧ S = ⟨[(0,.au 1 g (a.map iu)),(1,aI b),(5,.own 0),(6,aI i)],[(0,.row 3 1 (((a.take i).filter (fun x => x != b)).map iu))],1⟩
set_option maxHeartbeats 2000000 in
theorem agI (g : Nat) (a : List Nat) (b : Nat) (a7 : a.length ≤ 1000000) : cu 15 [.au 1 g (a.map iu),aI b] (.au 1 0 ((a.filter (fun x => x != b)).map iu)) := by
 refine df Tryz.func15 akz rfl ?_
 unfold bJ TJ SB;delta ab aa aA
 refine ae fun _ aK _ _ => ai fun _ aG => ?_;refine cz ?_;refine aG _ (aK (some ([0,1],none)) _ (ae fun _ aQ _ _ => ai fun _ bh => ?_));refine cz ?_;refine bh _ (aQ (some ([0,1,5],none)) _ (ae fun _ bT _ _ => ae fun _ bp _ _ => ai fun _ bD => ?_));refine cz ?_;refine bD _ (bp (some ([0,1,5,6],none)) _ (cx fun _ _ xq _ _ => ?_));refine jS (WT g a b) (a.length) (some ([0,1,5,6],some ([0],1))) ([.slot 5 (some 3) 1]) ?_ ?_
 ·try refine eC ?_
  exact ⟨0,by omega,by omega,by rfl⟩
 ·intro k b0 aY
  obtain ⟨i,aq,rfl,rfl⟩ := aY
  have eF : i = a.length ∨ a[i]? = some b ∨ (∃ x,a[i]? = some x ∧ x ≠ b) := by
   rcases Nat.lt_or_ge i a.length with h | h
   ·have af := List.getElem?_eq_getElem h
    by_cases e : a[i] = b
    ·exact .inr (.inl (by rw [af,e]))
    ·exact .inr (.inr ⟨_,af,e⟩)
   ·exact .inl (by omega)
  intro _ cN _ gR
  rcases eF with dT | gB | ⟨x,gB,dd⟩
  ·skip
   have cE : ¬ (i : Int) < (a.length : Int) := by omega
   have a2 : a.take i = a := by rw [dT,List.take_length]
   have ad := And.intro @cE @a2
   refine ae fun _ _ _ jm => ae fun _ ct _ _ => ai fun _ cG => ?_;refine aU ad ?_;refine cG _ (ct (some ([0,1,5,6,10],none)) _ (bB (jm 0 _ (gR 0 _ (xq _ (bT (some ([5],none)) _ (ae fun _ dJ _ _ => ai fun _ dt => ?_)))))));refine an ad ?_;refine dt _ (dJ (some ([4],none)) _ ?_)
   exact cO ad
  ·skip
   have bN := (List.getElem?_eq_some_iff.1 gB).1
   have cE : (i : Int) < (a.length : Int) := by omega
   have dQ : IntKind.i64.wrap ((i : Int) + 1) = ((i + 1 : Nat) : Int) := by rw [IntKind.wrap_i64]; omega
   have ao : ((a.take (i + 1)).filter (fun x => x != b)).map iu = ((a.take i).filter (fun x => x != b)).map iu := by
    rw [List.take_add_one,gB,List.filter_append,List.map_append]; simp
   have aD := And.intro @cE (And.intro @dQ @gB)
   refine ae fun _ gK _ _ => ae fun _ fy _ _ => ai fun _ eV => ?_;refine aU aD ?_;refine eV _ (fy (some ([0,1,5,6,10],none)) _ (bY (gK (some ([0,1,5,6],none)) _ (ae fun _ ic _ _ => cx fun _ h4 _ _ _ => ae fun _ ix _ _ => ai fun _ ht => ?_))));refine ag 3 aD ?_;refine ag 1 aD ?_;refine aU aD ?_;refine ht _ (ix (some ([0,1,5,6,18],none)) _ (bB (h4 _ (ic (some ([0,1,5,6],none)) _ (ai fun _ gr => ?_)))));refine ag 2 aD ?_;refine an aD ?_;refine gr _ ?_;refine cN (a.length - (i + 1)) (some ([0,1,5,6],some ([0],1))) _ ?_ ?_
   all_goals try refine eC ?_
   ·omega
   ·exact ⟨i + 1,by omega,by omega,by rw [ao]⟩
  ·skip
   have bN := (List.getElem?_eq_some_iff.1 gB).1
   have cE : (i : Int) < (a.length : Int) := by omega
   have dQ : IntKind.i64.wrap ((i : Int) + 1) = ((i + 1 : Nat) : Int) := by rw [IntKind.wrap_i64]; omega
   have gm : ((x : Int) != (b : Int)) = true := by rw [bne_iff_ne]; omega
   have ao : ((a.take (i + 1)).filter (fun x => x != b)).map iu = ((a.take i).filter (fun x => x != b)).map iu ++ [[aI x]] := by
    rw [List.take_add_one,gB,List.filter_append,List.map_append]; simp [dd]
   have hO : ((a.take i).filter (fun x => x != b)).length ≤ 1000000 := Nat.le_trans (List.length_filter_le _ _) (by simp; omega)
   have l7 : ((a.take i).filter (fun x => x != b)).length + 1 ≤ 140737488355328 := by omega
   have jt : (((a.take i).filter (fun x => x != b)).length + 1) * 8 ≤ 140737488355328 := by omega
   have bm := And.intro @cE (And.intro @dQ (And.intro @gm (And.intro @gB (And.intro @l7 @jt))))
   refine ae fun _ ke _ _ => ae fun _ iX _ _ => ai fun _ gu => ?_;refine aU bm ?_;refine gu _ (iX (some ([0,1,5,6,10],none)) _ (bY (ke (some ([0,1,5,6],none)) _ (ae fun _ kY _ _ => cx fun _ kf _ _ _ => ae fun _ mL _ _ => ai fun _ iW => ?_))));refine ag 3 bm ?_;refine ag 1 bm ?_;refine aU bm ?_;refine iW _ (mL (some ([0,1,5,6,18],none)) _ (bY (ai fun _ kb => ?_)));refine ag 4 bm ?_;refine ag 1 bm ?_;refine ag 1 bm ?_;refine ag 1 bm ?_;refine an bm ?_;refine kb _ (kf _ (kY (some ([0,1,5,6],none)) _ (ai fun _ lQ => ?_)));refine ag 2 bm ?_;refine an bm ?_;refine lQ _ ?_;refine cN (a.length - (i + 1)) (some ([0,1,5,6],some ([1],1))) _ ?_ ?_
   all_goals try refine eC ?_
   ·omega
   ·exact ⟨i + 1,by omega,by omega,by rw [ao]⟩
theorem akR (U : Nat → Bool) (B b : Nat) : ((List.range B).filter U).filter (fun x => x != b) = (List.range B).filter (fun x => U x && !decide (b = x)) := by
 rw [List.filter_filter]
 congr 1; funext x
 by_cases h : b = x
 ·subst h; simp
 ·have aj : x ≠ b := fun e => h e.symm
  simp [h,aj]
def gM : List Nat → Nat → Bool → List Nat
 | [],b,put => if put = true then [] else [b]
 | x :: xs,b,put => (if (!put && decide (b < x)) = true then [b] else []) ++ x :: gM xs b (put || decide (b ≤ x))
theorem Ux : ∀ (a : List Nat) (b : Nat) (p : Bool),(gM a b p).length ≤ 2 * a.length + 1
 | [],b,p => by unfold gM; split <;> simp
 | x :: xs,b,p => by
  have := Ux xs b (p || decide (b ≤ x))
  unfold gM
  split <;> simp <;> omega
theorem Md : ∀ (a : List Nat) (b : Nat),gM a b true = a
 | [],b => rfl
 | x :: xs,b => by unfold gM; simp [Md xs b]
theorem akQ (a : List Nat) (b : Nat) (h : ∀ x ∈ a,b < x) : gM a b false = b :: a := by
 cases a with
 | nil => rfl
 | cons x xs =>
  have af := h x (by simp)
  unfold gM
  simp [af,Nat.le_of_lt af,Md]
theorem Uz (U : Nat → Bool) (b : Nat) : ∀ (n s : Nat),s ≤ b → b < s + n → gM ((List.range' s n).filter U) b false = (List.range' s n).filter (fun x => U x || decide (b = x))
 | 0,s,af,aj => by omega
 | n + 1,s,af,aj => by
  rw [List.range'_succ,List.filter_cons,List.filter_cons]
  have Pj : ∀ (V : Nat → Bool),s = b → ∀ x ∈ (List.range' (s + 1) n).filter V,b < x := fun V e x ar => by
   have := List.mem_range'_1.1 (List.mem_filter.1 ar).1
   omega
  by_cases e : s = b
  ·have aW : (List.range' (s + 1) n).filter (fun x => U x || decide (b = x)) = (List.range' (s + 1) n).filter U := List.filter_congr fun x ar => by
    have := List.mem_range'_1.1 ar
    rw [decide_eq_false (show ¬ b = x by omega),Bool.or_false]
   rw [aW]
   cases hu : U s
   ·rw [if_neg (by simp),if_pos (by simp [e]),akQ _ _ (Pj U e),e]
   ·rw [if_pos rfl,if_pos (by simp)]
    unfold gM
    rw [decide_eq_false (show ¬ b < s by omega),decide_eq_true (show b ≤ s by omega)]
    simp [Md]
  ·have dO := Uz U b n (s + 1) (by omega) (by omega)
   have d1 : decide (b = s) = false := decide_eq_false (by omega)
   cases hu : U s
   ·rw [if_neg (by simp),if_neg (by simp [d1]),dO]
   ·rw [if_pos rfl,if_pos (by simp)]
    unfold gM
    rw [decide_eq_false (show ¬ b < s by omega),decide_eq_false (show ¬ b ≤ s by omega)]
    simp [dO]
theorem Me (U : Nat → Bool) {B b : Nat} (h : b < B) : gM ((List.range B).filter U) b false = (List.range B).filter (fun x => U x || decide (b = x)) := by
 rw [List.range_eq_range']
 exact Uz U b B 0 (by omega) (by omega)
def WR (g : Nat) (a : List Nat) (b : Nat) (k : Nat) (S : ak) : Prop :=
 ∃ (i : Nat) (out : List Nat) (p : Bool),i ≤ a.length ∧ k = a.length - i ∧ out ++ gM (a.drop i) b p = gM a b false ∧ S = ⟨[(0,.au 1 g (a.map iu)),(1,aI b),(5,.own 0),(6,dH p),(7,aI i)],[(0,.row 3 1 (out.map iu))],1⟩
set_option maxHeartbeats 4000000 in
theorem agH (g : Nat) (a : List Nat) (b : Nat) (a7 : a.length ≤ 1000000) : cu 16 [.au 1 g (a.map iu),aI b] (.au 1 0 ((gM a b false).map iu)) := by
 refine df Tryz.func16 aky rfl ?_
 have hlen := Ux a b false
 unfold bJ TI SA;delta ab a9 aa aA a6
 refine ae fun _ aK _ _ => ai fun _ aG => ?_;refine cz ?_;refine aG _ (aK (some ([0,1],none)) _ (ae fun _ aQ _ _ => ai fun _ bh => ?_));refine cz ?_;refine bh _ (aQ (some ([0,1,5],none)) _ (ae fun _ bT _ _ => ai fun _ de => ?_));refine cz ?_;refine de _ (bT (some ([0,1,5,6],none)) _ (ae fun _ cp _ _ => ae fun _ ck _ _ => ai fun _ aP => ?_));refine cz ?_;refine aP _ (ck (some ([0,1,5,6,7],none)) _ (cx fun _ _ EK _ _ => ?_));refine jS (WR g a b) (a.length) (some ([0,1,5,6,7],some ([0],1))) ([.slot 5 (some 3) 1]) ?_ ?_
 ·try refine eC ?_
  exact ⟨0,[],false,by omega,by omega,by rw [List.drop_zero]; rfl,by rfl⟩
 ·intro k b0 aY
  obtain ⟨i,out,p,aq,rfl,ay,rfl⟩ := aY
  have ang : out.length ≤ 2 * a.length + 1 := by have := congrArg List.length ay; rw [List.length_append] at this; omega
  have l7 : out.length + 1 ≤ 140737488355328 := by omega
  have jt : (out.length + 1) * 8 ≤ 140737488355328 := by omega
  have qw : out.length + 1 + 1 ≤ 140737488355328 := by omega
  have mX : (out.length + 1 + 1) * 8 ≤ 140737488355328 := by omega
  have eF : (i = a.length ∧ p = true) ∨ (i = a.length ∧ p = false) ∨ ∃ x,a[i]? = some x ∧ a.drop i = x :: a.drop (i + 1) ∧ ((p = true ∧ x = b) ∨ (p = true ∧ x ≠ b) ∨ (p = false ∧ b < x) ∨ (p = false ∧ x = b) ∨ (p = false ∧ x < b)) := by
   rcases Nat.lt_or_ge i a.length with h | h
   ·refine .inr (.inr ⟨_,List.getElem?_eq_getElem h,List.drop_eq_getElem_cons h,?_⟩)
    cases p
    ·rcases Nat.lt_trichotomy a[i] b with aj | aj | aj
     ·exact .inr (.inr (.inr (.inr ⟨rfl,aj⟩)))
     ·exact .inr (.inr (.inr (.inl ⟨rfl,aj⟩)))
     ·exact .inr (.inr (.inl ⟨rfl,aj⟩))
    ·by_cases aj : a[i] = b
     ·exact .inl ⟨rfl,aj⟩
     ·exact .inr (.inl ⟨rfl,aj⟩)
   ·cases p
    ·exact .inr (.inl ⟨by omega,rfl⟩)
    ·exact .inl ⟨by omega,rfl⟩
  intro _ ct _ gU
  rcases eF with ⟨dT,rfl⟩ | ⟨dT,rfl⟩ | ⟨x,gB,aX,⟨rfl,rfl⟩ | ⟨rfl,dd⟩ | ⟨rfl,oK⟩ | ⟨rfl,rfl⟩ | ⟨rfl,oK⟩⟩
  ·skip
   have cE : ¬ (i : Int) < (a.length : Int) := by omega
   have a2 : gM a b false = out := by rw [← ay,dT,List.drop_length]; unfold gM; rw [if_pos rfl,List.append_nil]
   have ad := And.intro @cE @a2
   refine ae fun _ _ _ j7 => ae fun _ dJ _ _ => ai fun _ dt => ?_;refine aL 3 ad ?_;refine aU ad ?_;refine dt _ (dJ (some ([0,1,5,6,7,11],none)) _ (bB (j7 0 _ (gU 0 _ (EK _ (cp (some ([1,5,6],none)) _ (ae fun _ gK _ _ => ae fun _ fy _ _ => ai fun _ eV => ?_)))))));refine an ad ?_;refine eV _ (fy (some ([1,5,42],none)) _ (bB (gK (some ([5],none)) _ (ae fun _ ic _ _ => ai fun _ hz => ?_))));refine an ad ?_;refine hz _ (ic (some ([4],none)) _ ?_)
   exact cO ad
  ·skip
   have cE : ¬ (i : Int) < (a.length : Int) := by omega
   have a2 : (gM a b false).map iu = out.map iu ++ [[aI b]] := by rw [← ay,dT,List.drop_length]; unfold gM; rw [if_neg (by simp),List.map_append]; rfl
   have aD := And.intro @cE (And.intro @a2 (And.intro @l7 @jt))
   refine ae fun _ _ _ AN => ae fun _ h5 _ _ => ai fun _ gr => ?_;refine aL 3 aD ?_;refine aU aD ?_;refine gr _ (h5 (some ([0,1,5,6,7,11],none)) _ (bB (AN 0 _ (gU 0 _ (EK _ (cp (some ([1,5,6],none)) _ (ae fun _ ke _ _ => ae fun _ iX _ _ => ai fun _ gu => ?_)))))));refine an aD ?_;refine gu _ (iX (some ([1,5,42],none)) _ (bY (ai fun _ iT => ?_)));refine ag 3 aD ?_;refine ag 1 aD ?_;refine an aD ?_;refine iT _ (ke (some ([5],none)) _ (ae fun _ kf _ _ => ai fun _ iV => ?_));refine an aD ?_;refine iV _ (kf (some ([4],none)) _ ?_)
   exact cO aD
  ·skip
   have bN := (List.getElem?_eq_some_iff.1 gB).1
   have cE : (i : Int) < (a.length : Int) := by omega
   have dQ : IntKind.i64.wrap ((i : Int) + 1) = ((i + 1 : Nat) : Int) := by rw [IntKind.wrap_i64]; omega
   have hw : (out ++ [x]) ++ gM (a.drop (i + 1)) x true = gM a x false := by
    rw [← ay,aX]
    conv => rhs; unfold gM
    simp
   have bm := And.intro @cE (And.intro @dQ (And.intro @gB (And.intro @l7 (And.intro @jt (And.intro @qw @mX)))))
   refine ae fun _ rV _ _ => ae fun _ qe _ _ => ai fun _ lQ => ?_;refine aL 3 bm ?_;refine aU bm ?_;refine lQ _ (qe (some ([0,1,5,6,7,11],none)) _ (bY (rV (some ([0,1,5,6,7],none)) _ (ae fun _ oL _ _ => cx fun _ kZ _ _ _ => ae fun _ rW _ _ => ae fun _ qf _ _ => ai fun _ oI => ?_))));refine aL 3 bm ?_;refine ag 3 bm ?_;refine ag 1 bm ?_;refine ag 2 bm ?_;refine an bm ?_;refine oI _ (qf (some ([0,1,5,6,7,23],none)) _ (bB (rW (some ([0,1,5,6,7],none)) _ (ae fun _ rX _ _ => ae fun _ oN _ _ => ai fun _ jE => ?_))));refine ag 3 bm ?_;refine ag 1 bm ?_;refine aU bm ?_;refine jE _ (oN (some ([0,1,5,6,7,33],none)) _ (bY (ai fun _ nz => ?_)));refine an bm ?_;refine nz _ (rX (some ([0,1,5,6,7],none)) _ ?_)
   refine ai fun _ mI => ?_;refine aL 3 bm ?_;refine ag 1 bm ?_;refine ag 1 bm ?_;refine ag 1 bm ?_;refine ag 1 bm ?_;refine an bm ?_;refine mI _ (kZ _ (oL (some ([0,1,5,6,7],none)) _ (ai fun _ nA => ?_)));refine ag 2 bm ?_;refine an bm ?_;refine nA _ ?_;refine ct (a.length - (i + 1)) (some ([0,1,5,6,7],some ([1],1))) _ ?_ ?_
   all_goals try refine eC ?_
   ·omega
   ·exact ⟨i + 1,_,_,by omega,rfl,hw,by rw [List.map_append]; rfl⟩
  ·skip
   have bN := (List.getElem?_eq_some_iff.1 gB).1
   have cE : (i : Int) < (a.length : Int) := by omega
   have dQ : IntKind.i64.wrap ((i : Int) + 1) = ((i + 1 : Nat) : Int) := by rw [IntKind.wrap_i64]; omega
   have gm : ((x : Int) == (b : Int)) = false := by rw [beq_eq_false_iff_ne]; omega
   have hw : (out ++ [x]) ++ gM (a.drop (i + 1)) b true = gM a b false := by
    rw [← ay,aX]
    conv => rhs; unfold gM
    simp
   have bx := And.intro @cE (And.intro @dQ (And.intro @gB (And.intro @l7 (And.intro @jt (And.intro @qw (And.intro @mX @gm))))))
   refine ae fun _ sW _ _ => ae fun _ xa _ _ => ai fun _ p6 => ?_;refine aL 3 bx ?_;refine aU bx ?_;refine p6 _ (xa (some ([0,1,5,6,7,11],none)) _ (bY (sW (some ([0,1,5,6,7],none)) _ (ae fun _ Bj _ _ => cx fun _ xb _ _ _ => ae fun _ Bk _ _ => ae fun _ Bl _ _ => ai fun _ rQ => ?_))));refine aL 3 bx ?_;refine ag 3 bx ?_;refine ag 1 bx ?_;refine ag 2 bx ?_;refine an bx ?_;refine rQ _ (Bl (some ([0,1,5,6,7,23],none)) _ (bB (Bk (some ([0,1,5,6,7],none)) _ (ae fun _ I2 _ _ => ae fun _ Bm _ _ => ai fun _ wZ => ?_))));refine ag 3 bx ?_;refine ag 1 bx ?_;refine aU bx ?_;refine wZ _ (Bm (some ([0,1,5,6,7,33],none)) _ (bB (I2 (some ([0,1,5,6,7],none)) _ (ai fun _ rS => ?_))))
   refine aL 3 bx ?_;refine ag 1 bx ?_;refine ag 1 bx ?_;refine ag 1 bx ?_;refine ag 1 bx ?_;refine an bx ?_;refine rS _ (xb _ (Bj (some ([0,1,5,6,7],none)) _ (ai fun _ p9 => ?_)));refine ag 2 bx ?_;refine an bx ?_;refine p9 _ ?_;refine ct (a.length - (i + 1)) (some ([0,1,5,6,7],some ([1],1))) _ ?_ ?_
   all_goals try refine eC ?_
   ·omega
   ·exact ⟨i + 1,_,_,by omega,rfl,hw,by rw [List.map_append]; rfl⟩
  ·skip
   have bN := (List.getElem?_eq_some_iff.1 gB).1
   have cE : (i : Int) < (a.length : Int) := by omega
   have dQ : IntKind.i64.wrap ((i : Int) + 1) = ((i + 1 : Nat) : Int) := by rw [IntKind.wrap_i64]; omega
   have gm : ((x : Int) == (b : Int)) = false := by rw [beq_eq_false_iff_ne]; omega
   have hO : (b : Int) < (x : Int) := by omega
   have hw : (out ++ [b] ++ [x]) ++ gM (a.drop (i + 1)) b true = gM a b false := by
    rw [← ay,aX]
    conv => rhs; unfold gM
    simp [oK,Nat.le_of_lt oK]
   have bS := And.intro @cE (And.intro @dQ (And.intro @gB (And.intro @l7 (And.intro @jt (And.intro @qw (And.intro @mX (And.intro @gm @hO)))))))
   refine ae fun _ xd _ _ => ae fun _ Bo _ _ => ai fun _ w1 => ?_;refine aL 3 bS ?_;refine aU bS ?_;refine w1 _ (Bo (some ([0,1,5,6,7,11],none)) _ (bY (xd (some ([0,1,5,6,7],none)) _ (ae fun _ I3 _ _ => cx fun _ Bp _ _ _ => ae fun _ I4 _ _ => ae fun _ I5 _ _ => ai fun _ w3 => ?_))));refine aL 3 bS ?_;refine ag 3 bS ?_;refine ag 1 bS ?_;refine ag 2 bS ?_;refine an bS ?_;refine w3 _ (I5 (some ([0,1,5,6,7,23],none)) _ (bY (ae fun _ Bq _ _ => ai fun _ IM => ?_)));refine ag 3 bS ?_;refine ag 1 bS ?_;refine an bS ?_;refine IM _ (Bq (some ([0,1,5,7],none)) _ (ai fun _ w4 => ?_));refine an bS ?_;refine w4 _ (I4 (some ([0,1,5,6,7],none)) _ (ae fun _ Br _ _ => ae fun _ I7 _ _ => ?_))
   refine ai fun _ IP => ?_;refine ag 3 bS ?_;refine ag 1 bS ?_;refine aU bS ?_;refine IP _ (I7 (some ([0,1,5,6,7,33],none)) _ (bB (Br (some ([0,1,5,6,7],none)) _ (ai fun _ A6 => ?_))));refine aL 3 bS ?_;refine ag 1 bS ?_;refine ag 1 bS ?_;refine ag 1 bS ?_;refine ag 1 bS ?_;refine an bS ?_;refine A6 _ (Bp _ (I3 (some ([0,1,5,6,7],none)) _ (ai fun _ A7 => ?_)));refine ag 2 bS ?_;refine an bS ?_;refine A7 _ ?_;refine ct (a.length - (i + 1)) (some ([0,1,5,6,7],some ([2],1))) _ ?_ ?_
   all_goals try refine eC ?_
   ·omega
   ·exact ⟨i + 1,_,_,by omega,rfl,hw,by rw [List.map_append,List.map_append]; rfl⟩
  ·skip
   have bN := (List.getElem?_eq_some_iff.1 gB).1
   have cE : (i : Int) < (a.length : Int) := by omega
   have dQ : IntKind.i64.wrap ((i : Int) + 1) = ((i + 1 : Nat) : Int) := by rw [IntKind.wrap_i64]; omega
   have hO : ¬ (x : Int) < (x : Int) := by omega
   have hw : (out ++ [x]) ++ gM (a.drop (i + 1)) x true = gM a x false := by
    rw [← ay,aX]
    conv => rhs; unfold gM
    simp
   have eb := And.intro @cE (And.intro @dQ (And.intro @gB (And.intro @l7 (And.intro @jt (And.intro @qw (And.intro @mX @hO))))))
   refine ae fun _ Bs _ _ => ae fun _ ac6 _ _ => ai fun _ IQ => ?_;refine aL 3 eb ?_;refine aU eb ?_;refine IQ _ (ac6 (some ([0,1,5,6,7,11],none)) _ (bY (Bs (some ([0,1,5,6,7],none)) _ (ae fun _ ac7 _ _ => cx fun _ I9 _ _ _ => ae fun _ ac8 _ _ => ae fun _ Ja _ _ => ai fun _ acK => ?_))));refine aL 3 eb ?_;refine ag 3 eb ?_;refine ag 1 eb ?_;refine ag 2 eb ?_;refine an eb ?_;refine acK _ (Ja (some ([0,1,5,6,7,23],none)) _ (bB (ac8 (some ([0,1,5,6,7],none)) _ (ae fun _ ada _ _ => ae fun _ adb _ _ => ai fun _ acN => ?_))));refine ag 3 eb ?_;refine ag 1 eb ?_;refine aU eb ?_;refine acN _ (adb (some ([0,1,5,6,7,33],none)) _ (bY (ai fun _ acO => ?_)));refine an eb ?_;refine acO _ (ada (some ([0,1,5,6,7],none)) _ ?_)
   refine ai fun _ IT => ?_;refine aL 3 eb ?_;refine ag 1 eb ?_;refine ag 1 eb ?_;refine ag 1 eb ?_;refine ag 1 eb ?_;refine an eb ?_;refine IT _ (I9 _ (ac7 (some ([0,1,5,6,7],none)) _ (ai fun _ acP => ?_)));refine ag 2 eb ?_;refine an eb ?_;refine acP _ ?_;refine ct (a.length - (i + 1)) (some ([0,1,5,6,7],some ([1],1))) _ ?_ ?_
   all_goals try refine eC ?_
   ·omega
   ·exact ⟨i + 1,_,_,by omega,rfl,hw,by rw [List.map_append]; rfl⟩
  ·skip
   have bN := (List.getElem?_eq_some_iff.1 gB).1
   have cE : (i : Int) < (a.length : Int) := by omega
   have dQ : IntKind.i64.wrap ((i : Int) + 1) = ((i + 1 : Nat) : Int) := by rw [IntKind.wrap_i64]; omega
   have gm : ((x : Int) == (b : Int)) = false := by rw [beq_eq_false_iff_ne]; omega
   have hO : ¬ (b : Int) < (x : Int) := by omega
   have hw : (out ++ [x]) ++ gM (a.drop (i + 1)) b false = gM a b false := by
    rw [← ay,aX]
    conv => rhs; unfold gM
    simp [Nat.not_le.2 oK,Nat.not_lt.2 (Nat.le_of_lt oK)]
   have di := And.intro @cE (And.intro @dQ (And.intro @gB (And.intro @l7 (And.intro @jt (And.intro @qw (And.intro @mX (And.intro @gm @hO)))))))
   refine ae fun _ adh _ _ => ae fun _ Jb _ _ => ai fun _ IU => ?_;refine aL 3 di ?_;refine aU di ?_;refine IU _ (Jb (some ([0,1,5,6,7,11],none)) _ (bY (adh (some ([0,1,5,6,7],none)) _ (ae fun _ adi _ _ => cx fun _ Jc _ _ _ => ae fun _ adj _ _ => ae fun _ Jd _ _ => ai fun _ IV => ?_))));refine aL 3 di ?_;refine ag 3 di ?_;refine ag 1 di ?_;refine ag 2 di ?_;refine an di ?_;refine IV _ (Jd (some ([0,1,5,6,7,23],none)) _ (bB (adj (some ([0,1,5,6,7],none)) _ (ae fun _ adk _ _ => ae fun _ adl _ _ => ai fun _ acS => ?_))));refine ag 3 di ?_;refine ag 1 di ?_;refine aU di ?_;refine acS _ (adl (some ([0,1,5,6,7,33],none)) _ (bB (adk (some ([0,1,5,6,7],none)) _ (ai fun _ acT => ?_))))
   refine aL 3 di ?_;refine ag 1 di ?_;refine ag 1 di ?_;refine ag 1 di ?_;refine ag 1 di ?_;refine an di ?_;refine acT _ (Jc _ (adi (some ([0,1,5,6,7],none)) _ (ai fun _ acU => ?_)));refine ag 2 di ?_;refine an di ?_;refine acU _ ?_;refine ct (a.length - (i + 1)) (some ([0,1,5,6,7],some ([1],1))) _ ?_ ?_
   all_goals try refine eC ?_
   ·omega
   ·exact ⟨i + 1,_,_,by omega,rfl,hw,by rw [List.map_append]; rfl⟩
end Go.Proofs.YtkmbcjnaaokilaaGreatDoor
