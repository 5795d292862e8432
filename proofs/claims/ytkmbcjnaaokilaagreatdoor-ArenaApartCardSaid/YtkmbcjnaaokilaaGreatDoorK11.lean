/-
  Layer 11 by shadows: layouts.
-/
import Derived.Test.YtkmbcjnaaokilaaGreatDoorMC
import Derived.Test.YtkmbcjnaaokilaaGreatDoorMK9
namespace Go.Proofs.YtkmbcjnaaokilaaGreatDoor
set_option linter.unusedSimpArgs false
set_option linter.unusedVariables false
open Go.RowKit Go.Maps
structure b1 where
 threads : Int
 cells : Int
 blocks : Int
abbrev fu (l : b1) : List aw := [aG l.threads,aG l.cells,aG l.blocks]
def sz (l : b1) : Prop := (1 ≤ l.threads ∧ l.threads ≤ 8) ∧ (1 ≤ l.cells ∧ l.cells ≤ 2048) ∧ (0 ≤ l.blocks ∧ l.blocks ≤ 64)
instance (l : b1) : Decidable (sz l) := by unfold sz; infer_instance
def mX (l : b1) : Nat → Int
 | 0 => 1 | 1 => l.threads | 2 => l.threads | 3 => l.cells | 4 => l.threads | 5 => l.blocks | 6 => l.blocks | _ => 0
def l6 : Nat → Int
 | 0 => 8 | 1 => 8 | 2 => 8 | 3 => 1 | 4 => 104 | 5 => 0 | 6 => 32 | _ => 0
def e8 (l : b1) (p : Nat) : Int := ((if l6 p = 0 ∧ 0 < mX l p then 8 else mX l p * l6 p) + 7) / 8 * 8
def dm (l : b1) : Nat → Int
 | 0 => 0
 | p + 1 => dm l p + e8 l p
def e4 (l : b1) : Int := if sz l then (if 4096 < dm l 7 then 19 else 0) else 3
def A3 (l : b1) : Int := if e4 l = 0 then dm l 7 else 0
def ho (l : b1) (p : Nat) (i more : Int) : Int := if e4 l = 0 ∧ 0 ≤ i ∧ i < mX l p then dm l p + i * l6 p + more else -1
theorem Ml {l : b1} (h : sz l) (p : Nat) : 0 ≤ mX l p ∧ mX l p ≤ 2048 := by
 obtain ⟨⟨a,b⟩,⟨c,d⟩,e,f⟩ := h
 unfold mX; split <;> omega
theorem size_le (p : Nat) : 0 ≤ l6 p ∧ l6 p ≤ 104 := by unfold l6; split <;> omega
theorem lX {l : b1} (h : sz l) (p : Nat) : 0 ≤ e8 l p ∧ e8 l p ≤ 213000 := by
 obtain ⟨a,b⟩ := Ml h p
 obtain ⟨c,d⟩ := size_le p
 have af : 0 ≤ mX l p * l6 p := Int.mul_nonneg a c
 have aj : mX l p * l6 p ≤ 2048 * 104 := Int.mul_le_mul b d c (by omega)
 unfold e8
 split <;> omega
theorem u3 {l : b1} (h : sz l) : ∀ p,0 ≤ dm l p ∧ dm l p ≤ 213000 * p
 | 0 => ⟨Int.le_refl _,by show (0 : Int) ≤ 213000 * (0 : Nat); decide⟩
 | p + 1 => by
  have dW := u3 h p
  have := lX h p
  unfold dm
  omega
theorem kb {l : b1} (h : e4 l = 0) : sz l ∧ dm l 7 ≤ 4096 := by
 unfold e4 at h
 split at h
 ·rename_i af
  split at h
  ·cases h
  ·exact ⟨af,by omega⟩
 ·cases h
theorem ahH : (Tryz.prog.info? 3).map (fun i => (i.zero,i.size,i.bytes)) = some (some (.int .i64 0),1,8) := by kernel_rfl
set_option maxHeartbeats 2000000 in
theorem TZ (l : b1) (p : Nat) (hp : p < 7) : cq 79 [.agg (fu l),aG p] (aG (mX l p)) := by
 refine df Tryz.func79 anS rfl ?_
 have Dw : ∀ w,(isAgg 3).run Tryz.prog w = .ok false w := Tryz.isAgg3
 obtain ⟨aqY,af3,_,ahb,_⟩ := info_parts ahH
 have aJ : [aG 1,aG l.threads,aG l.threads,aG l.cells,aG l.threads,aG l.blocks,aG l.blocks][p]? = some (aG (mX l p)) :=
  match p,hp with
  | 0,_ => rfl | 1,_ => rfl | 2,_ => rfl | 3,_ => rfl | 4,_ => rfl | 5,_ => rfl | 6,_ => rfl
 generalize mX l p = m at aJ
 unfold bK WL VB;delta ab aa ay
 refine ae fun _ aK _ _ => ai fun _ aH => ?_;refine cE ?_;refine aH _ (aK (some ([1,2],none)) _ (ae fun _ aP _ _ => ai fun _ bk => ?_));refine c4 2 ?_;refine c4 2 ?_;refine c4 2 ?_;refine c4 2 ?_;refine c4 2 ?_;refine c4 2 ?_;refine eH 2 ?_;refine eH 1 ?_;refine Or.inl ⟨_,aez (n := (p : Int)) Tryz.underlying147 af3 ahb Dw (by omega) (by omega) (by rw [Int.toNat_natCast]; exact aJ),?_⟩;refine cE ?_;refine bk _ (aP (some ([4],none)) _ ?_)
 exact jq
theorem Q9 : (Ak.lookup 0).map (fun vs => aw.di (vs.map aw.v) 0) = some (.di [aG 8,aG 8,aG 8,aG 1,aG 104,aG 0,aG 32] 0) := rfl
set_option maxHeartbeats 4000000 in
theorem ajW (l : b1) (p : Nat) (hp : p < 7) (aE : sz l) : cq 78 [.agg (fu l),aG p] (aG (e8 l p)) := by
 refine df Tryz.func78 anR rfl ?_
 have bX := TZ l p hp
 have hm := Ml aE p
 have ao := size_le p
 have aJ : [aG 8,aG 8,aG 8,aG 1,aG 104,aG 0,aG 32][p]? = some (aG (l6 p)) :=
  match p,hp with
  | 0,_ => rfl | 1,_ => rfl | 2,_ => rfl | 3,_ => rfl | 4,_ => rfl | 5,_ => rfl | 6,_ => rfl
 have fD : (0 : Nat) + p * 1 = p := by omega
 have BS : (0 : Nat) + p = p := by omega
 have af : 0 ≤ mX l p * l6 p := Int.mul_nonneg hm.1 ao.1
 have aj : mX l p * l6 p ≤ 2048 * 104 := Int.mul_le_mul hm.2 ao.2 ao.1 (by omega)
 have gs := Q9
 have nC : (p : Int) < 7 := by omega
 unfold e8
 generalize mX l p = m at *
 generalize l6 p = s at *
 have fB : IntKind.i64.wrap (m * s) = m * s := by rw [IntKind.wrap_i64]; omega
 have cn : ∀ x : Int,0 ≤ x → x ≤ 212992 → IntKind.i64.wrap (x + 8) = x + 8 := fun x _ _ => by rw [IntKind.wrap_i64]; omega
 have dM : ∀ x : Int,0 ≤ x → x ≤ 212992 → IntKind.i64.wrap (x + 8 - 1) = x + 7 := fun x _ _ => by rw [IntKind.wrap_i64]; omega
 have fH : ∀ x : Int,0 ≤ x → x ≤ 212992 → IntKind.i64.wrap ((x + 7).tdiv 8) = (x + 7) / 8 := fun x _ _ => by rw [IntKind.wrap_i64,Int.tdiv_eq_ediv_of_nonneg (by omega)]; omega
 have iw : ∀ x : Int,0 ≤ x → x ≤ 212992 → IntKind.i64.wrap ((x + 7) / 8 * 8) = (x + 7) / 8 * 8 := fun x _ _ => by rw [IntKind.wrap_i64]; omega
 have O4 : ¬ (8 : Int) = 0 := by decide
 by_cases bR : s = 0
 ·subst bR
  by_cases ba : 0 < m
  ·rw [if_pos ⟨rfl,ba⟩]
   unfold bK HS HH;delta ab a8 aa ay a3
   have ad := And.intro @gs (And.intro @aJ (And.intro @fD (And.intro @BS (And.intro @nC (And.intro @fB (And.intro @ba @O4))))))
   refine ae fun bD aK b9 ck => ai fun ca aH => ?_;refine al ad ?_;refine aH _ (aK (some ([1,2],none)) _ (ae fun cg aP bx b8 => ?_));refine gh [] (n := 6) fun ch bk => ?_;refine gY ?_;refine cF 1 ad ?_;refine gd 1 ad ?_;refine gd 1 ad ?_;refine ⟨_,bX,?_⟩;refine cF 2 ad ?_;refine og ad ?_;refine bk _ ?_;refine gZ ?_;refine ag 1 ad ?_;refine al ad ?_;refine aP (some ([1,2,5],none)) _ (ae fun cG bp c5 dn => ae fun cI cz ey fp => ai fun dB c7 => ?_);refine ag 2 ad ?_;refine ag 1 ad ?_;refine ag 1 ad ?_;refine ag 2 ad ?_;refine aM 1 ad ?_;refine aM 1 ad ?_;refine Or.inl (Or.inl ⟨_,bX,?_⟩);refine ag 1 ad ?_;refine al ad ?_;refine c7 _ (cz (some ([5,22],none)) _ (bU (ai fun bz aR => ?_)));refine al ad ?_;refine aR _ (bp (some ([5],none)) _ (ae fun eK eo _ _ => ?_))
   refine ai fun _ fe => ?_;refine ag 2 ad ?_;refine ag 1 ad ?_;refine ag 1 ad ?_;refine ag 1 ad ?_;refine al ad ?_;refine fe _ (eo (some ([4],none)) _ ?_);refine jr ad ?_
   rfl
  ·have w9 : m = 0 := by omega
   subst w9
   rw [if_neg (by simp)]
   unfold bK HS HH;delta ab a8 aa ay a3
   have ad := And.intro @gs (And.intro @aJ (And.intro @fD (And.intro @BS (And.intro @nC (And.intro @fB (And.intro @ba @O4))))))
   refine ae fun bD aK b9 ck => ai fun ca aH => ?_;refine al ad ?_;refine aH _ (aK (some ([1,2],none)) _ (ae fun cg aP bx b8 => ?_));refine gh [] (n := 6) fun ch bk => ?_;refine gY ?_;refine cF 1 ad ?_;refine gd 1 ad ?_;refine gd 1 ad ?_;refine ⟨_,bX,?_⟩;refine cF 2 ad ?_;refine og ad ?_;refine bk _ ?_;refine gZ ?_;refine ag 1 ad ?_;refine al ad ?_;refine aP (some ([1,2,5],none)) _ (ae fun cG bp c5 dn => ae fun cI cz ey fp => ai fun dB c7 => ?_);refine ag 2 ad ?_;refine ag 1 ad ?_;refine ag 1 ad ?_;refine ag 2 ad ?_;refine aM 1 ad ?_;refine aM 1 ad ?_;refine Or.inl (Or.inl ⟨_,bX,?_⟩);refine ag 1 ad ?_;refine al ad ?_;refine c7 _ (cz (some ([5,22],none)) _ (bs (bp (some ([5],none)) _ (ae fun bz cR h1 gQ => ai fun eK cK => ?_))));refine ag 2 ad ?_;refine ag 1 ad ?_
   refine ag 1 ad ?_;refine ag 1 ad ?_;refine al ad ?_;refine cK _ (cR (some ([4],none)) _ ?_);refine jr ad ?_
   rfl
 ·rw [if_neg (fun h => bR h.1)]
  have d : (s == 0) = false := by simpa using bR
  have bH := cn (m * s) af (by omega)
  have bP := dM (m * s) af (by omega)
  have a4 := fH (m * s) af (by omega)
  have fs := iw (m * s) af (by omega)
  unfold bK HS HH;delta ab a8 aa ay a3
  have ad := And.intro @gs (And.intro @aJ (And.intro @fD (And.intro @BS (And.intro @nC (And.intro @fB (And.intro @d (And.intro @O4 (And.intro @bH (And.intro @bP (And.intro @a4 @fs))))))))))
  refine ae fun bD aK b9 ck => ai fun ca aH => ?_;refine al ad ?_;refine aH _ (aK (some ([1,2],none)) _ (ae fun cg aP bx b8 => ?_));refine gh [] (n := 6) fun ch bk => ?_;refine gY ?_;refine cF 1 ad ?_;refine gd 1 ad ?_;refine gd 1 ad ?_;refine ⟨_,bX,?_⟩;refine cF 2 ad ?_;refine og ad ?_;refine bk _ ?_;refine gZ ?_;refine ag 1 ad ?_;refine al ad ?_;refine aP (some ([1,2,5],none)) _ (ae fun cG bp c5 dn => ae fun cI cz ey fp => ai fun dB c7 => ?_);refine ag 2 ad ?_;refine ag 1 ad ?_;refine ag 1 ad ?_;refine ag 2 ad ?_;refine aM 1 ad ?_;refine aM 1 ad ?_
  skip
  refine ag 1 ad ?_;refine al ad ?_;refine c7 _ (cz (some ([5,22],none)) _ (bs (bp (some ([5],none)) _ (ae fun bz cR h1 gQ => ai fun eK cK => ?_))));refine ag 2 ad ?_;refine ag 1 ad ?_;refine ag 1 ad ?_;refine ag 1 ad ?_;refine al ad ?_;refine cK _ (cR (some ([4],none)) _ ?_)
  exact cQ ad
def YK (l : b1) (p : Nat) (k : Nat) (S : ak) : Prop :=
 ∃ i : Nat,i ≤ p ∧ k = p - i ∧ S = ⟨[(2,.ptr 0 0 0),(5,aG (dm l i)),(7,aG p),(8,aG i)],[(0,.box 25 (fu l))],1⟩
set_option maxHeartbeats 2000000 in
theorem MJ (l : b1) (p : Nat) (hp : p ≤ 7) (aE : sz l) : cq 60 [.agg (fu l),aG p] (aG (dm l p)) := by
 refine df Tryz.func60 anQ rfl ?_
 unfold bK WK VA;delta ab aa ay
 refine ae fun _ aK _ _ => ai fun _ aH => ?_;refine cE ?_;refine aH _ (aK (some ([1,2],none)) _ (ae fun _ aP _ _ => ai fun _ bk => ?_));refine cE ?_;refine bk _ (aP (some ([1,2,5],none)) _ (ae fun _ bV _ _ => ae fun _ bp _ _ => ai fun _ bE => ?_));refine cE ?_;refine bE _ (bp (some ([2,5,7,8],none)) _ (cj fun _ _ vD _ _ => ?_));refine ie (YK l p) (p) (some ([2,5,7,8],some ([0],1))) ([]) ?_ ?_
 ·try refine dR ?_
  exact ⟨0,by omega,by omega,by rfl⟩
 ·intro k bT aW
  obtain ⟨i,aq,rfl,rfl⟩ := aW
  have dZ : i = p ∨ i < p := by omega
  intro _ cR _ gQ
  rcases dZ with ea | ea
  ·skip
   have cn : ¬ (i : Int) < (p : Int) := by omega
   subst ea
   have ad := @cn
   refine ae fun _ eo _ _ => ai fun _ fe => ?_;refine aS ad ?_;refine fe _ (eo (some ([2,5,7,8,9],none)) _ (ae fun _ _ _ kx => bs (kx 0 _ (gQ 0 _ (vD _ (bV (some ([5],none)) _ (ae fun _ dF _ _ => ai fun _ dq => ?_)))))));refine al ad ?_;refine dq _ (dF (some ([4],none)) _ ?_)
   exact cQ ad
  ·skip
   have cn : (i : Int) < (p : Int) := by omega
   have dM : IntKind.i64.wrap ((i : Int) + 1) = ((i + 1 : Nat) : Int) := by rw [IntKind.wrap_i64]; omega
   have bX := ajW l i (by omega) aE
   have af := lX aE i
   have aj := u3 aE i
   have fH : IntKind.i64.wrap (dm l i + e8 l i) = dm l (i + 1) := by rw [IntKind.wrap_i64]; show _ = dm l i + e8 l i; omega
   have aD := And.intro @cn (And.intro @dM @fH)
   refine ae fun _ gl _ _ => ai fun _ gC => ?_;refine aS aD ?_;refine gC _ (gl (some ([2,5,7,8,9],none)) _ (ae fun _ kC _ _ => bU (kC (some ([2,5,7,8],none)) _ (ae fun _ hM _ _ => cj fun _ hJ _ _ _ => ae fun _ hZ _ _ => ai fun _ hh => ?_))));refine al aD ?_;refine hh _ (hZ (some ([2,5,6,7,8],none)) _ (ai fun _ gf => ?_));refine ag 2 aD ?_;refine aM 1 aD ?_;refine aM 1 aD ?_;refine Or.inl (Or.inl ⟨_,bX,?_⟩);refine ag 1 aD ?_;refine al aD ?_;refine gf _ (hJ _ (hM (some ([2,5,7,8],none)) _ (ai fun _ im => ?_)));refine ag 1 aD ?_;refine al aD ?_;refine im _ ?_;refine cR (p - (i + 1)) (some ([2,5,7,8],some ([0],1))) _ ?_ ?_
   all_goals try refine dR ?_
   ·omega
   ·exact ⟨i + 1,by omega,by omega,rfl⟩
theorem MH (n a b : Int) : cq 77 [aG n,aG a,aG b] (eA (decide (a ≤ n ∧ n ≤ b))) := by
 refine df Tryz.func77 anK rfl ?_
 by_cases af : a ≤ n
 ·have e : decide (a ≤ n ∧ n ≤ b) = decide (n ≤ b) := decide_eq_decide.2 ⟨fun h => h.2,fun h => ⟨af,h⟩⟩
  rw [e]
  unfold bK N8 NF;delta ab a8 aa a3
  have ad := @af
  refine ae fun bD aK b9 ck => ai fun ca aH => ?_;refine al ad ?_;refine aH _ (aK (some ([0,1,2],none)) _ (ae fun cg aP bx b8 => ai fun ch bk => ?_));refine ag 3 ad ?_;refine ag 4 ad ?_;refine al ad ?_;refine bk _ (aP (some ([6],none)) _ ?_)
  exact cQ ad
 ·rw [decide_eq_false (fun h => af h.1)]
  unfold bK N8 NF;delta ab a8 aa a3
  have ad := @af
  refine ae fun bD aK b9 ck => ai fun ca aH => ?_;refine al ad ?_;refine aH _ (aK (some ([0,1,2],none)) _ (ae fun cg aP bx b8 => ai fun ch bk => ?_));refine ag 3 ad ?_;refine ag 4 ad ?_;refine al ad ?_;refine bk _ (aP (some ([6],none)) _ ?_)
  exact cQ ad
set_option maxHeartbeats 2000000 in
theorem MI (l : b1) : cq 59 [.agg (fu l)] (aG (e4 l)) := by
 refine df Tryz.func59 anN rfl ?_
 have bX := MH l.threads 1 8
 have cL := MH l.cells 1 2048
 have k2 := MH l.blocks 0 64
 unfold e4
 by_cases ba : 1 ≤ l.threads ∧ l.threads ≤ 8
 case neg =>
  rw [if_neg (fun h => ba h.1)]
  rw [decide_eq_false ba] at bX
  unfold bK A0 AW;delta ab aa ay
  refine ae fun bD aK b9 ck => ai fun ca aH => ?_;refine cE ?_;refine aH _ (aK (some ([1],none)) _ (ae fun cg aP bx b8 => cj fun ch bI kV dd dU => ae fun cM bV dQ eP => ae fun cG bp c5 dn => ai fun cI bE => ?_));refine c4 2 ?_;refine eH 1 ?_;refine Or.inl (Or.inl ⟨_,bX,?_⟩);refine cE ?_;refine bE _ (bp (some ([1,3],none)) _ (bU (bV (some ([1,3],none)) _ (bU (ae fun dB cv g7 gw => ai fun bz aR => ?_)))));refine cE ?_;refine aR _ (cv (some ([2],none)) _ (dd _ (bx _ ?_)))
  exact jq
 rw [decide_eq_true ba] at bX
 by_cases af : 1 ≤ l.cells ∧ l.cells ≤ 2048
 case neg =>
  rw [if_neg (fun h => af h.2.1)]
  rw [decide_eq_false af] at cL
  unfold bK A0 AW;delta ab aa ay
  refine ae fun bD aK b9 ck => ai fun ca aH => ?_;refine cE ?_;refine aH _ (aK (some ([1],none)) _ (ae fun cg aP bx b8 => cj fun ch bI kV dd dU => ae fun cM bV dQ eP => ae fun cG bp c5 dn => ai fun cI bE => ?_));refine c4 2 ?_;refine eH 1 ?_;refine Or.inl (Or.inl ⟨_,bX,?_⟩);refine cE ?_;refine bE _ (bp (some ([1,3],none)) _ (bs (ae fun dB cv g7 gw => ai fun bz aR => ?_)));refine c4 2 ?_;refine eH 1 ?_;refine Or.inl (Or.inl ⟨_,cL,?_⟩);refine cE ?_;refine aR _ (cv (some ([1,3],none)) _ (bU (bV (some ([1,3],none)) _ (bU (ae fun eK eo _ _ => ai fun fM fe => ?_)))));refine cE ?_;refine fe _ (eo (some ([2],none)) _ (dd _ (bx _ ?_)))
  exact jq
 rw [decide_eq_true af] at cL
 by_cases aj : 0 ≤ l.blocks ∧ l.blocks ≤ 64
 case neg =>
  rw [if_neg (fun h => aj h.2.2)]
  rw [decide_eq_false aj] at k2
  unfold bK A0 AW;delta ab aa ay
  refine ae fun bD aK b9 ck => ai fun ca aH => ?_;refine cE ?_;refine aH _ (aK (some ([1],none)) _ (ae fun cg aP bx b8 => cj fun ch bI kV dd dU => ae fun cM bV dQ eP => ae fun cG bp c5 dn => ai fun cI bE => ?_));refine c4 2 ?_;refine eH 1 ?_;refine Or.inl (Or.inl ⟨_,bX,?_⟩);refine cE ?_;refine bE _ (bp (some ([1,3],none)) _ (bs (ae fun dB cv g7 gw => ai fun bz aR => ?_)));refine c4 2 ?_;refine eH 1 ?_;refine Or.inl (Or.inl ⟨_,cL,?_⟩);refine cE ?_;refine aR _ (cv (some ([1,3],none)) _ (bs (ai fun eK cK => ?_)));refine c4 2 ?_;refine eH 1 ?_;refine Or.inl (Or.inl ⟨_,k2,?_⟩);refine cE ?_;refine cK _ (bV (some ([1,3],none)) _ (bU (ae fun fM cr h0 g6 => ai fun ga cD => ?_)))
  refine cE ?_;refine cD _ (cr (some ([2],none)) _ (dd _ (bx _ ?_)))
  exact jq
 rw [decide_eq_true aj] at k2
 have aA : sz l := ⟨ba,af,aj⟩
 rw [if_pos aA]
 have qt := MJ l 7 (by omega) aA
 by_cases av : 4096 < dm l 7
 ·rw [if_pos av]
  generalize dm l 7 = x at qt av
  unfold bK A0 AW;delta ab aa ay
  have ad := @av
  refine ae fun bD aK b9 ck => ai fun ca aH => ?_;refine al ad ?_;refine aH _ (aK (some ([1],none)) _ (ae fun cg aP bx b8 => cj fun ch bI kV dd dU => ae fun cM bV dQ eP => ae fun cG bp c5 dn => ai fun cI bE => ?_));refine ag 2 ad ?_;refine aM 1 ad ?_;refine Or.inl (Or.inl ⟨_,bX,?_⟩);refine al ad ?_;refine bE _ (bp (some ([1,3],none)) _ (bs (ae fun dB cv g7 gw => ai fun bz aR => ?_)));refine ag 2 ad ?_;refine aM 1 ad ?_;refine Or.inl (Or.inl ⟨_,cL,?_⟩);refine al ad ?_;refine aR _ (cv (some ([1,3],none)) _ (bs (ai fun eK cK => ?_)));refine ag 2 ad ?_;refine aM 1 ad ?_;refine Or.inl (Or.inl ⟨_,k2,?_⟩);refine al ad ?_;refine cK _ (bV (some ([1,3],none)) _ (bs (ae fun fM cr h0 g6 => ai fun ga cD => ?_)))
  refine ag 1 ad ?_;refine aM 1 ad ?_;refine Or.inl (Or.inl ⟨_,qt,?_⟩);refine ag 1 ad ?_;refine al ad ?_;refine cD _ (cr (some ([16],none)) _ (bU (ae fun gK dF nu ln => ai fun hc dq => ?_)));refine al ad ?_;refine dq _ (dF (some ([2],none)) _ (dd _ (bx _ ?_)))
  exact cQ ad
 ·rw [if_neg av]
  generalize dm l 7 = x at qt av
  unfold bK A0 AW;delta ab aa ay
  have ad := @av
  refine ae fun bD aK b9 ck => ai fun ca aH => ?_;refine al ad ?_;refine aH _ (aK (some ([1],none)) _ (ae fun cg aP bx b8 => cj fun ch bI kV dd dU => ae fun cM bV dQ eP => ae fun cG bp c5 dn => ai fun cI bE => ?_));refine ag 2 ad ?_;refine aM 1 ad ?_;refine Or.inl (Or.inl ⟨_,bX,?_⟩);refine al ad ?_;refine bE _ (bp (some ([1,3],none)) _ (bs (ae fun dB cv g7 gw => ai fun bz aR => ?_)));refine ag 2 ad ?_;refine aM 1 ad ?_;refine Or.inl (Or.inl ⟨_,cL,?_⟩);refine al ad ?_;refine aR _ (cv (some ([1,3],none)) _ (bs (ai fun eK cK => ?_)));refine ag 2 ad ?_;refine aM 1 ad ?_;refine Or.inl (Or.inl ⟨_,k2,?_⟩);refine al ad ?_;refine cK _ (bV (some ([1,3],none)) _ (bs (ae fun fM cr h0 g6 => ai fun ga cD => ?_)))
  refine ag 1 ad ?_;refine aM 1 ad ?_;refine Or.inl (Or.inl ⟨_,qt,?_⟩);refine ag 1 ad ?_;refine al ad ?_;refine cD _ (cr (some ([16],none)) _ (bs (bI _ (aP (some ([],none)) _ (ae fun gK dF nu ln => ai fun hc dq => ?_)))));refine al ad ?_;refine dq _ (dF (some ([2],none)) _ ?_)
  exact cQ ad
theorem MK (l : b1) : cq 29 [.agg (fu l)] (eA (e4 l == 0)) := by
 refine df Tryz.func29 anT rfl ?_
 have bX := MI l
 generalize e4 l = c at bX ⊢
 unfold bK WM VC;delta ab aa ay a3
 refine ae fun _ aK _ _ => ai fun _ aH => ?_;refine cE ?_;refine aH _ (aK (some ([1],none)) _ (ae fun _ aP _ _ => ai fun _ bk => ?_));refine c4 1 ?_;refine eH 1 ?_;refine Or.inl (Or.inl ⟨_,bX,?_⟩);refine c4 1 ?_;refine cE ?_;refine bk _ (aP (some ([2],none)) _ ?_)
 exact jq
theorem ML (l : b1) : cq 30 [.agg (fu l)] (aG (A3 l)) := by
 refine df Tryz.func30 anU rfl ?_
 have bX := MK l
 unfold A3
 by_cases h : e4 l = 0
 ·rw [if_pos h]
  rw [h] at bX
  have cL := MJ l 7 (by omega) (kb h).1
  generalize dm l 7 = x at cL ⊢
  unfold bK N9 NG;delta ab aa ay
  refine ae fun bD aK b9 ck => ai fun ca aH => ?_;refine cE ?_;refine aH _ (aK (some ([1],none)) _ (ae fun cg aP bx b8 => ae fun ch bI dd dU => ai fun cM b0 => ?_));refine c4 1 ?_;refine eH 1 ?_;refine Or.inl (Or.inl ⟨_,bX,?_⟩);refine cE ?_;refine b0 _ (bI (some ([1,5],none)) _ (bs (aP (some ([1],none)) _ (ae fun cG bp c5 dn => ai fun cI bE => ?_))));refine c4 1 ?_;refine eH 1 ?_;refine Or.inl (Or.inl ⟨_,cL,?_⟩);refine cE ?_;refine bE _ (bp (some ([2],none)) _ ?_)
  exact jq
 ·rw [if_neg h]
  rw [show (e4 l == 0) = false by simpa using h] at bX
  unfold bK N9 NG;delta ab aa ay
  refine ae fun bD aK b9 ck => ai fun ca aH => ?_;refine cE ?_;refine aH _ (aK (some ([1],none)) _ (ae fun cg aP bx b8 => ae fun ch bI dd dU => ai fun cM b0 => ?_));refine c4 1 ?_;refine eH 1 ?_;refine Or.inl (Or.inl ⟨_,bX,?_⟩);refine cE ?_;refine b0 _ (bI (some ([1,5],none)) _ (bU (ae fun cG bp c5 dn => ai fun cI bE => ?_)));refine cE ?_;refine bE _ (bp (some ([2],none)) _ (bx _ ?_))
  exact jq
set_option maxHeartbeats 4000000 in
theorem Hk (l : b1) (p : Nat) (hp : p < 7) (i more : Int) (hm : -10000 ≤ more ∧ more ≤ 10000) : cq 61 [.agg (fu l),aG p,aG i,aG more] (aG (ho l p i more)) := by
 refine df Tryz.func61 anJ rfl ?_
 have bX := MK l
 have cL := TZ l p hp
 unfold ho
 by_cases h : e4 l = 0
 case neg =>
  rw [if_neg (fun e6 => h e6.1)]
  rw [show (e4 l == 0) = false by simpa using h] at bX
  unfold bK D8 D4;delta ab a8 aa ay a3
  refine ae fun bD aK b9 ck => ai fun ca aH => ?_;refine cE ?_;refine aH _ (aK (some ([1,2,3,4],none)) _ (ae fun cg aP bx b8 => ae fun ch bI dd dU => ai fun cM b0 => ?_));refine c4 1 ?_;refine eH 1 ?_;refine Or.inl (Or.inl ⟨_,bX,?_⟩);refine c4 4 ?_;refine c4 4 ?_;refine eH 1 ?_;refine eH 1 ?_
  skip
  refine c4 1 ?_;refine cE ?_;refine b0 _ (bI (some ([1,2,3,4,22],none)) _ (bU (ae fun cG bp c5 dn => ai fun cI bE => ?_)));refine cE ?_;refine bE _ (bp (some ([8],none)) _ (bx _ ?_))
  exact jq
 rw [h] at bX
 by_cases af : i < 0
 ·rw [if_neg (by omega)]
  unfold bK D8 D4;delta ab a8 aa ay a3
  have ad := @af
  refine ae fun bD aK b9 ck => ai fun ca aH => ?_;refine al ad ?_;refine aH _ (aK (some ([1,2,3,4],none)) _ (ae fun cg aP bx b8 => ae fun ch bI dd dU => ai fun cM b0 => ?_));refine ag 1 ad ?_;refine aM 1 ad ?_;refine Or.inl (Or.inl ⟨_,bX,?_⟩);refine ag 4 ad ?_;refine ag 4 ad ?_;refine aM 1 ad ?_;refine aM 1 ad ?_
  skip
  refine ag 1 ad ?_;refine al ad ?_;refine b0 _ (bI (some ([1,2,3,4,22],none)) _ (bU (ae fun cG bp c5 dn => ai fun cI bE => ?_)));refine al ad ?_;refine bE _ (bp (some ([8],none)) _ (bx _ ?_))
  exact cQ ad
 by_cases aj : mX l p ≤ i
 ·rw [if_neg (by omega)]
  generalize mX l p = m at cL aj
  unfold bK D8 D4;delta ab a8 aa ay a3
  have ad := And.intro @af @aj
  refine ae fun bD aK b9 ck => ai fun ca aH => ?_;refine al ad ?_;refine aH _ (aK (some ([1,2,3,4],none)) _ (ae fun cg aP bx b8 => ae fun ch bI dd dU => ai fun cM b0 => ?_));refine ag 1 ad ?_;refine aM 1 ad ?_;refine Or.inl (Or.inl ⟨_,bX,?_⟩);refine ag 4 ad ?_;refine ag 4 ad ?_;refine aM 1 ad ?_;refine aM 1 ad ?_;refine Or.inl (Or.inl ⟨_,cL,?_⟩);refine ag 1 ad ?_;refine al ad ?_;refine b0 _ (bI (some ([1,2,3,4,22],none)) _ (bU (ae fun cG bp c5 dn => ai fun cI bE => ?_)));refine al ad ?_;refine bE _ (bp (some ([8],none)) _ (bx _ ?_))
  exact cQ ad
 rw [if_pos ⟨h,by omega,by omega⟩]
 obtain ⟨aA,cJ⟩ := kb h
 have k2 := MJ l p (by omega) aA
 have aZ := u3 aA p
 have kT := Ml aA p
 have ao := size_le p
 have aJ : [aG 8,aG 8,aG 8,aG 1,aG 104,aG 0,aG 32][p]? = some (aG (l6 p)) :=
  match p,hp with
  | 0,_ => rfl | 1,_ => rfl | 2,_ => rfl | 3,_ => rfl | 4,_ => rfl | 5,_ => rfl | 6,_ => rfl
 have fD : (0 : Nat) + p * 1 = p := by omega
 have BS : (0 : Nat) + p = p := by omega
 have gs := Q9
 have nC : (p : Int) < 7 := by omega
 have v7 : 0 ≤ i * l6 p := Int.mul_nonneg (by omega) ao.1
 have so : i * l6 p ≤ 2048 * 104 := Int.mul_le_mul (by omega) ao.2 ao.1 (by omega)
 have CB : dm l p ≤ 213000 * 7 := by
  have := aZ.2
  have : (213000 : Int) * p ≤ 213000 * 7 := by omega
  omega
 generalize dm l p = f at *
 generalize mX l p = m at cL aj
 generalize l6 p = s at *
 have fB : IntKind.i64.wrap (i * s) = i * s := by rw [IntKind.wrap_i64]; omega
 have cn : IntKind.i64.wrap (f + i * s) = f + i * s := by rw [IntKind.wrap_i64]; omega
 have dM : IntKind.i64.wrap (f + i * s + more) = f + i * s + more := by rw [IntKind.wrap_i64]; omega
 unfold bK D8 D4;delta ab a8 aa ay a3
 have ad := And.intro @af (And.intro @aj (And.intro @gs (And.intro @aJ (And.intro @fD (And.intro @BS (And.intro @nC (And.intro @fB (And.intro @cn @dM))))))))
 refine ae fun bD aK b9 ck => ai fun ca aH => ?_;refine al ad ?_;refine aH _ (aK (some ([1,2,3,4],none)) _ (ae fun cg aP bx b8 => ae fun ch bI dd dU => ai fun cM b0 => ?_));refine ag 1 ad ?_;refine aM 1 ad ?_;refine Or.inl (Or.inl ⟨_,bX,?_⟩);refine ag 4 ad ?_;refine ag 4 ad ?_;refine aM 1 ad ?_;refine aM 1 ad ?_;refine Or.inl (Or.inl ⟨_,cL,?_⟩);refine ag 1 ad ?_;refine al ad ?_;refine b0 _ (bI (some ([1,2,3,4,22],none)) _ (bs (aP (some ([1,2,3,4],none)) _ (ae fun cG bp c5 dn => ?_))));refine gh [] (n := 10) fun cI bE => ?_;refine gY ?_;refine cF 1 ad ?_;refine gd 1 ad ?_;refine gd 1 ad ?_;refine ⟨_,k2,?_⟩;refine cF 3 ad ?_;refine cF 1 ad ?_;refine cF 1 ad ?_;refine cF 1 ad ?_;refine lh ad ?_;refine bE _ ?_;refine gZ ?_;refine ag 1 ad ?_;refine al ad ?_;refine bp (some ([8],none)) _ ?_
 exact cQ ad
theorem ajV (l : b1) : cq 31 [.agg (fu l)] (aG (ho l 0 0 1)) := by
 refine df Tryz.func31 anO rfl ?_
 have bX := Hk l 0 (by omega) 0 1 (by omega)
 generalize ho l 0 0 1 = x at bX ⊢
 unfold bK WI Vy;delta ab aa ay
 refine ae fun _ aK _ _ => ai fun _ aH => ?_;refine cE ?_;refine aH _ (aK (some ([1],none)) _ (ae fun _ aP _ _ => ai fun _ bk => ?_));refine c4 1 ?_;refine eH 1 ?_;refine Or.inl (Or.inl ⟨_,bX,?_⟩);refine cE ?_;refine bk _ (aP (some ([2],none)) _ ?_)
 exact jq
theorem ajX (l : b1) (t : Int) : cq 32 [.agg (fu l),aG t] (aG (ho l 4 (IntKind.i64.wrap (t - 1)) 0)) := by
 refine df Tryz.func32 anV rfl ?_
 have bX := Hk l 4 (by omega) (IntKind.i64.wrap (t - 1)) 0 (by omega)
 generalize ho l 4 (IntKind.i64.wrap (t - 1)) 0 = x at bX ⊢
 unfold bK WN VD;delta ab aa ay
 refine ae fun _ aK _ _ => ai fun _ aH => ?_;refine cE ?_;refine aH _ (aK (some ([1,2],none)) _ (ae fun _ aP _ _ => ai fun _ bk => ?_));refine c4 1 ?_;refine c4 2 ?_;refine eH 1 ?_;refine Or.inl (Or.inl ⟨_,bX,?_⟩);refine cE ?_;refine bk _ (aP (some ([4],none)) _ ?_)
 exact jq
theorem ajU (l : b1) (i : Int) : cq 33 [.agg (fu l),aG i] (aG (ho l 6 i 0)) := by
 refine df Tryz.func33 anM rfl ?_
 have bX := Hk l 6 (by omega) i 0 (by omega)
 generalize ho l 6 i 0 = x at bX ⊢
 unfold bK WH Vx;delta ab aa ay
 refine ae fun _ aK _ _ => ai fun _ aH => ?_;refine cE ?_;refine aH _ (aK (some ([1,2],none)) _ (ae fun _ aP _ _ => ai fun _ bk => ?_));refine c4 1 ?_;refine eH 1 ?_;refine eH 1 ?_;refine Or.inl (Or.inl ⟨_,bX,?_⟩);refine cE ?_;refine bk _ (aP (some ([4],none)) _ ?_)
 exact jq
end Go.Proofs.YtkmbcjnaaokilaaGreatDoor
