/-
  Layer 12 by shadows: the bits of the blocks, the ranges of a search.
-/
import Derived.Test.YtkmbcjnaaokilaaGreatDoorK11
import Derived.Test.YtkmbcjnaaokilaaGreatDoorMK9
import Derived.Test.YtkmbcjnaaokilaaGreatDoorSc12
import Derived.Test.YtkmbcjnaaokilaaGreatDoorMC
namespace Go.Proofs.YtkmbcjnaaokilaaGreatDoor
set_option linter.unusedSimpArgs false
set_option linter.unusedVariables false
open Go.RowKit Go.Maps
theorem aeB {t t2 : TypeId} {x y : Operand} {k k2 : IntKind} {p q : Int} (ba : 0 ≤ q) (af : q ≤ k.bits) : ss (.binOp .shl t x y t2) [x,y] [.v (.int k p),.v (.int k2 q)] (.v (.int k (k.wrap (p * 2 ^ q.toNat)))) := wU fun o a w H ax aO br => by
 cases br with
 | cons ar br =>
  cases br with
  | cons aV br =>
   generalize aT : a.eval x = u at ar
   generalize mA : a.eval y = v at aV
   cases ar; cases aV
   refine ⟨_,?_,.v rfl⟩
   simp [execOp,ax,aT,mA,eqGuard,binOp,shift_shl k k2 p q ba af]
def bw (l : b1) (i : Nat) : Int := dm l 5 + ((i / 32 : Nat) : Int)
def fX (i : Nat) : Int := ((2 ^ (i % 32) : Nat) : Int)
theorem acZ (i : Nat) : 1 ≤ fX i ∧ fX i ≤ 2147483648 := by
 unfold fX
 have af : 2 ^ (i % 32) ≤ 2 ^ 31 := Nat.pow_le_pow_right (by omega) (by omega)
 have aj : 0 < 2 ^ (i % 32) := Nat.pow_pos (by omega)
 omega
theorem acP {l : b1} (aE : e4 l = 0) {i : Nat} (aq : (i : Int) < l.blocks) : ho l 5 i ((i / 32 : Nat) : Int) = bw l i := by
 unfold ho bw
 rw [if_pos ⟨aE,by omega,aq⟩]
 show dm l 5 + (i : Int) * 0 + _ = _
 omega
theorem rM {l : b1} (aE : e4 l = 0) (i : Nat) : 0 ≤ bw l i := by
 have := (u3 (kb aE).1 5).1
 unfold bw; omega
set_option maxHeartbeats 2000000 in
theorem xz {l : b1} (aE : e4 l = 0) (i : Nat) (aq : (i : Int) < l.blocks) : cq 38 [.agg (fu l),aG i] (.bY [aG (bw l i),aG (fX i)]) := by
 refine df Tryz.func38 anL rfl ?_
 have aI := (kb aE).1.2.2
 have bX := Hk l 5 (by omega) i ((i / 32 : Nat) : Int) (by omega)
 rw [acP aE aq] at bX
 have L5 : cq 61 [.agg (fu l),.v (.int .i64 5),aG i,aG ((i / 32 : Nat) : Int)] (aG (bw l i)) := bX
 have bJ : IntKind.i64.wrap ((i : Int).tdiv 32) = ((i / 32 : Nat) : Int) := by rw [Int.tdiv_eq_ediv_of_nonneg (by omega),IntKind.wrap_i64]; omega
 have cf : (i : Int).tmod 32 = ((i % 32 : Nat) : Int) := by rw [Int.tmod_eq_emod_of_nonneg (by omega)]; omega
 have dA : ¬ bw l i < 0 := by have := rM aE i; omega
 have fr : IntKind.i64.wrap (1 * 2 ^ ((i % 32 : Nat) : Int).toNat) = fX i := by
  have af := acZ i
  have e : (1 : Int) * 2 ^ ((i % 32 : Nat) : Int).toNat = fX i := by unfold fX; rw [Int.toNat_natCast,Int.one_mul]; simp
  rw [e,IntKind.wrap_i64]; omega
 have jY : (0 : Int) ≤ ((i % 32 : Nat) : Int) := by omega
 have l4 : ((i % 32 : Nat) : Int) ≤ IntKind.i64.bits := by show _ ≤ (64 : Int); omega
 generalize hm : ((i % 32 : Nat) : Int) = m at cf fr jY l4
 generalize a6 : ((i / 32 : Nat) : Int) = d at L5 bJ
 generalize bw l i = P at L5 dA ⊢
 unfold bK WG Vw;delta ab aa ay
 have ad := And.intro @bJ (And.intro @cf (And.intro @dA @fr))
 refine ae fun _ aK _ _ => ai fun _ aH => ?_;refine al ad ?_;refine aH _ (aK (some ([1,2],none)) _ (ae fun _ aP _ _ => ai fun _ bk => ?_));refine ag 1 ad ?_;refine ag 3 ad ?_;refine aM 1 ad ?_;refine Or.inl (Or.inl ⟨_,L5,?_⟩);refine al ad ?_;refine bk _ (aP (some ([1,6],none)) _ (ae fun _ bV _ _ => ae fun _ bp _ _ => ai fun _ bE => ?_));refine aS ad ?_;refine bE _ (bp (some ([1,6,13],none)) _ (bs (bV (some ([1,6],none)) _ (ae fun _ cv _ _ => ?_))));refine gh [] (n := 5) fun _ aR => ?_;refine gY ?_;refine cF 3 ad ?_;refine gd 1 ad ?_;refine ⟨_,aeB jY l4,?_⟩;refine lh ad ?_;refine aR _ ?_;refine gZ ?_;refine al ad ?_;refine cv (some ([4,5],none)) _ ?_
 exact cQ ad
theorem TH (l : b1) (i : Int) : cq 34 [.agg (fu l),aG i] (aG (if e4 l = 0 then (if 0 ≤ i ∧ i < l.blocks then 0 else 3) else 1)) := by
 refine df Tryz.func34 amw rfl ?_
 have bX := MI l
 by_cases h : e4 l = 0
 ·rw [h] at bX
  rw [if_pos h]
  by_cases af : i < 0
  ·rw [if_neg (by omega)]
   unfold bK D6 D2;delta ab a8 aa ay a3
   have ad := @af
   refine ae fun bD aK b9 ck => ai fun ca aH => ?_;refine al ad ?_;refine aH _ (aK (some ([1,2],none)) _ (ae fun cg aP bx b8 => cj fun ch bI kV dd dU => ae fun cM bV dQ eP => ai fun cG dk => ?_));refine ag 1 ad ?_;refine aM 1 ad ?_;refine Or.inl (Or.inl ⟨_,bX,?_⟩);refine ag 1 ad ?_;refine al ad ?_;refine dk _ (bV (some ([1,2,5],none)) _ (bs (ae fun cI cz ey fp => ai fun dB c7 => ?_)));refine ag 2 ad ?_;refine ag 4 ad ?_;refine ag 1 ad ?_;refine al ad ?_;refine c7 _ (cz (some ([9],none)) _ (bU (ae fun bz cR h1 gQ => ai fun eK cK => ?_)));refine al ad ?_;refine cK _ (cR (some ([4],none)) _ (dd _ (bx _ ?_)))
   exact cQ ad
  ·by_cases aj : l.blocks ≤ i
   ·rw [if_neg (by omega)]
    unfold bK D6 D2;delta ab a8 aa ay a3
    have ad := And.intro @af @aj
    refine ae fun bD aK b9 ck => ai fun ca aH => ?_;refine al ad ?_;refine aH _ (aK (some ([1,2],none)) _ (ae fun cg aP bx b8 => cj fun ch bI kV dd dU => ae fun cM bV dQ eP => ai fun cG dk => ?_));refine ag 1 ad ?_;refine aM 1 ad ?_;refine Or.inl (Or.inl ⟨_,bX,?_⟩);refine ag 1 ad ?_;refine al ad ?_;refine dk _ (bV (some ([1,2,5],none)) _ (bs (ae fun cI cz ey fp => ai fun dB c7 => ?_)));refine ag 2 ad ?_;refine ag 4 ad ?_;refine ag 1 ad ?_;refine al ad ?_;refine c7 _ (cz (some ([9],none)) _ (bU (ae fun bz cR h1 gQ => ai fun eK cK => ?_)));refine al ad ?_;refine cK _ (cR (some ([4],none)) _ (dd _ (bx _ ?_)))
    exact cQ ad
   ·rw [if_pos (by omega)]
    unfold bK D6 D2;delta ab a8 aa ay a3
    have ad := And.intro @af @aj
    refine ae fun bD aK b9 ck => ai fun ca aH => ?_;refine al ad ?_;refine aH _ (aK (some ([1,2],none)) _ (ae fun cg aP bx b8 => cj fun ch bI kV dd dU => ae fun cM bV dQ eP => ai fun cG dk => ?_));refine ag 1 ad ?_;refine aM 1 ad ?_;refine Or.inl (Or.inl ⟨_,bX,?_⟩);refine ag 1 ad ?_;refine al ad ?_;refine dk _ (bV (some ([1,2,5],none)) _ (bs (ae fun cI cz ey fp => ai fun dB c7 => ?_)));refine ag 2 ad ?_;refine ag 4 ad ?_;refine ag 1 ad ?_;refine al ad ?_;refine c7 _ (cz (some ([9],none)) _ (bs (bI _ (aP (some ([],none)) _ (ae fun bz cR h1 gQ => ai fun eK cK => ?_)))));refine al ad ?_;refine cK _ (cR (some ([4],none)) _ ?_)
    exact cQ ad
 ·rw [if_neg h]
  have d : (e4 l != 0) = true := by simpa using h
  unfold bK D6 D2;delta ab a8 aa ay a3
  have ad := @d
  refine ae fun bD aK b9 ck => ai fun ca aH => ?_;refine al ad ?_;refine aH _ (aK (some ([1,2],none)) _ (ae fun cg aP bx b8 => cj fun ch bI kV dd dU => ae fun cM bV dQ eP => ai fun cG dk => ?_));refine ag 1 ad ?_;refine aM 1 ad ?_;refine Or.inl (Or.inl ⟨_,bX,?_⟩);refine ag 1 ad ?_;refine al ad ?_;refine dk _ (bV (some ([1,2,5],none)) _ (bU (ae fun cI cz ey fp => ai fun dB c7 => ?_)));refine al ad ?_;refine c7 _ (cz (some ([4],none)) _ (dd _ (bx _ ?_)))
  exact cQ ad
def hF (b a : Nat) : Nat := min b ((a / 32 + 1) * 32)
def iF (b : Nat) : Nat → Nat → List (Nat × Nat)
 | 0,_ => []
 | f + 1,a => if a < b then (a,hF b a) :: iF b f (hF b a) else []
theorem wI {b a : Nat} (h : a < b) : a < hF b a ∧ hF b a ≤ b := by unfold hF; omega
theorem Oj (b : Nat) : ∀ (f g a : Nat),b ≤ a + f → b ≤ a + g → iF b f a = iF b g a
 | 0,g,a,h,_ => by
  cases g with
  | zero => rfl
  | succ g => unfold iF; rw [if_neg (by omega)]
 | f + 1,0,a,_,h => by unfold iF; rw [if_neg (by omega)]
 | f + 1,g + 1,a,af,aj => by
  unfold iF
  split
  ·rename_i h
   have := wI h
   rw [Oj b f g _ (by omega) (by omega)]
  ·rfl
theorem HV {b a : Nat} (h : a < b) : iF b b a = (a,hF b a) :: iF b b (hF b a) := by
 have := wI h
 rw [Oj b b (b + 1) a (by omega) (by omega),iF,if_pos h]
theorem W7 {b a : Nat} (h : b ≤ a) : iF b b a = [] := by
 rw [Oj b b 0 a (by omega) (by omega)]; rfl
theorem zC {b : Nat} : ∀ (f a : Nat) {p : Nat × Nat},p ∈ iF b f a → p.1 < p.2 ∧ p.2 ≤ b ∧ p.2 ≤ (p.1 / 32 + 1) * 32
 | 0,_,_,h => by cases h
 | f + 1,a,p,h => by
  unfold iF at h
  split at h
  ·rename_i bQ
   have := wI bQ
   rcases List.mem_cons.1 h with rfl | h
   ·refine ⟨this.1,this.2,?_⟩
    show hF b a ≤ _
    unfold hF
    exact Nat.min_le_right _ _
   ·exact zC f _ h
  ·cases h
def lC (b a : Nat) : List (Nat × Nat) := iF b b a ++ iF a a 0
abbrev wP (p : Nat × Nat) : List aw := [aG p.1,aG p.2]
def ZT (b a : Nat) (k : Nat) (S : ak) : Prop :=
 ∃ (i : Nat) (done : List (Nat × Nat)),i ≤ b ∧ k = b - i ∧ done.length ≤ i ∧ done ++ iF b b i = iF b b a ∧ S = ⟨[(0,aG b),(1,aG a),(5,.own 0),(6,aG i)],[(0,.row 131 2 (done.map wP))],1⟩
def ZU (b a : Nat) (k : Nat) (S : ak) : Prop :=
 ∃ (i : Nat) (done : List (Nat × Nat)),i ≤ a ∧ k = a - i ∧ done.length ≤ 64 + i ∧ iF b b a ++ iF a a 0 = done ++ iF a a i ∧ S = ⟨[(1,aG a),(5,.own 0),(8,aG i)],[(0,.row 131 2 (done.map wP))],1⟩
set_option maxHeartbeats 4000000 in
theorem ajn (b a : Nat) (aI : b ≤ 64) (a5 : a ≤ b) : cq 35 [aG b,aG a] (.au 2 0 ((lC b a).map wP)) := by
 refine df Tryz.func35 amH rfl ?_
 have fB : ∀ i : Nat,i ≤ 64 → IntKind.i64.wrap ((i : Int).tdiv 32) = ((i / 32 : Nat) : Int) := fun i aq => by rw [Int.tdiv_eq_ediv_of_nonneg (by omega),IntKind.wrap_i64]; omega
 have cn : ∀ i : Nat,i ≤ 64 → IntKind.i64.wrap (((i / 32 : Nat) : Int) + 1) = ((i / 32 + 1 : Nat) : Int) := fun i aq => by rw [IntKind.wrap_i64]; omega
 have dM : ∀ i : Nat,i ≤ 64 → IntKind.i64.wrap (((i / 32 + 1 : Nat) : Int) * 32) = (((i / 32 + 1) * 32 : Nat) : Int) := fun i aq => by rw [IntKind.wrap_i64]; omega
 have fH : ∀ b i : Nat,min (b : Int) (((i / 32 + 1) * 32 : Nat) : Int) = ((hF b i : Nat) : Int) := fun b i => by unfold hF; omega
 unfold lC
 unfold bK VY UP;delta ab aa ay
 refine ae fun _ aK _ _ => ai fun _ aH => ?_;refine cE ?_;refine aH _ (aK (some ([0,1],none)) _ (ae fun _ aP _ _ => ai fun _ bk => ?_));refine cE ?_;refine bk _ (aP (some ([0,1,5],none)) _ (ae fun _ bV _ _ => ae fun _ bp _ _ => ai fun _ bE => ?_));refine cE ?_;refine bE _ (bp (some ([0,1,5,6],none)) _ (cj fun _ _ vD _ _ => ?_));refine ie (ZT b a) (b - a) (some ([0,1,5,6],some ([0],1))) ([.slot 5 (some 131) 2]) ?_ ?_
 ·try refine dR ?_
  exact ⟨a,[],by omega,by omega,by simp,by simp,by rfl⟩
 ·intro k bT aW
  obtain ⟨i,done,aq,rfl,w5,a6,rfl⟩ := aW
  have dZ : i = b ∨ i < b := by omega
  intro _ cR _ gQ
  rcases dZ with rfl | ea
  ·skip
   have v1 : ¬ (i : Int) < (i : Int) := by omega
   have ad := @v1
   refine ae fun _ _ _ jb => ae fun _ cr _ _ => ai fun _ cD => ?_;refine aS ad ?_;refine cD _ (cr (some ([0,1,5,6,13],none)) _ (bs (jb 0 _ (gQ 0 _ (vD _ (bV (some ([1,5],none)) _ (ae fun _ dF _ _ => ae fun _ fx _ _ => ai fun _ eJ => ?_)))))));refine al ad ?_;refine eJ _ (fx (some ([1,5,8],none)) _ (cj fun _ _ LR _ _ => ?_));refine ie (ZU i a) (a) (some ([1,5,8],some ([0],1))) ([]) ?_ ?_
   ·try refine dR ?_
    exact ⟨0,done,by omega,by omega,by omega,by rw [← a6,W7 (Nat.le_refl i),List.append_nil],by rfl⟩
   ·intro k bT aW
    obtain ⟨j,BQ,aN,rfl,aqu,w4,rfl⟩ := aW
    have dZ : j = a ∨ j < a := by omega
    intro _ kC _ yx
    rcases dZ with rfl | pI
    ·skip
     have v1 : ¬ (j : Int) < (j : Int) := by omega
     have aoo : iF i i j ++ iF j j 0 = BQ := by rw [w4,W7 (Nat.le_refl j),List.append_nil]
     have aD := And.intro ad (And.intro @v1 @aoo)
     refine ae fun _ _ _ vd => ae fun _ hJ _ _ => ai fun _ hX => ?_;refine aS aD ?_;refine hX _ (hJ (some ([1,5,8,29],none)) _ (bs (vd 2 _ (yx 2 _ (LR _ (dF (some ([5],none)) _ (ae fun _ hK _ _ => ai fun _ gf => ?_)))))));refine al aD ?_;refine gf _ (hK (some ([4],none)) _ ?_)
     exact cQ aD
    ·skip
     have v1 : (j : Int) < (a : Int) := by omega
     have v2 := fB j (by omega)
     have oL := cn j (by omega)
     have v4 := dM j (by omega)
     have sn := fH a j
     have v6 := wI pI
     have ao := HV pI
     have zH : (BQ.length + 1) * 16 ≤ 140737488355328 := by omega
     have zI : BQ.map wP ++ [[aG j,aG (hF a j)]] = (BQ ++ [(j,hF a j)]).map wP := by simp
     have bc := And.intro ad (And.intro @v1 (And.intro @v2 (And.intro @oL (And.intro @v4 (And.intro @sn @zH)))))
     refine ae fun _ iu _ _ => ae fun _ iP _ _ => ai fun _ gD => ?_;refine aS bc ?_;refine gD _ (iP (some ([1,5,8,29],none)) _ (bU (iu (some ([1,5,8],none)) _ (cj fun _ lv _ _ _ => ae fun _ iQ _ _ => ai fun _ iO => ?_))));refine ag 3 bc ?_;refine ag 1 bc ?_;refine ag 1 bc ?_;refine al bc ?_;refine iO _ (iQ (some ([1,5,8,9],none)) _ (ae fun _ s0 _ _ => ai fun _ jU => ?_));refine ag 5 bc ?_;refine ag 1 bc ?_;refine al bc ?_;refine jU _ (s0 (some ([1,5,9],none)) _ (ai fun _ mr => ?_));refine al bc ?_;refine mr _ (lv _ ?_);refine kC (a - hF a j) (some ([1,5,8],some ([1],1))) _ ?_ ?_
     all_goals try refine dR ?_
     ·omega
     ·exact ⟨hF a j,BQ ++ [(j,hF a j)],by omega,by omega,by simp; omega,by rw [w4,ao,List.append_assoc]; rfl,by rw [zI]⟩
  ·skip
   have v1 : (i : Int) < (b : Int) := by omega
   have v2 := fB i (by omega)
   have oL := cn i (by omega)
   have v4 := dM i (by omega)
   have sn := fH b i
   have v6 := wI ea
   have ao := HV ea
   have zH : (done.length + 1) * 16 ≤ 140737488355328 := by omega
   have zI : done.map wP ++ [[aG i,aG (hF b i)]] = (done ++ [(i,hF b i)]).map wP := by simp
   have bt := And.intro @v1 (And.intro @v2 (And.intro @oL (And.intro @v4 (And.intro @sn @zH))))
   refine ae fun _ pP _ _ => ae fun _ kD _ _ => ai fun _ lq => ?_;refine aS bt ?_;refine lq _ (kD (some ([0,1,5,6,13],none)) _ (bU (pP (some ([0,1,5,6],none)) _ (cj fun _ pQ _ _ _ => ae fun _ ox _ _ => ai fun _ nk => ?_))));refine ag 3 bt ?_;refine ag 1 bt ?_;refine ag 1 bt ?_;refine al bt ?_;refine nk _ (ox (some ([0,1,5,6,7],none)) _ (ae fun _ oy _ _ => ai fun _ jV => ?_));refine ag 5 bt ?_;refine ag 1 bt ?_;refine al bt ?_;refine jV _ (oy (some ([0,1,5,7],none)) _ (ai fun _ nm => ?_));refine al bt ?_;refine nm _ (pQ _ ?_);refine cR (b - hF b i) (some ([0,1,5,6],some ([1],1))) _ ?_ ?_
   all_goals try refine dR ?_
   ·omega
   ·exact ⟨hF b i,done ++ [(i,hF b i)],by omega,by omega,by simp; omega,by rw [List.append_assoc,← a6,ao]; rfl,by rw [zI]⟩
end Go.Proofs.YtkmbcjnaaokilaaGreatDoor
