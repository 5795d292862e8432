/-
  Layer 12 by shadows: the bits of the blocks, the ranges of a search.
-/
import Derived.Test.YtkmbcjnaaokilaaGreatDoorK11
import Derived.Test.YtkmbcjnaaokilaaGreatDoorMK12
import Derived.Test.YtkmbcjnaaokilaaGreatDoorSc12
import Derived.Test.YtkmbcjnaaokilaaGreatDoorMC
namespace Go.Proofs.YtkmbcjnaaokilaaGreatDoor
set_option linter.unusedSimpArgs false
set_option linter.unusedVariables false
open Go.RowKit Go.Maps
theorem aba {t t2 : TypeId} {x y : Operand} {k k2 : IntKind} {p q : Int} (bb : 0 ≤ q) (af : q ≤ k.bits) : rl (.binOp .shl t x y t2) [x,y] [.v (.int k p),.v (.int k2 q)] (.v (.int k (k.wrap (p * 2 ^ q.toNat)))) := vg fun o a w H ay aN br => by
 cases br with
 | cons ar br =>
  cases br with
  | cons a1 br =>
   generalize aS : a.eval x = u at ar
   generalize lV : a.eval y = v at a1
   cases ar; cases a1
   refine ⟨_,?_,.v rfl⟩
   simp [execOp,ay,aS,lV,eqGuard,binOp,shift_shl k k2 p q bb af]
def bA (l : cc) (i : Nat) : Int := dp l 5 + ((i / 32 : Nat) : Int)
def fP (i : Nat) : Int := ((2 ^ (i % 32) : Nat) : Int)
theorem ZL (i : Nat) : 1 ≤ fP i ∧ fP i ≤ 2147483648 := by
 unfold fP
 have af : 2 ^ (i % 32) ≤ 2 ^ 31 := Nat.pow_le_pow_right (by omega) (by omega)
 have aj : 0 < 2 ^ (i % 32) := Nat.pow_pos (by omega)
 omega
theorem ZB {l : cc} (aF : fj l = 0) {i : Nat} (aq : (i : Int) < l.blocks) : g9 l 5 i ((i / 32 : Nat) : Int) = bA l i := by
 unfold g9 bA
 rw [if_pos ⟨aF,by omega,aq⟩]
 show dp l 5 + (i : Int) * 0 + _ = _
 omega
theorem qG {l : cc} (aF : fj l = 0) (i : Nat) : 0 ≤ bA l i := by
 have := (tK (ku aF).1 5).1
 unfold bA; omega
set_option maxHeartbeats 2000000 in
theorem y2 {l : cc} (aF : fj l = 0) (i : Nat) (aq : (i : Int) < l.blocks) : cu 38 [.agg (fe l),aI i] (.bR [aI (bA l i),aI (fP i)]) := by
 refine df Tryz.func38 aj4 rfl ?_
 have aJ := (ku aF).1.2.2
 have b2 := Fi l 5 (by omega) i ((i / 32 : Nat) : Int) (by omega)
 rw [ZB aF aq] at b2
 have JC : cu 61 [.agg (fe l),.v (.int .i64 5),aI i,aI ((i / 32 : Nat) : Int)] (aI (bA l i)) := b2
 have bL : IntKind.i64.wrap ((i : Int).tdiv 32) = ((i / 32 : Nat) : Int) := by rw [Int.tdiv_eq_ediv_of_nonneg (by omega),IntKind.wrap_i64]; omega
 have cd : (i : Int).tmod 32 = ((i % 32 : Nat) : Int) := by rw [Int.tmod_eq_emod_of_nonneg (by omega)]; omega
 have dV : ¬ bA l i < 0 := by have := qG aF i; omega
 have fW : IntKind.i64.wrap (1 * 2 ^ ((i % 32 : Nat) : Int).toNat) = fP i := by
  have af := ZL i
  have e : (1 : Int) * 2 ^ ((i % 32 : Nat) : Int).toNat = fP i := by unfold fP; rw [Int.toNat_natCast,Int.one_mul]; simp
  rw [e,IntKind.wrap_i64]; omega
 have ja : (0 : Int) ≤ ((i % 32 : Nat) : Int) := by omega
 have lu : ((i % 32 : Nat) : Int) ≤ IntKind.i64.bits := by show _ ≤ (64 : Int); omega
 generalize hm : ((i % 32 : Nat) : Int) = m at cd fW ja lu
 generalize aX : ((i / 32 : Nat) : Int) = d at JC bL
 generalize bA l i = P at JC dV ⊢
 unfold bJ Tq Si;delta ab aa aA
 have ad := And.intro @bL (And.intro @cd (And.intro @dV @fW))
 refine ae fun _ aK _ _ => ai fun _ aG => ?_;refine an ad ?_;refine aG _ (aK (some ([1,2],none)) _ (ae fun _ aQ _ _ => ai fun _ bh => ?_));refine ag 1 ad ?_;refine ag 3 ad ?_;refine aL 1 ad ?_;refine Or.inl (Or.inl ⟨_,JC,?_⟩);refine an ad ?_;refine bh _ (aQ (some ([1,6],none)) _ (ae fun _ bT _ _ => ae fun _ bp _ _ => ai fun _ bD => ?_));refine aU ad ?_;refine bD _ (bp (some ([1,6,13],none)) _ (bB (bT (some ([1,6],none)) _ (ae fun _ ck _ _ => ?_))));refine hy [] (n := 5) fun _ aP => ?_;refine hv ?_;refine cR 3 ad ?_;refine gj 1 ad ?_;refine ⟨_,aba ja lu,?_⟩;refine lJ ad ?_;refine aP _ ?_;refine hx ?_;refine an ad ?_;refine ck (some ([4,5],none)) _ ?_
 exact cO ad
theorem QH (l : cc) (i : Int) : cu 34 [.agg (fe l),aI i] (aI (if fj l = 0 then (if 0 ≤ i ∧ i < l.blocks then 0 else 3) else 1)) := by
 refine df Tryz.func34 aiT rfl ?_
 have b2 := Kc l
 by_cases h : fj l = 0
 ·rw [h] at b2
  rw [if_pos h]
  by_cases af : i < 0
  ·rw [if_neg (by omega)]
   unfold bJ Co Ch;delta ab a9 aa aA a6
   have ad := @af
   refine ae fun bz aK b6 cb => ai fun b7 aG => ?_;refine an ad ?_;refine aG _ (aK (some ([1,2],none)) _ (ae fun b8 aQ bt b5 => cx fun b9 bG kE c7 dF => ae fun cD bT dG eG => ai fun cv de => ?_));refine ag 1 ad ?_;refine aL 1 ad ?_;refine Or.inl (Or.inl ⟨_,b2,?_⟩);refine ag 1 ad ?_;refine an ad ?_;refine de _ (bT (some ([1,2,5],none)) _ (bB (ae fun cC cp ek ft => ai fun dy c0 => ?_)));refine ag 2 ad ?_;refine ag 4 ad ?_;refine ag 1 ad ?_;refine an ad ?_;refine c0 _ (cp (some ([9],none)) _ (bY (ae fun bo cN hM gR => ai fun ey cF => ?_)));refine an ad ?_;refine cF _ (cN (some ([4],none)) _ (c7 _ (bt _ ?_)))
   exact cO ad
  ·by_cases aj : l.blocks ≤ i
   ·rw [if_neg (by omega)]
    unfold bJ Co Ch;delta ab a9 aa aA a6
    have ad := And.intro @af @aj
    refine ae fun bz aK b6 cb => ai fun b7 aG => ?_;refine an ad ?_;refine aG _ (aK (some ([1,2],none)) _ (ae fun b8 aQ bt b5 => cx fun b9 bG kE c7 dF => ae fun cD bT dG eG => ai fun cv de => ?_));refine ag 1 ad ?_;refine aL 1 ad ?_;refine Or.inl (Or.inl ⟨_,b2,?_⟩);refine ag 1 ad ?_;refine an ad ?_;refine de _ (bT (some ([1,2,5],none)) _ (bB (ae fun cC cp ek ft => ai fun dy c0 => ?_)));refine ag 2 ad ?_;refine ag 4 ad ?_;refine ag 1 ad ?_;refine an ad ?_;refine c0 _ (cp (some ([9],none)) _ (bY (ae fun bo cN hM gR => ai fun ey cF => ?_)));refine an ad ?_;refine cF _ (cN (some ([4],none)) _ (c7 _ (bt _ ?_)))
    exact cO ad
   ·rw [if_pos (by omega)]
    unfold bJ Co Ch;delta ab a9 aa aA a6
    have ad := And.intro @af @aj
    refine ae fun bz aK b6 cb => ai fun b7 aG => ?_;refine an ad ?_;refine aG _ (aK (some ([1,2],none)) _ (ae fun b8 aQ bt b5 => cx fun b9 bG kE c7 dF => ae fun cD bT dG eG => ai fun cv de => ?_));refine ag 1 ad ?_;refine aL 1 ad ?_;refine Or.inl (Or.inl ⟨_,b2,?_⟩);refine ag 1 ad ?_;refine an ad ?_;refine de _ (bT (some ([1,2,5],none)) _ (bB (ae fun cC cp ek ft => ai fun dy c0 => ?_)));refine ag 2 ad ?_;refine ag 4 ad ?_;refine ag 1 ad ?_;refine an ad ?_;refine c0 _ (cp (some ([9],none)) _ (bB (bG _ (aQ (some ([],none)) _ (ae fun bo cN hM gR => ai fun ey cF => ?_)))));refine an ad ?_;refine cF _ (cN (some ([4],none)) _ ?_)
    exact cO ad
 ·rw [if_neg h]
  have d : (fj l != 0) = true := by simpa using h
  unfold bJ Co Ch;delta ab a9 aa aA a6
  have ad := @d
  refine ae fun bz aK b6 cb => ai fun b7 aG => ?_;refine an ad ?_;refine aG _ (aK (some ([1,2],none)) _ (ae fun b8 aQ bt b5 => cx fun b9 bG kE c7 dF => ae fun cD bT dG eG => ai fun cv de => ?_));refine ag 1 ad ?_;refine aL 1 ad ?_;refine Or.inl (Or.inl ⟨_,b2,?_⟩);refine ag 1 ad ?_;refine an ad ?_;refine de _ (bT (some ([1,2,5],none)) _ (bY (ae fun cC cp ek ft => ai fun dy c0 => ?_)));refine an ad ?_;refine c0 _ (cp (some ([4],none)) _ (c7 _ (bt _ ?_)))
  exact cO ad
def hq (b a : Nat) : Nat := min b ((a / 32 + 1) * 32)
def il (b : Nat) : Nat → Nat → List (Nat × Nat)
 | 0,_ => []
 | f + 1,a => if a < b then (a,hq b a) :: il b f (hq b a) else []
theorem u5 {b a : Nat} (h : a < b) : a < hq b a ∧ hq b a ≤ b := by unfold hq; omega
theorem LH (b : Nat) : ∀ (f g a : Nat),b ≤ a + f → b ≤ a + g → il b f a = il b g a
 | 0,g,a,h,_ => by
  cases g with
  | zero => rfl
  | succ g => unfold il; rw [if_neg (by omega)]
 | f + 1,0,a,_,h => by unfold il; rw [if_neg (by omega)]
 | f + 1,g + 1,a,af,aj => by
  unfold il
  split
  ·rename_i h
   have := u5 h
   rw [LH b f g _ (by omega) (by omega)]
  ·rfl
theorem FY {b a : Nat} (h : a < b) : il b b a = (a,hq b a) :: il b b (hq b a) := by
 have := u5 h
 rw [LH b b (b + 1) a (by omega) (by omega),il,if_pos h]
theorem TP {b a : Nat} (h : b ≤ a) : il b b a = [] := by
 rw [LH b b 0 a (by omega) (by omega)]; rfl
theorem xW {b : Nat} : ∀ (f a : Nat) {p : Nat × Nat},p ∈ il b f a → p.1 < p.2 ∧ p.2 ≤ b ∧ p.2 ≤ (p.1 / 32 + 1) * 32
 | 0,_,_,h => by cases h
 | f + 1,a,p,h => by
  unfold il at h
  split at h
  ·rename_i bN
   have := u5 bN
   rcases List.mem_cons.1 h with rfl | h
   ·refine ⟨this.1,this.2,?_⟩
    show hq b a ≤ _
    unfold hq
    exact Nat.min_le_right _ _
   ·exact xW f _ h
  ·cases h
def k5 (b a : Nat) : List (Nat × Nat) := il b b a ++ il a a 0
abbrev va (p : Nat × Nat) : List av := [aI p.1,aI p.2]
def Ww (b a : Nat) (k : Nat) (S : ak) : Prop :=
 ∃ (i : Nat) (done : List (Nat × Nat)),i ≤ b ∧ k = b - i ∧ done.length ≤ i ∧ done ++ il b b i = il b b a ∧ S = ⟨[(0,aI b),(1,aI a),(5,.own 0),(6,aI i)],[(0,.row 131 2 (done.map va))],1⟩
def Wx (b a : Nat) (k : Nat) (S : ak) : Prop :=
 ∃ (i : Nat) (done : List (Nat × Nat)),i ≤ a ∧ k = a - i ∧ done.length ≤ 64 + i ∧ il b b a ++ il a a 0 = done ++ il a a i ∧ S = ⟨[(1,aI a),(5,.own 0),(8,aI i)],[(0,.row 131 2 (done.map va))],1⟩
set_option maxHeartbeats 4000000 in
theorem afO (b a : Nat) (aJ : b ≤ 64) (aZ : a ≤ b) : cu 35 [aI b,aI a] (.au 2 0 ((k5 b a).map va)) := by
 refine df Tryz.func35 ai4 rfl ?_
 have fh : ∀ i : Nat,i ≤ 64 → IntKind.i64.wrap ((i : Int).tdiv 32) = ((i / 32 : Nat) : Int) := fun i aq => by rw [Int.tdiv_eq_ediv_of_nonneg (by omega),IntKind.wrap_i64]; omega
 have cE : ∀ i : Nat,i ≤ 64 → IntKind.i64.wrap (((i / 32 : Nat) : Int) + 1) = ((i / 32 + 1 : Nat) : Int) := fun i aq => by rw [IntKind.wrap_i64]; omega
 have dQ : ∀ i : Nat,i ≤ 64 → IntKind.i64.wrap (((i / 32 + 1 : Nat) : Int) * 32) = (((i / 32 + 1) * 32 : Nat) : Int) := fun i aq => by rw [IntKind.wrap_i64]; omega
 have gm : ∀ b i : Nat,min (b : Int) (((i / 32 + 1) * 32 : Nat) : Int) = ((hq b i : Nat) : Int) := fun b i => by unfold hq; omega
 unfold k5
 unfold bJ SJ RE;delta ab aa aA
 refine ae fun _ aK _ _ => ai fun _ aG => ?_;refine cz ?_;refine aG _ (aK (some ([0,1],none)) _ (ae fun _ aQ _ _ => ai fun _ bh => ?_));refine cz ?_;refine bh _ (aQ (some ([0,1,5],none)) _ (ae fun _ bT _ _ => ae fun _ bp _ _ => ai fun _ bD => ?_));refine cz ?_;refine bD _ (bp (some ([0,1,5,6],none)) _ (cx fun _ _ xq _ _ => ?_));refine jS (Ww b a) (b - a) (some ([0,1,5,6],some ([0],1))) ([.slot 5 (some 131) 2]) ?_ ?_
 ·try refine eC ?_
  exact ⟨a,[],by omega,by omega,by simp,by simp,by rfl⟩
 ·intro k b0 aY
  obtain ⟨i,done,aq,rfl,vp,aX,rfl⟩ := aY
  have eF : i = b ∨ i < b := by omega
  intro _ cN _ gR
  rcases eF with rfl | dT
  ·skip
   have v1 : ¬ (i : Int) < (i : Int) := by omega
   have ad := @v1
   refine ae fun _ _ _ jm => ae fun _ ct _ _ => ai fun _ cG => ?_;refine aU ad ?_;refine cG _ (ct (some ([0,1,5,6,13],none)) _ (bB (jm 0 _ (gR 0 _ (xq _ (bT (some ([1,5],none)) _ (ae fun _ dJ _ _ => ae fun _ fQ _ _ => ai fun _ eB => ?_)))))));refine an ad ?_;refine eB _ (fQ (some ([1,5,8],none)) _ (cx fun _ _ Jt _ _ => ?_));refine jS (Wx i a) (a) (some ([1,5,8],some ([0],1))) ([]) ?_ ?_
   ·try refine eC ?_
    exact ⟨0,done,by omega,by omega,by omega,by rw [← aX,TP (Nat.le_refl i),List.append_nil],by rfl⟩
   ·intro k b0 aY
    obtain ⟨j,Ah,aM,rfl,amZ,vo,rfl⟩ := aY
    have eF : j = a ∨ j < a := by omega
    intro _ kd _ tU
    rcases eF with rfl | tS
    ·skip
     have v1 : ¬ (j : Int) < (j : Int) := by omega
     have akG : il i i j ++ il j j 0 = Ah := by rw [vo,TP (Nat.le_refl j),List.append_nil]
     have aD := And.intro ad (And.intro @v1 @akG)
     refine ae fun _ _ _ tV => ae fun _ h4 _ _ => ai fun _ hJ => ?_;refine aU aD ?_;refine hJ _ (h4 (some ([1,5,8,29],none)) _ (bB (tV 2 _ (tU 2 _ (Jt _ (dJ (some ([5],none)) _ (ae fun _ h5 _ _ => ai fun _ gr => ?_)))))));refine an aD ?_;refine gr _ (h5 (some ([4],none)) _ ?_)
     exact cO aD
    ·skip
     have v1 : (j : Int) < (a : Int) := by omega
     have v2 := fh j (by omega)
     have qv := cE j (by omega)
     have v4 := dQ j (by omega)
     have Gc := gm a j
     have v6 := u5 tS
     have ao := FY tS
     have uI : (Ah.length + 1) * 16 ≤ 140737488355328 := by omega
     have xZ : Ah.map va ++ [[aI j,aI (hq a j)]] = (Ah ++ [(j,hq a j)]).map va := by simp
     have bm := And.intro ad (And.intro @v1 (And.intro @v2 (And.intro @qv (And.intro @v4 (And.intro @Gc @uI)))))
     refine ae fun _ ke _ _ => ae fun _ iX _ _ => ai fun _ gu => ?_;refine aU bm ?_;refine gu _ (iX (some ([1,5,8,29],none)) _ (bY (ke (some ([1,5,8],none)) _ (cx fun _ kY _ _ _ => ae fun _ kf _ _ => ai fun _ iV => ?_))));refine ag 3 bm ?_;refine ag 1 bm ?_;refine ag 1 bm ?_;refine an bm ?_;refine iV _ (kf (some ([1,5,8,9],none)) _ (ae fun _ rV _ _ => ai fun _ kb => ?_));refine ag 5 bm ?_;refine ag 1 bm ?_;refine an bm ?_;refine kb _ (rV (some ([1,5,9],none)) _ (ai fun _ lQ => ?_));refine an bm ?_;refine lQ _ (kY _ ?_);refine kd (a - hq a j) (some ([1,5,8],some ([1],1))) _ ?_ ?_
     all_goals try refine eC ?_
     ·omega
     ·exact ⟨hq a j,Ah ++ [(j,hq a j)],by omega,by omega,by simp; omega,by rw [vo,ao,List.append_assoc]; rfl,by rw [xZ]⟩
  ·skip
   have v1 : (i : Int) < (b : Int) := by omega
   have v2 := fh i (by omega)
   have qv := cE i (by omega)
   have v4 := dQ i (by omega)
   have Gc := gm b i
   have v6 := u5 dT
   have ao := FY dT
   have uI : (done.length + 1) * 16 ≤ 140737488355328 := by omega
   have xZ : done.map va ++ [[aI i,aI (hq b i)]] = (done ++ [(i,hq b i)]).map va := by simp
   have bx := And.intro @v1 (And.intro @v2 (And.intro @qv (And.intro @v4 (And.intro @Gc @uI))))
   refine ae fun _ oL _ _ => ae fun _ kZ _ _ => ai fun _ lR => ?_;refine aU bx ?_;refine lR _ (kZ (some ([0,1,5,6,13],none)) _ (bY (oL (some ([0,1,5,6],none)) _ (cx fun _ qf _ _ _ => ae fun _ oM _ _ => ai fun _ mH => ?_))));refine ag 3 bx ?_;refine ag 1 bx ?_;refine ag 1 bx ?_;refine an bx ?_;refine mH _ (oM (some ([0,1,5,6,7],none)) _ (ae fun _ oN _ _ => ai fun _ jE => ?_));refine ag 5 bx ?_;refine ag 1 bx ?_;refine an bx ?_;refine jE _ (oN (some ([0,1,5,7],none)) _ (ai fun _ nz => ?_));refine an bx ?_;refine nz _ (qf _ ?_);refine cN (b - hq b i) (some ([0,1,5,6],some ([1],1))) _ ?_ ?_
   all_goals try refine eC ?_
   ·omega
   ·exact ⟨hq b i,done ++ [(i,hq b i)],by omega,by omega,by simp; omega,by rw [List.append_assoc,← aX,ao]; rfl,by rw [xZ]⟩
end Go.Proofs.YtkmbcjnaaokilaaGreatDoor
