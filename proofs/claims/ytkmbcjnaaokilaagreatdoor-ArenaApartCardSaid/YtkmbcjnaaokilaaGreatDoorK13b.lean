/-
  Layer 13 by shadows: the words that a layout starts with.
-/
import Derived.Test.YtkmbcjnaaokilaaGreatDoorK11
import Derived.Test.YtkmbcjnaaokilaaGreatDoorMC
namespace Go.Proofs.YtkmbcjnaaokilaaGreatDoor
set_option linter.unusedSimpArgs false
set_option linter.unusedVariables false
open Go.RowKit Go.Maps
def pY (ws : List bm) (k : Nat) (v : Int) : List bm := ws.set k { (ws[k]?.getD ⟨0,0,0⟩) with val := v }
theorem M1 (ws : List bm) (k : Nat) (v : Int) : (pY ws k v).length = ws.length := by unfold pY; simp
theorem M3 {ws : List bm} {k : Nat} {v : Int} {w : bm} (h : ws[k]? = some w) : (pY ws k v).map c6 = (ws.map c6).set k [aG v,gk w.eV,gk w.ref] := by
 unfold pY; rw [h,List.map_set]; rfl
def lE (l : b1) (p : Nat) (ws : List bm) : Nat → List bm
 | 0 => ws
 | i + 1 => pY (lE l p ws i) (ho l p i 0).toNat 2
theorem A5 (l : b1) (p : Nat) (ws : List bm) : ∀ i,(lE l p ws i).length = ws.length
 | 0 => rfl
 | i + 1 => by show (pY _ _ _).length = _; rw [M1,A5 l p ws i]
def firstM (l : b1) : List bm := lE l 6 (lE l 4 (pY (List.replicate (dm l 7).toNat ⟨0,0,0⟩) (ho l 0 0 1).toNat 1) l.threads.toNat) l.blocks.toNat
theorem JY {l : b1} (h : sz l) : ∀ p q,dm l p ≤ dm l (p + q)
 | _,0 => Int.le_refl _
 | p,q + 1 => by
  have af := JY h p q
  have aj := (lX h (p + q)).1
  have : dm l (p + (q + 1)) = dm l (p + q) + e8 l (p + q) := rfl
  omega
theorem Ja {l : b1} (h : e4 l = 0) {p : Nat} (hp : p < 7) {i more : Int} (aq : 0 ≤ i ∧ i < mX l p) (hm : 0 ≤ more ∧ more < l6 p) : 0 ≤ ho l p i more ∧ ho l p i more < dm l 7 := by
 obtain ⟨aA,_⟩ := kb h
 have e : ho l p i more = dm l p + i * l6 p + more := by unfold ho; rw [if_pos ⟨h,aq.1,aq.2⟩]
 rw [e]
 have af := (u3 aA p).1
 have aj : dm l (p + 1) ≤ dm l 7 := by
  have := JY aA (p + 1) (6 - p)
  rwa [show p + 1 + (6 - p) = 7 by omega] at this
 have av : dm l (p + 1) = dm l p + e8 l p := rfl
 have aY : 0 ≤ i * l6 p := Int.mul_nonneg aq.1 (size_le p).1
 have bM : (i + 1) * l6 p ≤ mX l p * l6 p := Int.mul_le_mul_of_nonneg_right (by omega) (size_le p).1
 rw [Int.add_mul,Int.one_mul] at bM
 have bN : mX l p * l6 p ≤ e8 l p := by
  unfold e8
  rw [if_neg (by omega)]
  omega
 omega
def YL (l : b1) (ws : List bm) (k : Nat) (S : ak) : Prop :=
 ∃ i : Nat,(i : Int) ≤ l.threads ∧ k = l.threads.toNat - i ∧ S = ⟨[(1,.ptr 0 0 0),(3,.own 1),(4,aG ((i : Int) + 1))],[(0,.box 25 (fu l)),(1,.row 79 3 ((lE l 4 ws i).map c6))],2⟩
def YH (l : b1) (ws : List bm) (k : Nat) (S : ak) : Prop :=
 ∃ i : Nat,(i : Int) ≤ l.blocks ∧ k = l.blocks.toNat - i ∧ S = ⟨[(1,.ptr 0 0 0),(3,.own 1),(30,aG l.blocks),(31,aG (i : Int))],[(0,.box 25 (fu l)),(1,.row 79 3 ((lE l 6 ws i).map c6))],2⟩
set_option maxHeartbeats 4000000 in
theorem TY (l : b1) (h : e4 l = 0) : cq 10 [.agg (fu l)] (.au 3 0 ((firstM l).map c6)) := by
 refine df Tryz.func10 anP rfl ?_
 obtain ⟨aA,cJ⟩ := kb h
 obtain ⟨⟨t1,t2⟩,_,dh,dv⟩ := aA
 have bX := MK l
 rw [h] at bX
 have cL := ML l
 unfold A3 at cL
 rw [if_pos h] at cL
 have k2 := ajV l
 have afp := (u3 (kb h).1 7).1
 obtain ⟨bS,bH⟩ := Ja h (p := 0) (by omega) (i := 0) (more := 1) ⟨by omega,by show (0 : Int) < 1; omega⟩ ⟨by omega,by show (1 : Int) < 8; omega⟩
 unfold firstM
 obtain ⟨N,dy⟩ : ∃ N : Nat,dm l 7 = (N : Int) := ⟨_,(Int.toNat_of_nonneg afp).symm⟩
 obtain ⟨a,a5⟩ : ∃ a : Nat,ho l 0 0 1 = (a : Int) := ⟨_,(Int.toNat_of_nonneg bS).symm⟩
 have qt : ∀ i : Nat,(i : Int) < l.threads → ∃ b : Nat,b < N ∧ ho l 4 i 0 = (b : Int) ∧ cq 32 [.agg (fu l),aG ((i : Int) + 1)] (aG b) := fun i aq => by
  obtain ⟨cd,c2⟩ := Ja h (p := 4) (by omega) (i := i) (more := 0) ⟨by omega,aq⟩ ⟨by omega,by show (0 : Int) < 104; omega⟩
  have e : ((ho l 4 i 0).toNat : Int) = ho l 4 i 0 := Int.toNat_of_nonneg cd
  refine ⟨(ho l 4 i 0).toNat,by omega,e.symm,?_⟩
  have := ajX l ((i : Int) + 1)
  rwa [show IntKind.i64.wrap ((i : Int) + 1 - 1) = (i : Int) by rw [IntKind.wrap_i64]; omega,← e] at this
 have r8 : ∀ i : Nat,(i : Int) < l.blocks → ∃ b : Nat,b < N ∧ ho l 6 i 0 = (b : Int) ∧ cq 33 [.agg (fu l),aG (i : Int)] (aG b) := fun i aq => by
  obtain ⟨cd,c2⟩ := Ja h (p := 6) (by omega) (i := i) (more := 0) ⟨by omega,aq⟩ ⟨by omega,by show (0 : Int) < 32; omega⟩
  have e : ((ho l 6 i 0).toNat : Int) = ho l 6 i 0 := Int.toNat_of_nonneg cd
  refine ⟨(ho l 6 i 0).toNat,by omega,e.symm,?_⟩
  have := ajU l (i : Int)
  rwa [← e] at this
 rw [dy] at cL bH cJ
 rw [a5] at k2 bH
 rw [dy,a5]
 simp only [Int.toNat_natCast]
 have kN : a < N := by omega
 have abQ : (a : Int) < (N : Int) := by omega
 have bJ : N ≤ 4096 := by omega
 have cf : N * 16 ≤ 140737488355328 := by omega
 have dA : N * 3 ≤ 140737488355328 := by omega
 have fD : a * 3 / 3 = a := by omega
 have dI : (List.replicate N [aG 0,gk 0,gk 0])[a]? = some [aG 0,gk 0,gk 0] := by rw [List.getElem?_replicate,if_pos kN]
 have dS : (List.replicate N [aG 0,gk 0,gk 0]).set a [aG 1,gk 0,gk 0] = (pY (List.replicate N ⟨0,0,0⟩) a 1).map c6 := by
  rw [M3 (w := ⟨0,0,0⟩) (by rw [List.getElem?_replicate,if_pos kN]),List.map_replicate]
 have aE : (pY (List.replicate N ⟨0,0,0⟩) a 1).length = N := by rw [M1]; simp
 generalize pY (List.replicate N ⟨0,0,0⟩) a 1 = ws at dS aE ⊢
 unfold bK WJ Vz;delta ab aQ aa ay
 have ad := And.intro @kN (And.intro @abQ (And.intro @bJ (And.intro @cf (And.intro @dA (And.intro @dI (And.intro @dS @fD))))))
 refine ae fun _ aK _ _ => ai fun _ aH => ?_;refine al ad ?_;refine aH _ (aK (some ([1],none)) _ (ae fun _ aP _ _ => ae fun _ bI _ _ => ai fun _ b0 => ?_));refine ag 1 ad ?_;refine aM 1 ad ?_;refine Or.inl (Or.inl ⟨_,bX,?_⟩);refine al ad ?_;refine b0 _ (bI (some ([1,8],none)) _ (bs (aP (some ([1],none)) _ (ae fun _ bp _ _ => ai fun _ bE => ?_))));refine ag 1 ad ?_;refine aM 1 ad ?_;refine Or.inl (Or.inl ⟨_,cL,?_⟩);refine ag 1 ad ?_;refine al ad ?_;refine bE _ (bp (some ([1,3],none)) _ (ae fun _ cv _ _ => ai fun _ aR => ?_));refine ag 2 ad ?_;refine aM 1 ad ?_;refine Or.inl (Or.inl ⟨_,k2,?_⟩);refine ag 1 ad ?_;refine aS ad ?_;refine aR _ (cv (some ([1,3],none)) _ (ae fun _ eo _ _ => ae fun _ cr _ _ => ai fun _ cD => ?_))
 refine al ad ?_;refine cD _ (cr (some ([1,3,4],none)) _ (cj fun _ _ AB _ _ => ?_));refine ie (YL l ws) (l.threads.toNat) (some ([1,3,4],some ([0,1],2))) ([]) ?_ ?_
 ·try refine dR ?_
  exact ⟨0,by omega,by omega,by rfl⟩
 ·intro k bT aW
  obtain ⟨i,aq,rfl,rfl⟩ := aW
  have dZ : (i : Int) = l.threads ∨ (i : Int) < l.threads := by omega
  intro _ fx _ mq
  rcases dZ with ea | ea
  ·skip
   obtain rfl : i = l.threads.toNat := by omega
   have cn : ¬ (l.threads.toNat : Int) + 1 ≤ l.threads := by omega
   have aD := And.intro ad @cn
   refine ae fun _ _ _ lo => ae fun _ fF _ _ => ai fun _ eF => ?_;refine ag 3 aD ?_;refine aS aD ?_;refine eF _ (fF (some ([1,3,4,20],none)) _ (bs (lo 0 _ (mq 0 _ (AB _ (eo (some ([1,3],none)) _ (ae fun _ hM _ _ => ae fun _ hJ _ _ => ai fun _ hX => ?_)))))));refine ag 2 aD ?_;refine al aD ?_;refine hX _ (hJ (some ([1,3,30,31],none)) _ (cj fun _ _ ahr _ _ => ?_));refine ie (YH l (lE l 4 ws l.threads.toNat)) (l.blocks.toNat) (some ([1,3,30,31],some ([0,1],2))) ([]) ?_ ?_
   ·try refine dR ?_
    exact ⟨0,by omega,by omega,by rfl⟩
   ·intro k bT aW
    obtain ⟨j,aN,rfl,rfl⟩ := aW
    have afI : (j : Int) = l.blocks ∨ (j : Int) < l.blocks := by omega
    intro _ lu _ KI
    rcases afI with pI | pI
    ·skip
     obtain rfl : j = l.blocks.toNat := by omega
     have v2 : ¬ (l.blocks.toNat : Int) < l.blocks := by omega
     have bc := And.intro aD @v2
     refine ae fun _ iu _ _ => ai fun _ iq => ?_;refine aS bc ?_;refine iq _ (iu (some ([1,3,30,31,32],none)) _ (ae fun _ _ _ afL => bs (afL 2 _ (KI 2 _ (ahr _ (hM (some ([3],none)) _ (ae fun _ lv _ _ => ai fun _ jT => ?_)))))));refine al bc ?_;refine jT _ (lv (some ([2],none)) _ ?_)
     exact cQ bc
    ·skip
     have oL : IntKind.i64.wrap ((j : Int) + 1) = ((j + 1 : Nat) : Int) := by rw [IntKind.wrap_i64]; omega
     obtain ⟨b,aI,Kx,mC⟩ := r8 j pI
     have v4 : (lE l 6 (lE l 4 ws l.threads.toNat) j).length = N := by rw [A5,A5,aE]
     obtain ⟨w,hw⟩ : ∃ w,(lE l 6 (lE l 4 ws l.threads.toNat) j)[b]? = some w := ⟨_,List.getElem?_eq_getElem (by omega)⟩
     have sn : ((lE l 6 (lE l 4 ws l.threads.toNat) j).map c6)[b]? = some (c6 w) := by rw [List.getElem?_map,hw]; rfl
     have v6 : ((lE l 6 (lE l 4 ws l.threads.toNat) j).map c6).set b [aG 2,gk w.eV,gk w.ref] = (lE l 6 (lE l 4 ws l.threads.toNat) (j + 1)).map c6 := by
      show _ = (pY _ (ho l 6 j 0).toNat 2).map c6
      rw [Kx,Int.toNat_natCast,M3 hw]
     have zH : (b : Int) < (N : Int) := by omega
     have zI : b * 3 / 3 = b := by omega
     have bt := And.intro aD (And.intro @pI (And.intro @oL (And.intro @v4 (And.intro @hw (And.intro @v6 (And.intro @zH (And.intro @zI @aI)))))))
     refine ae fun _ mv _ _ => ai fun _ hY => ?_;refine aS bt ?_;refine hY _ (mv (some ([1,3,30,31,32],none)) _ (ae fun _ rf _ _ => bU (rf (some ([1,3,30,31],none)) _ (ae fun _ mw _ _ => cj fun _ pP _ _ _ => ae fun _ kD _ _ => ai fun _ lq => ?_))));refine al bt ?_;refine lq _ (kD (some ([1,3,5,30,31],none)) _ (ai fun _ nj => ?_));refine ag 2 bt ?_;refine aM 1 bt ?_;refine aM 1 bt ?_;refine Or.inl (Or.inl ⟨_,mC,?_⟩);refine ag 1 bt ?_;refine aS bt ?_;refine nj _ (pP _ (mw (some ([1,3,30,31],none)) _ (ai fun _ pK => ?_)));refine ag 1 bt ?_;refine al bt ?_;refine pK _ ?_;refine lu (l.blocks.toNat - (j + 1)) (some ([1,3,30,31],some ([0,1],2))) _ ?_ ?_
     all_goals try refine dR ?_
     ·omega
     ·exact ⟨j + 1,by omega,by omega,rfl⟩
  ·skip
   have cn : (i : Int) + 1 ≤ l.threads := by omega
   have dM : IntKind.i64.wrap ((i : Int) + 1 + 1) = ((i + 1 : Nat) : Int) + 1 := by rw [IntKind.wrap_i64]; omega
   obtain ⟨b,aI,Kx,mC⟩ := qt i ea
   have v4 : (lE l 4 ws i).length = N := by rw [A5,aE]
   obtain ⟨w,hw⟩ : ∃ w,(lE l 4 ws i)[b]? = some w := ⟨_,List.getElem?_eq_getElem (by omega)⟩
   have v6 : ((lE l 4 ws i).map c6).set b [aG 2,gk w.eV,gk w.ref] = (lE l 4 ws (i + 1)).map c6 := by
    show _ = (pY _ (ho l 4 i 0).toNat 2).map c6
    rw [Kx,Int.toNat_natCast,M3 hw]
   have zH : (b : Int) < (N : Int) := by omega
   have zI : b * 3 / 3 = b := by omega
   have bB := And.intro ad (And.intro @cn (And.intro @dM (And.intro @v4 (And.intro @hw (And.intro @v6 (And.intro @zH (And.intro @zI @aI)))))))
   refine ae fun _ pR _ _ => ae fun _ oy _ _ => ai fun _ jV => ?_;refine ag 3 bB ?_;refine aS bB ?_;refine jV _ (oy (some ([1,3,4,20],none)) _ (bU (pR (some ([1,3,4],none)) _ (ae fun _ ri _ _ => cj fun _ s3 _ _ _ => ai fun _ np => ?_))));refine ag 2 bB ?_;refine aM 1 bB ?_;refine aM 1 bB ?_;refine Or.inl (Or.inl ⟨_,mC,?_⟩);refine ag 1 bB ?_;refine aS bB ?_;refine np _ (s3 _ (ri (some ([1,3,4],none)) _ (ai fun _ sW => ?_)));refine ag 2 bB ?_;refine al bB ?_;refine sW _ ?_;refine fx (l.threads.toNat - (i + 1)) (some ([1,3,4],some ([0,1],2))) _ ?_ ?_
   all_goals try refine dR ?_
   ·omega
   ·exact ⟨i + 1,by omega,by omega,rfl⟩
end Go.Proofs.YtkmbcjnaaokilaaGreatDoor
