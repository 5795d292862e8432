/-
  Layer 13 by shadows: the words that a layout starts with.
-/
import Derived.Test.YtkmbcjnaaokilaaGreatDoorK11
import Derived.Test.YtkmbcjnaaokilaaGreatDoorMC
namespace Go.Proofs.YtkmbcjnaaokilaaGreatDoor
set_option linter.unusedSimpArgs false
set_option linter.unusedVariables false
open Go.RowKit Go.Maps
def oW (ws : List bq) (k : Nat) (v : Int) : List bq := ws.set k { (ws[k]?.getD ⟨0,0,0⟩) with val := v }
theorem Ks (ws : List bq) (k : Nat) (v : Int) : (oW ws k v).length = ws.length := by unfold oW; simp
theorem Kt {ws : List bq} {k : Nat} {v : Int} {w : bq} (h : ws[k]? = some w) : (oW ws k v).map dj = (ws.map dj).set k [aI v,fX w.eZ,fX w.ref] := by
 unfold oW; rw [h,List.map_set]; rfl
def k7 (l : cc) (p : Nat) (ws : List bq) : Nat → List bq
 | 0 => ws
 | i + 1 => oW (k7 l p ws i) (g9 l p i 0).toNat 2
theorem zs (l : cc) (p : Nat) (ws : List bq) : ∀ i,(k7 l p ws i).length = ws.length
 | 0 => rfl
 | i + 1 => by show (oW _ _ _).length = _; rw [Ks,zs l p ws i]
def firstM (l : cc) : List bq := k7 l 6 (k7 l 4 (oW (List.replicate (dp l 7).toNat ⟨0,0,0⟩) (g9 l 0 0 1).toNat 1) l.threads.toNat) l.blocks.toNat
theorem HJ {l : cc} (h : rv l) : ∀ p q,dp l p ≤ dp l (p + q)
 | _,0 => Int.le_refl _
 | p,q + 1 => by
  have af := HJ h p q
  have aj := (lo h (p + q)).1
  have : dp l (p + (q + 1)) = dp l (p + q) + e2 l (p + q) := rfl
  omega
theorem GZ {l : cc} (h : fj l = 0) {p : Nat} (hp : p < 7) {i more : Int} (aq : 0 ≤ i ∧ i < ml l p) (hm : 0 ≤ more ∧ more < lx p) : 0 ≤ g9 l p i more ∧ g9 l p i more < dp l 7 := by
 obtain ⟨ax,_⟩ := ku h
 have e : g9 l p i more = dp l p + i * lx p + more := by unfold g9; rw [if_pos ⟨h,aq.1,aq.2⟩]
 rw [e]
 have af := (tK ax p).1
 have aj : dp l (p + 1) ≤ dp l 7 := by
  have := HJ ax (p + 1) (6 - p)
  rwa [show p + 1 + (6 - p) = 7 by omega] at this
 have aw : dp l (p + 1) = dp l p + e2 l p := rfl
 have aV : 0 ≤ i * lx p := Int.mul_nonneg aq.1 (size_le p).1
 have bF : (i + 1) * lx p ≤ ml l p * lx p := Int.mul_le_mul_of_nonneg_right (by omega) (size_le p).1
 rw [Int.add_mul,Int.one_mul] at bF
 have bH : ml l p * lx p ≤ e2 l p := by
  unfold e2
  rw [if_neg (by omega)]
  omega
 omega
def Vd (l : cc) (ws : List bq) (k : Nat) (S : ak) : Prop :=
 ∃ i : Nat,(i : Int) ≤ l.threads ∧ k = l.threads.toNat - i ∧ S = ⟨[(1,.ptr 0 0 0),(3,.own 1),(4,aI ((i : Int) + 1))],[(0,.box 25 (fe l)),(1,.row 79 3 ((k7 l 4 ws i).map dj))],2⟩
def U4 (l : cc) (ws : List bq) (k : Nat) (S : ak) : Prop :=
 ∃ i : Nat,(i : Int) ≤ l.blocks ∧ k = l.blocks.toNat - i ∧ S = ⟨[(1,.ptr 0 0 0),(3,.own 1),(30,aI l.blocks),(31,aI (i : Int))],[(0,.box 25 (fe l)),(1,.row 79 3 ((k7 l 6 ws i).map dj))],2⟩
set_option maxHeartbeats 4000000 in
theorem QV (l : cc) (h : fj l = 0) : cu 10 [.agg (fe l)] (.au 3 0 ((firstM l).map dj)) := by
 refine df Tryz.func10 aj8 rfl ?_
 obtain ⟨ax,cA⟩ := ku h
 obtain ⟨⟨t1,t2⟩,_,c4,dm⟩ := ax
 have b2 := Ke l
 rw [h] at b2
 have cy := Kf l
 unfold zq at cy
 rw [if_pos h] at cy
 have k2 := agp l
 have abW := (tK (ku h).1 7).1
 obtain ⟨bE,bP⟩ := GZ h (p := 0) (by omega) (i := 0) (more := 1) ⟨by omega,by show (0 : Int) < 1; omega⟩ ⟨by omega,by show (1 : Int) < 8; omega⟩
 unfold firstM
 obtain ⟨N,dS⟩ : ∃ N : Nat,dp l 7 = (N : Int) := ⟨_,(Int.toNat_of_nonneg abW).symm⟩
 obtain ⟨a,aZ⟩ : ∃ a : Nat,g9 l 0 0 1 = (a : Int) := ⟨_,(Int.toNat_of_nonneg bE).symm⟩
 have nb : ∀ i : Nat,(i : Int) < l.threads → ∃ b : Nat,b < N ∧ g9 l 4 i 0 = (b : Int) ∧ cu 32 [.agg (fe l),aI ((i : Int) + 1)] (aI b) := fun i aq => by
  obtain ⟨cw,c2⟩ := GZ h (p := 4) (by omega) (i := i) (more := 0) ⟨by omega,aq⟩ ⟨by omega,by show (0 : Int) < 104; omega⟩
  have e : ((g9 l 4 i 0).toNat : Int) = g9 l 4 i 0 := Int.toNat_of_nonneg cw
  refine ⟨(g9 l 4 i 0).toNat,by omega,e.symm,?_⟩
  have := agr l ((i : Int) + 1)
  rwa [show IntKind.i64.wrap ((i : Int) + 1 - 1) = (i : Int) by rw [IntKind.wrap_i64]; omega,← e] at this
 have ES : ∀ i : Nat,(i : Int) < l.blocks → ∃ b : Nat,b < N ∧ g9 l 6 i 0 = (b : Int) ∧ cu 33 [.agg (fe l),aI (i : Int)] (aI b) := fun i aq => by
  obtain ⟨cw,c2⟩ := GZ h (p := 6) (by omega) (i := i) (more := 0) ⟨by omega,aq⟩ ⟨by omega,by show (0 : Int) < 32; omega⟩
  have e : ((g9 l 6 i 0).toNat : Int) = g9 l 6 i 0 := Int.toNat_of_nonneg cw
  refine ⟨(g9 l 6 i 0).toNat,by omega,e.symm,?_⟩
  have := ago l (i : Int)
  rwa [← e] at this
 rw [dS] at cy bP cA
 rw [aZ] at k2 bP
 rw [dS,aZ]
 simp only [Int.toNat_natCast]
 have z5 : a < N := by omega
 have Xg : (a : Int) < (N : Int) := by omega
 have bL : N ≤ 4096 := by omega
 have cd : N * 16 ≤ 140737488355328 := by omega
 have dV : N * 3 ≤ 140737488355328 := by omega
 have fs : a * 3 / 3 = a := by omega
 have et : (List.replicate N [aI 0,fX 0,fX 0])[a]? = some [aI 0,fX 0,fX 0] := by rw [List.getElem?_replicate,if_pos z5]
 have dP : (List.replicate N [aI 0,fX 0,fX 0]).set a [aI 1,fX 0,fX 0] = (oW (List.replicate N ⟨0,0,0⟩) a 1).map dj := by
  rw [Kt (w := ⟨0,0,0⟩) (by rw [List.getElem?_replicate,if_pos z5]),List.map_replicate]
 have aF : (oW (List.replicate N ⟨0,0,0⟩) a 1).length = N := by rw [Ks]; simp
 generalize oW (List.replicate N ⟨0,0,0⟩) a 1 = ws at dP aF ⊢
 unfold bJ Tt Sl;delta ab aR aa aA
 have ad := And.intro @z5 (And.intro @Xg (And.intro @bL (And.intro @cd (And.intro @dV (And.intro @et (And.intro @dP @fs))))))
 refine ae fun _ aK _ _ => ai fun _ aG => ?_;refine an ad ?_;refine aG _ (aK (some ([1],none)) _ (ae fun _ aQ _ _ => ae fun _ bG _ _ => ai fun _ bZ => ?_));refine ag 1 ad ?_;refine aL 1 ad ?_;refine Or.inl (Or.inl ⟨_,b2,?_⟩);refine an ad ?_;refine bZ _ (bG (some ([1,8],none)) _ (bB (aQ (some ([1],none)) _ (ae fun _ bp _ _ => ai fun _ bD => ?_))));refine ag 1 ad ?_;refine aL 1 ad ?_;refine Or.inl (Or.inl ⟨_,cy,?_⟩);refine ag 1 ad ?_;refine an ad ?_;refine bD _ (bp (some ([1,3],none)) _ (ae fun _ ck _ _ => ai fun _ aP => ?_));refine ag 2 ad ?_;refine aL 1 ad ?_;refine Or.inl (Or.inl ⟨_,k2,?_⟩);refine ag 1 ad ?_;refine aU ad ?_;refine aP _ (ck (some ([1,3],none)) _ (ae fun _ ee _ _ => ae fun _ ct _ _ => ai fun _ cG => ?_))
 refine an ad ?_;refine cG _ (ct (some ([1,3,4],none)) _ (cx fun _ _ EL _ _ => ?_));refine jS (Vd l ws) (l.threads.toNat) (some ([1,3,4],some ([0,1],2))) ([]) ?_ ?_
 ·try refine eC ?_
  exact ⟨0,by omega,by omega,by rfl⟩
 ·intro k b0 aY
  obtain ⟨i,aq,rfl,rfl⟩ := aY
  have eF : (i : Int) = l.threads ∨ (i : Int) < l.threads := by omega
  intro _ fQ _ mF
  rcases eF with dT | dT
  ·skip
   obtain rfl : i = l.threads.toNat := by omega
   have cE : ¬ (l.threads.toNat : Int) + 1 ≤ l.threads := by omega
   have aD := And.intro ad @cE
   refine ae fun _ _ _ lP => ae fun _ fy _ _ => ai fun _ eV => ?_;refine ag 3 aD ?_;refine aU aD ?_;refine eV _ (fy (some ([1,3,4,20],none)) _ (bB (lP 0 _ (mF 0 _ (EL _ (ee (some ([1,3],none)) _ (ae fun _ ic _ _ => ae fun _ h4 _ _ => ai fun _ hJ => ?_)))))));refine ag 2 aD ?_;refine an aD ?_;refine hJ _ (h4 (some ([1,3,30,31],none)) _ (cx fun _ _ ad4 _ _ => ?_));refine jS (U4 l (k7 l 4 ws l.threads.toNat)) (l.blocks.toNat) (some ([1,3,30,31],some ([0,1],2))) ([]) ?_ ?_
   ·try refine eC ?_
    exact ⟨0,by omega,by omega,by rfl⟩
   ·intro k b0 aY
    obtain ⟨j,aM,rfl,rfl⟩ := aY
    have acb : (j : Int) = l.blocks ∨ (j : Int) < l.blocks := by omega
    intro _ lS _ Is
    rcases acb with tS | tS
    ·skip
     obtain rfl : j = l.blocks.toNat := by omega
     have v2 : ¬ (l.blocks.toNat : Int) < l.blocks := by omega
     have bm := And.intro aD @v2
     refine ae fun _ ke _ _ => ai fun _ iS => ?_;refine aU bm ?_;refine iS _ (ke (some ([1,3,30,31,32],none)) _ (ae fun _ _ _ acf => bB (acf 2 _ (Is 2 _ (ad4 _ (ic (some ([3],none)) _ (ae fun _ kY _ _ => ai fun _ iU => ?_)))))));refine an bm ?_;refine iU _ (kY (some ([2],none)) _ ?_)
     exact cO bm
    ·skip
     have qv : IntKind.i64.wrap ((j : Int) + 1) = ((j + 1 : Nat) : Int) := by rw [IntKind.wrap_i64]; omega
     obtain ⟨b,aJ,Ik,nF⟩ := ES j tS
     have v4 : (k7 l 6 (k7 l 4 ws l.threads.toNat) j).length = N := by rw [zs,zs,aF]
     obtain ⟨w,hw⟩ : ∃ w,(k7 l 6 (k7 l 4 ws l.threads.toNat) j)[b]? = some w := ⟨_,List.getElem?_eq_getElem (by omega)⟩
     have Gc : ((k7 l 6 (k7 l 4 ws l.threads.toNat) j).map dj)[b]? = some (dj w) := by rw [List.getElem?_map,hw]; rfl
     have v6 : ((k7 l 6 (k7 l 4 ws l.threads.toNat) j).map dj).set b [aI 2,fX w.eZ,fX w.ref] = (k7 l 6 (k7 l 4 ws l.threads.toNat) (j + 1)).map dj := by
      show _ = (oW _ (g9 l 6 j 0).toNat 2).map dj
      rw [Ik,Int.toNat_natCast,Kt hw]
     have uI : (b : Int) < (N : Int) := by omega
     have xZ : b * 3 / 3 = b := by omega
     have bx := And.intro aD (And.intro @tS (And.intro @qv (And.intro @v4 (And.intro @hw (And.intro @v6 (And.intro @uI (And.intro @xZ @aJ)))))))
     refine ae fun _ mL _ _ => ai fun _ iW => ?_;refine aU bx ?_;refine iW _ (mL (some ([1,3,30,31,32],none)) _ (ae fun _ qe _ _ => bY (qe (some ([1,3,30,31],none)) _ (ae fun _ nC _ _ => cx fun _ oL _ _ _ => ae fun _ kZ _ _ => ai fun _ lR => ?_))));refine an bx ?_;refine lR _ (kZ (some ([1,3,5,30,31],none)) _ (ai fun _ oH => ?_));refine ag 2 bx ?_;refine aL 1 bx ?_;refine aL 1 bx ?_;refine Or.inl (Or.inl ⟨_,nF,?_⟩);refine ag 1 bx ?_;refine aU bx ?_;refine oH _ (oL _ (nC (some ([1,3,30,31],none)) _ (ai fun _ oI => ?_)));refine ag 1 bx ?_;refine an bx ?_;refine oI _ ?_;refine lS (l.blocks.toNat - (j + 1)) (some ([1,3,30,31],some ([0,1],2))) _ ?_ ?_
     all_goals try refine eC ?_
     ·omega
     ·exact ⟨j + 1,by omega,by omega,rfl⟩
  ·skip
   have cE : (i : Int) + 1 ≤ l.threads := by omega
   have dQ : IntKind.i64.wrap ((i : Int) + 1 + 1) = ((i + 1 : Nat) : Int) + 1 := by rw [IntKind.wrap_i64]; omega
   obtain ⟨b,aJ,Ik,nF⟩ := nb i dT
   have v4 : (k7 l 4 ws i).length = N := by rw [zs,aF]
   obtain ⟨w,hw⟩ : ∃ w,(k7 l 4 ws i)[b]? = some w := ⟨_,List.getElem?_eq_getElem (by omega)⟩
   have v6 : ((k7 l 4 ws i).map dj).set b [aI 2,fX w.eZ,fX w.ref] = (k7 l 4 ws (i + 1)).map dj := by
    show _ = (oW _ (g9 l 4 i 0).toNat 2).map dj
    rw [Ik,Int.toNat_natCast,Kt hw]
   have uI : (b : Int) < (N : Int) := by omega
   have xZ : b * 3 / 3 = b := by omega
   have bS := And.intro ad (And.intro @cE (And.intro @dQ (And.intro @v4 (And.intro @hw (And.intro @v6 (And.intro @uI (And.intro @xZ @aJ)))))))
   refine ae fun _ rX _ _ => ae fun _ oN _ _ => ai fun _ jE => ?_;refine ag 3 bS ?_;refine aU bS ?_;refine jE _ (oN (some ([1,3,4,20],none)) _ (bY (rX (some ([1,3,4],none)) _ (ae fun _ rY _ _ => cx fun _ w8 _ _ _ => ai fun _ nA => ?_))));refine ag 2 bS ?_;refine aL 1 bS ?_;refine aL 1 bS ?_;refine Or.inl (Or.inl ⟨_,nF,?_⟩);refine ag 1 bS ?_;refine aU bS ?_;refine nA _ (w8 _ (rY (some ([1,3,4],none)) _ (ai fun _ tY => ?_)));refine ag 2 bS ?_;refine an bS ?_;refine tY _ ?_;refine fQ (l.threads.toNat - (i + 1)) (some ([1,3,4],some ([0,1],2))) _ ?_ ?_
   all_goals try refine eC ?_
   ·omega
   ·exact ⟨i + 1,by omega,by omega,rfl⟩
end Go.Proofs.YtkmbcjnaaokilaaGreatDoor
