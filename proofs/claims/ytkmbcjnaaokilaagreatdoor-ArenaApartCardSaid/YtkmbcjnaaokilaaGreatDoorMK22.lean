/-
  The shadow code of functions, written by a program; each is what the translator makes of the function.
-/
import Derived.Test.YtkmbcjnaaokilaaGreatDoorMC
import Derived.Test.YtkmbcjnaaokilaaGreatDoorK4c
namespace Go.Proofs.YtkmbcjnaaokilaaGreatDoor
open Go.RowKit

end Go.Proofs.YtkmbcjnaaokilaaGreatDoor
namespace Go.Proofs.YtkmbcjnaaokilaaGreatDoor
set_option linter.unusedSimpArgs false
set_option linter.unusedVariables false
open Go.RowKit Go.Maps
def th (w : bm) : List j5 := [⟨w,0,fun _ => none⟩]
def gI (k : Int) (ws : List bm) : c8 × Int :=
 if k < 1 ∨ 8 < k then (⟨[],[]⟩,3) else if ws.length = 0 then (⟨[],[]⟩,8) else if 4096 < ws.length then (⟨[],[]⟩,15) else (⟨ws.map th,List.replicate k.toNat fun _ => none⟩,0)
theorem G9 : gp ⟨[],[]⟩ 0 := ⟨by simp,by simp,fun h cy => by simp at cy,fun h cy => by simp at cy,fun h cy => by simp at cy,fun v bj => by simp at bj⟩
theorem Mo (k : Int) (ws : List bm) : gp (gI k ws).1 1 := by
 unfold gI
 split
 ·exact uk G9 (by omega)
 ·split
  ·exact uk G9 (by omega)
  ·split
   ·exact uk G9 (by omega)
   ·refine ⟨by simp; omega,by simp; omega,fun h cy => ?_,fun h cy => ?_,fun h cy m hm => ?_,fun v bj => ?_⟩
    ·obtain ⟨w,_,rfl⟩ := List.mem_map.1 cy; simp [th]
    ·obtain ⟨w,_,rfl⟩ := List.mem_map.1 cy; simp [th]
    ·obtain ⟨w,_,rfl⟩ := List.mem_map.1 cy
     simp only [th,List.mem_singleton] at hm
     subst hm; exact xR
    ·rw [List.mem_replicate] at bj
     rw [bj.2]; exact xR
def ZL (g : Nat) (ws : List bm) (k : Nat) (m : Nat) (S : ak) : Prop :=
 ∃ i,i ≤ ws.length ∧ m = ws.length - i ∧ S = ⟨[(4,.ptr 0 0 0),(6,.ptr 1 0 0),(30,.au 3 g (ws.map c6)),(31,aG ws.length),(32,aG i)],
  [(0,.box 53 [.au 1 0 [],.au 1 0 []]),(1,.box 53 [.own 3,.own 2]),(2,.row 157 1 (List.replicate k [.mp 76 fun _ => none])),(3,.row 150 1 ((ws.take i).map fun w => sJ (th w)))],4⟩
set_option maxHeartbeats 4000000 in
theorem aj3 (k : Int) (g : Nat) (ws : List bm) : cq 65 [aG k,.au 3 g (ws.map c6)] (.bY [iZ (gI k ws).1,aG (gI k ws).2]) := by
 refine df Tryz.func65 an3 rfl ?_
 unfold gI
 by_cases af : k < 1
 ·rw [if_pos (.inl af)]
  unfold bK A1 AX;delta ab aQ a8 aa ay a3
  have ad := @af
  refine ae fun bD aK b9 ck => ai fun ca aH => ?_;refine al ad ?_;refine aH _ (aK (some ([0,1,4],none)) _ (ae fun cg aP bx b8 => cj fun ch bI kV dd dU => ae fun cM bV dQ eP => ai fun cG dk => ?_));refine ag 2 ad ?_;refine ag 3 ad ?_;refine al ad ?_;refine dk _ (bV (some ([0,1,4,9],none)) _ (bU (ae fun cI cz ey fp => ai fun dB c7 => ?_)));refine ag 2 ad ?_;refine al ad ?_;refine c7 _ (cz (some ([4,5],none)) _ (dd _ (bx _ ?_)))
  exact cQ ad
 by_cases aj : 8 < k
 ·rw [if_pos (.inr aj)]
  unfold bK A1 AX;delta ab aQ a8 aa ay a3
  have ad := And.intro @af @aj
  refine ae fun bD aK b9 ck => ai fun ca aH => ?_;refine al ad ?_;refine aH _ (aK (some ([0,1,4],none)) _ (ae fun cg aP bx b8 => cj fun ch bI kV dd dU => ae fun cM bV dQ eP => ai fun cG dk => ?_));refine ag 2 ad ?_;refine ag 3 ad ?_;refine al ad ?_;refine dk _ (bV (some ([0,1,4,9],none)) _ (bU (ae fun cI cz ey fp => ai fun dB c7 => ?_)));refine ag 2 ad ?_;refine al ad ?_;refine c7 _ (cz (some ([4,5],none)) _ (dd _ (bx _ ?_)))
  exact cQ ad
 rw [if_neg (by omega)]
 by_cases av : ws.length = 0
 ·rw [if_pos av]
  have d : ((ws.length : Int) == 0) = true := by simp [av]
  unfold bK A1 AX;delta ab aQ a8 aa ay a3
  have ad := And.intro @af (And.intro @aj @d)
  refine ae fun bD aK b9 ck => ai fun ca aH => ?_;refine al ad ?_;refine aH _ (aK (some ([0,1,4],none)) _ (ae fun cg aP bx b8 => cj fun ch bI kV dd dU => ae fun cM bV dQ eP => ai fun cG dk => ?_));refine ag 2 ad ?_;refine ag 3 ad ?_;refine al ad ?_;refine dk _ (bV (some ([0,1,4,9],none)) _ (bs (ae fun cI cz ey fp => ai fun dB c7 => ?_)));refine ag 3 ad ?_;refine al ad ?_;refine c7 _ (cz (some ([0,1,4,17],none)) _ (bU (ae fun bz cR h1 gQ => ai fun eK cK => ?_)));refine ag 2 ad ?_;refine al ad ?_;refine cK _ (cR (some ([4,5],none)) _ (dd _ (bx _ ?_)))
  exact cQ ad
 rw [if_neg av]
 have d : ((ws.length : Int) == 0) = false := by simp; exact fun e => av (by rw [e]; rfl)
 by_cases aY : 4096 < ws.length
 ·rw [if_pos aY]
  have d4 : (4096 : Int) < (ws.length : Int) := by omega
  unfold bK A1 AX;delta ab aQ a8 aa ay a3
  have ad := And.intro @af (And.intro @aj (And.intro @d @d4))
  refine ae fun bD aK b9 ck => ai fun ca aH => ?_;refine al ad ?_;refine aH _ (aK (some ([0,1,4],none)) _ (ae fun cg aP bx b8 => cj fun ch bI kV dd dU => ae fun cM bV dQ eP => ai fun cG dk => ?_));refine ag 2 ad ?_;refine ag 3 ad ?_;refine al ad ?_;refine dk _ (bV (some ([0,1,4,9],none)) _ (bs (ae fun cI cz ey fp => ai fun dB c7 => ?_)));refine ag 3 ad ?_;refine al ad ?_;refine c7 _ (cz (some ([0,1,4,17],none)) _ (bs (ae fun bz cR h1 gQ => ai fun eK cK => ?_)));refine ag 3 ad ?_;refine al ad ?_;refine cK _ (cR (some ([0,1,4,22],none)) _ (bU (ae fun fM cr h0 g6 => ai fun ga cD => ?_)));refine ag 2 ad ?_;refine al ad ?_;refine cD _ (cr (some ([4,5],none)) _ (dd _ ?_))
  refine bx _ ?_
  exact cQ ad
 rw [if_neg aY]
 have d4 : ¬ (4096 : Int) < (ws.length : Int) := by omega
 obtain ⟨q,rfl⟩ := Int.eq_ofNat_of_zero_le (show 0 ≤ k by omega)
 unfold bK A1 AX;delta ab aQ a8 aa ay a3
 have ad := And.intro @af (And.intro @aj (And.intro @d @d4))
 refine ae fun bD aK b9 ck => ai fun ca aH => ?_;refine al ad ?_;refine aH _ (aK (some ([0,1,4],none)) _ (ae fun cg aP bx b8 => cj fun ch bI kV dd dU => ae fun cM bV dQ eP => ai fun cG dk => ?_));refine ag 2 ad ?_;refine ag 3 ad ?_;refine al ad ?_;refine dk _ (bV (some ([0,1,4,9],none)) _ (bs (ae fun cI cz ey fp => ai fun dB c7 => ?_)));refine ag 3 ad ?_;refine al ad ?_;refine c7 _ (cz (some ([0,1,4,17],none)) _ (bs (ae fun bz cR h1 gQ => ai fun eK cK => ?_)));refine ag 3 ad ?_;refine al ad ?_;refine cK _ (cR (some ([0,1,4,22],none)) _ (bs (bI _ (aP (some ([0,1,4],none)) _ (ae fun fM cr h0 g6 => ai fun ga cD => ?_)))));refine ag 2 ad ?_;refine aS ad ?_;refine cD _ ?_
 refine cr (some ([1,4,6],none)) _ (ae fun _ dF _ _ => ae fun _ fx _ _ => ai fun _ eJ => ?_);refine al ad ?_;refine eJ _ (fx (some ([4,6,30,31,32],none)) _ (cj fun _ _ LR _ _ => ?_));refine ie (ZL g ws q) (ws.length) (some ([4,6,30,31,32],some ([0,2,1,3],4))) ([.cell 2 0 (some 150) 1]) ?_ ?_
 ·try refine dR ?_
  exact ⟨0,by omega,by omega,rfl⟩
 ·intro k bT aW
  obtain ⟨i,aq,rfl,rfl⟩ := aW
  intro _ kC _ yx
  refine ae fun _ hM _ _ => ai fun _ hr => ?_;refine aS ad ?_;refine hr _ (hM (some ([4,6,30,31,32,33],none)) _ (ae fun _ hZ _ yy => ?_));refine mP rfl (fun ou => ?_) (fun ou => ?_)
  ·try replace ou := Ap ou
   obtain ⟨w,hw⟩ : ∃ w,ws[i]? = some w := ⟨_,List.getElem?_eq_getElem (by omega)⟩
   have cf : IntKind.i64.wrap ((i : Int) + 1) = ((i + 1 : Nat) : Int) := by rw [IntKind.wrap_i64]; omega
   have dA : ((ws.take i).map fun w => sJ (th w)).length ≤ 4096 := by simp; omega
   have aD := And.intro ad (And.intro @hw @cf)
   refine hZ (some ([4,6,30,31,32],none)) _ (ae fun _ hK _ _ => cj fun _ lu _ _ _ => ae fun _ iu _ _ => ai fun _ iq => ?_);refine ag 1 aD ?_;refine ag 1 aD ?_;refine aS aD ?_;refine iq _ (iu (some ([4,6,8,30,31,32],none)) _ ?_);refine gh [] (n := 5) fun _ gD => ?_;refine gY ?_;refine cF 2 aD ?_;refine cF 1 aD ?_;refine gd 1 aD ?_;refine ⟨_,ajE w,?_⟩;refine og aD ?_;refine gD _ ?_;refine gZ ?_;refine ag 1 aD ?_;refine aS aD ?_;refine lu _ (hK (some ([4,6,30,31,32],none)) _ (ai fun _ jT => ?_));refine ag 1 aD ?_;refine al aD ?_;refine jT _ ?_;refine kC (ws.length - (i + 1)) (some ([4,6,30,31,32],some ([0,1,2,5],4))) _ ?_ ?_
   all_goals try refine dR ?_
   ·omega
   ·refine ⟨i + 1,by omega,by omega,?_⟩
    rw [show ws.take (i + 1) = ws.take i ++ [w] from by rw [List.take_add_one,hw]; rfl,List.map_append]
    rfl
  ·try replace ou := Ap ou
   obtain rfl : i = ws.length := by omega
   refine yy 1 _ (yx 1 _ (LR _ (dF (some ([4,6],none)) _ (ae fun _ mv _ _ => ai fun _ hY => ?_))));refine ag 1 ad ?_;refine ag 1 ad ?_;refine al ad ?_;refine hY _ (mv (some ([4,5],none)) _ ?_);refine jr ad ?_
   simp [Function.comp_def]
structure dJ where
 op : Int
 place : Int
 old : bm
 new : bm
abbrev qf (a : dJ) : List aw := [aG a.op,aG a.place,aG a.old.val,gk a.old.eV,gk a.old.ref,aG a.new.val,gk a.new.eV,gk a.new.ref]
structure YE where
 jv : Int
 act : dJ
 choice : Int
def cn (v : Int) : bm := ⟨v,0,0⟩
def XV : c8 := (gI 2 [cn 0,cn 0]).1
def v7 : c8 := (oB XV 1 0 (cn 7) false).1
def so : c8 := (oB v7 1 1 (cn 1) true).1
noncomputable def XW : c8 := (ny so 2 1 true 0).1
end Go.Proofs.YtkmbcjnaaokilaaGreatDoor
namespace Go.Proofs.YtkmbcjnaaokilaaGreatDoor
open Go.RowKit

def N1 : bZ := (.seq (.ops [ab 4 (.cw 59 [.au 1,.au 1,.au 3,.au 2,.mp 3,.au 1,.int .i64]),ab 5 (.ah (ay 0))]) (.seq (.ops [ab 10 (.ah (aa 0)),ab 11 (.ah (aa 1)),ab 12 (.call 65 [.tmp 10,.tmp 11]),ab 9 (.ah (aa 12)),ab 13 (.ext (aa 9) 0),ab 14 (.ext (aa 9) 1),ab 6 (.cw 53 [.au 1,.au 1]),aQ (.st 2 (aa 6) (aa 13)),ab 7 (.ah (aa 14))]) (.seq (.seq (.ops [ab 15 (.ah (aa 7)),ab 16 (.bin .neq (aa 15) (ay 0))]) (.cond (aa 16) (.seq (.ops [ab 17 (.dO [.au 1,.au 1,.au 3,.au 2,.mp 3,.au 1,.int .i64] []),ab 18 (.ah (aa 7)),aQ (.st 7 (aa 4) (aa 17)),ab 5 (.ah (aa 18))]) .ret) .skip)) (.seq (.ops [ab 20 (.ah (aa 1)),ab 21 (.call 66 [.tmp 20]),ab 19 (.ah (aa 21)),ab 22 (.ext (aa 19) 0),ab 23 (.ext (aa 19) 1),ab 8 (.cw 57 [.au 3,.au 2,.mp 3]),aQ (.st 3 (aa 8) (aa 22)),ab 7 (.ah (aa 23))]) (.seq (.seq (.ops [ab 24 (.ah (aa 7)),ab 25 (.bin .neq (aa 24) (ay 0))]) (.cond (aa 25) (.seq (.ops [ab 26 (.dO [.au 1,.au 1,.au 3,.au 2,.mp 3,.au 1,.int .i64] []),ab 27 (.ah (aa 7)),aQ (.st 7 (aa 4) (aa 26)),ab 5 (.ah (aa 27))]) .ret) .skip)) (.seq (.g0 4 [ab 28 (.aC (aa 6) (some 2)),ab 29 (.aC (aa 8) (some 3)),ab 30 (.ah (aa 0)),ab 31 (.mY (aa 30) 3 1 8 [.int .i64]),ab 32 (.dO [.au 1,.au 1,.au 3,.au 2,.mp 3,.au 1,.int .i64] [(0,(2,(aa 28))),(2,(3,(aa 29))),(5,(1,(aa 31)))]),aQ (.st 7 (aa 4) (aa 32)),ab 5 (.ah (ay 0))]) .ret))))))
def Nx : List b6 := [(.eB 4 (some 7)),.tmp 5]
theorem amT : cP Tryz.prog rfl Tryz.f42 = some (N1,Nx) := by kernel_rfl
def V3 : bZ := (.seq (.ops [ab 1 (.box 59 (aa 0)),ab 2 (.ah (ay 0)),ab 3 (.ah (ay 0))]) (.seq (.ops [ab 4 (.aU (aa 1) 0),ab 5 (.aC (aa 4) (some 2)),ab 6 (.call 68 [.tmp 5]),ab 7 (.ext (aa 6) 0),ab 8 (.ext (aa 6) 1),ab 2 (.ah (aa 7)),ab 3 (.ah (aa 8))]) .ret))
def UU : List b6 := [.tmp 2,.tmp 3]
theorem amV : cP Tryz.prog rfl Tryz.f47 = some (V3,UU) := by kernel_rfl
def V4 : bZ := (.seq (.ops [ab 2 (.box 59 (aa 0)),ab 4 (.cw 79 [.int .i64,.int .u32,.int .u32]),ab 5 (.ah (a3 false))]) (.seq (.ops [ab 6 (.aU (aa 2) 0),ab 7 (.aC (aa 6) (some 2)),ab 8 (.ah (aa 1)),ab 9 (.call 69 [.tmp 7,.tmp 8]),ab 10 (.ext (aa 9) 0),ab 11 (.ext (aa 9) 1),aQ (.st 3 (aa 4) (aa 10)),ab 5 (.ah (aa 11))]) .ret))
def UW : List b6 := [(.eB 4 (some 3)),.tmp 5]
theorem amW : cP Tryz.prog rfl Tryz.f48 = some (V4,UW) := by kernel_rfl
def V5 : bZ := (.seq (.ops [ab 1 (.box 59 (aa 0)),ab 2 (.ah (.const (.slice none 0 0)))]) (.seq (.ops [ab 10 (.aC (aa 1) (some 7)),ab 11 (.call 47 [.tmp 10]),ab 9 (.ah (aa 11)),ab 12 (.ext (aa 9) 0),ab 13 (.ext (aa 9) 1),ab 3 (.ah (aa 12)),ab 4 (.ah (aa 13))]) (.seq (.ops [ab 5 (.ah (.const (.slice none 0 0)))]) (.seq (.seq (.ops [ab 14 (.ah (aa 4)),ab 15 (.ah (ay 0))]) (.block 0 (.loop (.seq (.ops [ab 16 (.bin .lss (aa 15) (aa 14))]) (.seq (.cond (aa 16) .skip (.exit 0)) (.seq (.block 1 (.seq (.ops [ab 17 (.ah (aa 15)),ab 6 (.ah (aa 17))]) (.seq (.ops [ab 19 (.aC (aa 1) (some 7)),ab 20 (.ah (aa 6)),ab 21 (.call 48 [.tmp 19,.tmp 20]),ab 18 (.ah (aa 21)),ab 22 (.ext (aa 18) 0),ab 23 (.ext (aa 18) 1),ab 7 (.cw 79 [.int .i64,.int .u32,.int .u32]),aQ (.st 3 (aa 7) (aa 22)),ab 8 (.ah (aa 23))]) (.ops [ab 24 (.ah (aa 5)),ab 25 (.aC (aa 7) (some 3)),ab 26 (.hE 3 [.tmp 25]),ab 27 (.app (aa 24) (aa 26) 79 3 16),ab 5 (.ah (aa 27))])))) (.ops [ab 28 (.bin .add (aa 15) (ay 1)),ab 15 (.ah (aa 28))]))))))) (.seq (.ops [ab 29 (.ah (aa 5)),ab 2 (.ah (aa 29))]) .ret)))))
def UX : List b6 := [.tmp 2]
theorem amX : cP Tryz.prog rfl Tryz.f23 = some (V5,UX) := by kernel_rfl
def HN : bZ := (.seq (.ops [ab 1 (.box 81 (aa 0)),ab 2 (.ah (a3 false))]) (.seq (.ops [ab 3 (.aU (aa 1) 0),ab 4 (.aC (aa 3) none),ab 5 (.bin .eql (aa 4) (ay 3)),ab 6 (.ah (aa 5)),a8 7 6 false (.aU (aa 1) 0),a8 8 6 false (.aC (aa 7) none),a8 9 6 false (.bin .eql (aa 8) (ay 4)),ab 10 (.pick (aa 6) (a3 true) (aa 9)),ab 11 (.ah (aa 10)),a8 12 11 false (.aU (aa 1) 0),a8 13 11 false (.aC (aa 12) none),a8 14 11 false (.bin .eql (aa 13) (ay 6)),ab 15 (.pick (aa 11) (a3 true) (aa 14)),ab 2 (.ah (aa 15))]) .ret))
def HC : List b6 := [.tmp 2]
theorem amP : cP Tryz.prog rfl Tryz.f89 = some (HN,HC) := by kernel_rfl
def uv : bZ := (.seq (.ops [ab 3 (.box 59 (aa 0)),ab 5 (.box 81 (aa 2)),ab 6 (.ah (ay 0))]) (.seq (.ops [ab 10 (.aC (aa 3) (some 7)),ab 11 (.call 47 [.tmp 10]),ab 9 (.ah (aa 11)),ab 12 (.ext (aa 9) 0),ab 13 (.ext (aa 9) 1),ab 7 (.ah (aa 12)),ab 8 (.ah (aa 13))]) (.seq (.block 0 (.seq (.ops [ab 15 (.ah (aa 1)),ab 16 (.bin .lss (aa 15) (ay 1)),ab 17 (.ah (aa 16)),a8 18 17 false (.ah (aa 1)),a8 19 17 false (.ah (aa 7)),a8 20 17 false (.bin .gtr (aa 18) (aa 19)),ab 21 (.pick (aa 17) (a3 true) (aa 20)),ab 14 (.ah (aa 21))]) (.cond (aa 14) (.seq (.ops [ab 6 (.ah (ay 3))]) .ret) (.seq (.ops [ab 23 (.aU (aa 5) 0),ab 24 (.aC (aa 23) none),ab 25 (.bin .lss (aa 24) (ay 0)),ab 26 (.ah (aa 25)),a8 27 26 false (.aU (aa 5) 0),a8 28 26 false (.aC (aa 27) none),a8 29 26 false (.bin .gtr (aa 28) (ay 8)),ab 30 (.pick (aa 26) (a3 true) (aa 29)),ab 22 (.ah (aa 30))]) (.cond (aa 22) (.seq (.ops [ab 6 (.ah (ay 2))]) .ret) (.seq (.ops [ab 32 (.aU (aa 5) 0),ab 33 (.aC (aa 32) none),ab 34 (.bin .neq (aa 33) (ay 0)),ab 35 (.ah (aa 34)),a8 36 35 true (.aU (aa 5) 0),a8 37 35 true (.aC (aa 36) none),a8 38 35 true (.bin .neq (aa 37) (ay 8)),ab 39 (.pick (aa 35) (aa 38) (a3 false)),ab 40 (.ah (aa 39)),a8 41 40 true (.aU (aa 5) 1),a8 42 40 true (.aC (aa 41) none),a8 43 40 true (.bin .lss (aa 42) (ay 0)),a8 44 40 true (.ah (aa 43)),a8 45 44 false (.aU (aa 5) 1),a8 46 44 false (.aC (aa 45) none),a8 47 44 false (.ah (aa 8)),a8 48 44 false (.bin .geq (aa 46) (aa 47)),a8 49 40 true (.pick (aa 44) (a3 true) (aa 48)),ab 50 (.pick (aa 40) (aa 49) (a3 false)),ab 31 (.ah (aa 50))]) (.cond (aa 31) (.seq (.ops [ab 6 (.ah (ay 1))]) .ret) .skip))))))) (.seq (.ops [ab 6 (.ah (ay 0))]) .ret))))
def uq : List b6 := [.tmp 6]
theorem amQ : cP Tryz.prog rfl Tryz.f88 = some (uv,uq) := by kernel_rfl
def N2 : bZ := (.seq (.ops [ab 4 (.box 59 (aa 0)),ab 6 (.box 81 (aa 2)),ab 8 (.cw 59 [.au 1,.au 1,.au 3,.au 2,.mp 3,.au 1,.int .i64]),ab 9 (.cw 100 [.int .i64,.int .u32,.int .u32,.bool])]) (.seq (.ops [ab 10 (.cw 79 [.int .i64,.int .u32,.int .u32])]) (.seq (.seq (.ops [ab 11 (.aU (aa 6) 0),ab 12 (.aC (aa 11) none),ab 13 (.bin .eql (aa 12) (ay 5))]) (.cond (aa 13) (.ops [ab 15 (.aU (aa 4) 0),ab 16 (.aC (aa 15) (some 2)),ab 17 (.ah (aa 1)),ab 18 (.aU (aa 6) 1),ab 19 (.aC (aa 18) none),ab 20 (.call 105 [.tmp 16,.tmp 17,.tmp 19]),ab 14 (.ah (aa 20)),ab 21 (.ext (aa 14) 0),ab 22 (.ext (aa 14) 1),ab 23 (.ext (aa 14) 2),ab 24 (.aU (aa 4) 0),aQ (.st 2 (aa 24) (aa 21)),aQ (.st 3 (aa 10) (aa 22))]) (.ops [ab 26 (.aU (aa 4) 0),ab 27 (.aC (aa 26) (some 2)),ab 28 (.ah (aa 1)),ab 29 (.aU (aa 6) 1),ab 30 (.aC (aa 29) none),ab 31 (.aU (aa 6) 0),ab 32 (.aC (aa 31) none),ab 33 (.bin .eql (aa 32) (ay 2)),ab 34 (.ah (aa 3)),ab 35 (.call 106 [.tmp 27,.tmp 28,.tmp 30,.tmp 33,.tmp 34]),ab 25 (.ah (aa 35)),ab 36 (.ext (aa 25) 0),ab 37 (.ext (aa 25) 1),ab 38 (.ext (aa 25) 2),ab 39 (.aU (aa 4) 0),aQ (.st 2 (aa 39) (aa 36)),aQ (.st 3 (aa 10) (aa 37))]))) (.seq (.ord (.alt (.step 0 (.alt (.step 1 (.b4 2 (.step 3 (.step 4 .leaf)))) (.step 3 (.step 1 (.b4 2 (.step 4 .leaf)))))) (.step 1 (.b4 2 (.step 0 (.step 3 (.step 4 .leaf)))))) [ab 40 (.aC (aa 4) (some 7)),ab 41 (.aC (aa 10) (some 3)),ab 42 (.dO [.int .i64,.int .u32,.int .u32,.bool] [(0,(3,(aa 41))),(3,(1,(a3 true)))]),aQ (.st 7 (aa 8) (aa 40)),aQ (.st 4 (aa 9) (aa 42))]) .ret))))
def Ny : List b6 := [(.eB 8 (some 7)),(.eB 9 (some 4))]
theorem amU : cP Tryz.prog rfl Tryz.f93 = some (N2,Ny) := by kernel_rfl
def HP : bZ := (.seq (.ops [ab 3 (.box 59 (aa 0)),ab 5 (.box 81 (aa 2)),ab 6 (.cw 59 [.au 1,.au 1,.au 3,.au 2,.mp 3,.au 1,.int .i64]),ab 7 (.cw 100 [.int .i64,.int .u32,.int .u32,.bool])]) (.seq (.ops [ab 9 (.dO [.int .i64,.int .u32,.int .u32,.bool] [(3,(1,(a3 true)))]),ab 8 (.cw 100 [.int .i64,.int .u32,.int .u32,.bool]),aQ (.st 4 (aa 8) (aa 9))]) (.seq (.seq (.ops [ab 10 (.aU (aa 5) 0),ab 11 (.aC (aa 10) none),ab 12 (.bin .eql (aa 11) (ay 6))]) (.cond (aa 12) (.ops [ab 14 (.aU (aa 3) 0),ab 15 (.aC (aa 14) (some 2)),ab 16 (.ah (aa 1)),ab 17 (.aU (aa 5) 1),ab 18 (.aC (aa 17) none),ab 19 (.aU (aa 5) 2),ab 20 (.aC (aa 19) (some 3)),ab 21 (.aU (aa 5) 5),ab 22 (.aC (aa 21) (some 3)),ab 23 (.call 97 [.tmp 15,.tmp 16,.tmp 18,.tmp 20,.tmp 22]),ab 13 (.ah (aa 23)),ab 24 (.ext (aa 13) 0),ab 25 (.ext (aa 13) 1),ab 26 (.ext (aa 13) 2),ab 27 (.ext (aa 13) 3),ab 28 (.aU (aa 3) 0),aQ (.st 2 (aa 28) (aa 24)),ab 29 (.aU (aa 8) 0),aQ (.st 3 (aa 29) (aa 25)),ab 30 (.aU (aa 8) 3),aQ (.st 1 (aa 30) (aa 26))]) (.ops [ab 32 (.aU (aa 3) 0),ab 33 (.aC (aa 32) (some 2)),ab 34 (.ah (aa 1)),ab 35 (.aU (aa 5) 1),ab 36 (.aC (aa 35) none),ab 37 (.aU (aa 5) 5),ab 38 (.aC (aa 37) (some 3)),ab 39 (.aU (aa 5) 0),ab 40 (.aC (aa 39) none),ab 41 (.bin .eql (aa 40) (ay 4)),ab 42 (.call 98 [.tmp 33,.tmp 34,.tmp 36,.tmp 38,.tmp 41]),ab 31 (.ah (aa 42)),ab 43 (.ext (aa 31) 0),ab 44 (.ext (aa 31) 1),ab 45 (.aU (aa 3) 0),aQ (.st 2 (aa 45) (aa 43))]))) (.seq (.seq (.ops [ab 46 (.aU (aa 8) 3),ab 47 (.aC (aa 46) none)]) (.cond (aa 47) (.ops [ab 49 (.aU (aa 3) 2),ab 50 (.aC (aa 49) (some 3)),ab 51 (.aU (aa 5) 1),ab 52 (.aC (aa 51) none),ab 53 (.aU (aa 5) 5),ab 54 (.aC (aa 53) (some 3)),ab 55 (.call 99 [.tmp 50,.tmp 52,.tmp 54]),ab 48 (.ah (aa 55)),ab 56 (.ext (aa 48) 0),ab 57 (.ext (aa 48) 1),ab 58 (.aU (aa 3) 2),aQ (.st 3 (aa 58) (aa 56))]) .skip)) (.seq (.ord (.alt (.step 0 (.alt (.step 1 (.step 2 (.step 3 .leaf))) (.step 2 (.step 1 (.step 3 .leaf))))) (.step 1 (.step 0 (.step 2 (.step 3 .leaf))))) [ab 59 (.aC (aa 3) (some 7)),ab 60 (.aC (aa 8) (some 4)),aQ (.st 7 (aa 6) (aa 59)),aQ (.st 4 (aa 7) (aa 60))]) .ret)))))
def HE : List b6 := [(.eB 6 (some 7)),(.eB 7 (some 4))]
theorem amY : cP Tryz.prog rfl Tryz.f90 = some (HP,HE) := by kernel_rfl
def zy : bZ := (.seq (.ops [ab 4 (.box 59 (aa 0)),ab 6 (.box 81 (aa 2)),ab 8 (.cw 59 [.au 1,.au 1,.au 3,.au 2,.mp 3,.au 1,.int .i64]),ab 9 (.cw 100 [.int .i64,.int .u32,.int .u32,.bool]),ab 10 (.ah (ay 0))]) (.seq (.seq (.ops [ab 13 (.aC (aa 4) (some 7)),ab 14 (.ah (aa 1)),ab 15 (.aC (aa 6) (some 8)),ab 16 (.call 88 [.tmp 13,.tmp 14,.tmp 15]),ab 11 (.ah (aa 16))]) (.seq (.ops [ab 17 (.ah (aa 11)),ab 18 (.bin .neq (aa 17) (ay 0))]) (.cond (aa 18) (.seq (.ops [ab 19 (.aC (aa 4) (some 7)),ab 20 (.dO [.int .i64,.int .u32,.int .u32,.bool] []),ab 21 (.ah (aa 11)),aQ (.st 7 (aa 8) (aa 19)),aQ (.st 4 (aa 9) (aa 20)),ab 10 (.ah (aa 21))]) .ret) .skip))) (.seq (.ops [ab 22 (.dO [.int .i64,.int .u32,.int .u32,.bool] [(3,(1,(a3 true)))]),ab 12 (.cw 100 [.int .i64,.int .u32,.int .u32,.bool]),aQ (.st 4 (aa 12) (aa 22))]) (.seq (.block 0 (.seq (.ops [ab 24 (.aC (aa 6) (some 8)),ab 25 (.call 89 [.tmp 24]),ab 23 (.ah (aa 25))]) (.cond (aa 23) (.ops [ab 27 (.aC (aa 4) (some 7)),ab 28 (.ah (aa 1)),ab 29 (.aC (aa 6) (some 8)),ab 30 (.call 90 [.tmp 27,.tmp 28,.tmp 29]),ab 26 (.ah (aa 30)),ab 31 (.ext (aa 26) 0),ab 32 (.ext (aa 26) 1),aQ (.st 7 (aa 4) (aa 31)),aQ (.st 4 (aa 12) (aa 32))]) (.seq (.ops [ab 34 (.aU (aa 6) 0),ab 35 (.aC (aa 34) none),ab 36 (.bin .eql (aa 35) (ay 7)),ab 33 (.ah (aa 36))]) (.cond (aa 33) (.ops [ab 38 (.aU (aa 4) 2),ab 39 (.aC (aa 38) (some 3)),ab 40 (.ah (aa 1)),ab 41 (.aU (aa 6) 1),ab 42 (.aC (aa 41) none),ab 43 (.call 91 [.tmp 39,.tmp 40,.tmp 42]),ab 37 (.ah (aa 43)),ab 44 (.ext (aa 37) 0),ab 45 (.ext (aa 37) 1),ab 46 (.aU (aa 4) 2),aQ (.st 3 (aa 46) (aa 44))]) (.seq (.ops [ab 48 (.aU (aa 6) 0),ab 49 (.aC (aa 48) none),ab 50 (.bin .eql (aa 49) (ay 8)),ab 47 (.ah (aa 50))]) (.cond (aa 47) (.ops [ab 52 (.aU (aa 4) 2),ab 53 (.aC (aa 52) (some 3)),ab 54 (.ah (aa 1)),ab 55 (.call 92 [.tmp 53,.tmp 54]),ab 51 (.ah (aa 55)),ab 56 (.ext (aa 51) 0),ab 57 (.ext (aa 51) 1),ab 58 (.aU (aa 4) 2),aQ (.st 3 (aa 58) (aa 56))]) (.seq (.ops [ab 60 (.aU (aa 6) 0),ab 61 (.aC (aa 60) none),ab 62 (.bin .neq (aa 61) (ay 0)),ab 59 (.ah (aa 62))]) (.cond (aa 59) (.ops [ab 64 (.aC (aa 4) (some 7)),ab 65 (.ah (aa 1)),ab 66 (.aC (aa 6) (some 8)),ab 67 (.ah (aa 3)),ab 68 (.call 93 [.tmp 64,.tmp 65,.tmp 66,.tmp 67]),ab 63 (.ah (aa 68)),ab 69 (.ext (aa 63) 0),ab 70 (.ext (aa 63) 1),aQ (.st 7 (aa 4) (aa 69)),aQ (.st 4 (aa 12) (aa 70))]) .skip))))))))) (.seq (.ops [ab 71 (.aU (aa 4) 5),ab 72 (.aC (aa 71) none),ab 73 (.call 71 [.tmp 72]),ab 74 (.aU (aa 4) 5),aQ (.st 1 (aa 74) (aa 73))]) (.seq (.ops [ab 75 (.aU (aa 4) 5),ab 76 (.aC (aa 75) none),ab 77 (.ah (aa 1)),ab 78 (.bin .sub (aa 77) (ay 1)),ab 79 (.dD (aa 76) (aa 78) 1),ab 80 (.aC (aa 79) none),ab 81 (.bin .add (aa 80) (ay 1)),ab 82 (.dD (aa 76) (aa 78) 1),aQ (.st 1 (aa 82) (aa 81))]) (.seq (.ord (.alt (.step 0 (.alt (.step 1 (.step 2 (.step 3 (.b4 4 .leaf)))) (.step 2 (.step 1 (.step 3 (.b4 4 .leaf)))))) (.step 1 (.step 0 (.step 2 (.step 3 (.b4 4 .leaf)))))) [ab 83 (.aC (aa 4) (some 7)),ab 84 (.aC (aa 12) (some 4)),aQ (.st 7 (aa 8) (aa 83)),aQ (.st 4 (aa 9) (aa 84)),ab 10 (.ah (ay 0))]) .ret)))))))
def zv : List b6 := [(.eB 8 (some 7)),(.eB 9 (some 4)),.tmp 10]
theorem amS : cP Tryz.prog rfl Tryz.f73 = some (zy,zv) := by kernel_rfl
def HO : bZ := (.seq (.ops [ab 2 (.box 59 (aa 0)),ab 4 (.cw 59 [.au 1,.au 1,.au 3,.au 2,.mp 3,.au 1,.int .i64])]) (.seq (.ops [ab 10 (.aC (aa 2) (some 7)),ab 11 (.call 47 [.tmp 10]),ab 9 (.ah (aa 11)),ab 12 (.ext (aa 9) 0),ab 13 (.ext (aa 9) 1),ab 5 (.ah (aa 12)),ab 6 (.ah (aa 13))]) (.seq (.seq (.ops [ab 14 (.ah (aa 5)),ab 15 (.bin .eql (aa 14) (ay 0)),ab 16 (.ah (aa 15)),a8 17 16 false (.ah (aa 6)),a8 18 16 false (.bin .eql (aa 17) (ay 0)),ab 19 (.pick (aa 16) (a3 true) (aa 18))]) (.cond (aa 19) (.seq (.ops [ab 20 (.aC (aa 2) (some 7)),aQ (.st 7 (aa 4) (aa 20))]) .ret) .skip)) (.seq (.ops [ab 22 (.ah (aa 5)),ab 23 (.aU (aa 2) 2),ab 24 (.aC (aa 23) (some 3)),ab 25 (.ah (aa 1)),ab 26 (.call 70 [.tmp 24,.tmp 25]),ab 27 (.call 42 [.tmp 22,.tmp 26]),ab 21 (.ah (aa 27)),ab 28 (.ext (aa 21) 0),ab 29 (.ext (aa 21) 1),ab 7 (.cw 59 [.au 1,.au 1,.au 3,.au 2,.mp 3,.au 1,.int .i64]),aQ (.st 7 (aa 7) (aa 28)),ab 8 (.ah (aa 29))]) (.seq (.seq (.ops [ab 30 (.ah (aa 8)),ab 31 (.bin .neq (aa 30) (ay 0))]) (.cond (aa 31) (.seq (.ops [ab 32 (.aC (aa 2) (some 7)),aQ (.st 7 (aa 4) (aa 32))]) .ret) .skip)) (.seq (.ord (.b4 0 (.b4 3 (.alt (.step 1 (.alt (.step 2 (.b4 6 (.alt (.step 4 (.b4 5 (.step 7 (.b4 8 (.step 9 .leaf))))) (.step 7 (.step 4 (.b4 5 (.b4 8 (.step 9 .leaf)))))))) (.step 4 (.b4 5 (.step 2 (.b4 6 (.step 7 (.b4 8 (.step 9 .leaf))))))))) (.step 4 (.b4 5 (.step 1 (.step 2 (.b4 6 (.step 7 (.b4 8 (.step 9 .leaf))))))))))) [ab 33 (.aU (aa 2) 5),ab 34 (.aC (aa 33) none),ab 35 (.call 71 [.tmp 34]),ab 36 (.aU (aa 2) 6),ab 37 (.aC (aa 36) none),ab 38 (.bin .add (aa 37) (ay 1)),ab 39 (.aU (aa 7) 5),aQ (.st 1 (aa 39) (aa 35)),ab 40 (.aU (aa 7) 6),aQ (.st 1 (aa 40) (aa 38))]) (.seq (.ops [ab 41 (.aC (aa 7) (some 7)),aQ (.st 7 (aa 4) (aa 41))]) .ret)))))))
def HD : List b6 := [(.eB 4 (some 7))]
theorem amR : cP Tryz.prog rfl Tryz.f50 = some (HO,HD) := by kernel_rfl
end Go.Proofs.YtkmbcjnaaokilaaGreatDoor
