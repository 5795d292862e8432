/-
  The shadow code of functions, written by a program; each is what the translator makes of the function.
-/
import Derived.Test.YtkmbcjnaaokilaaGreatDoorMC
import Derived.Test.YtkmbcjnaaokilaaGreatDoorK4c
namespace Go.Proofs.YtkmbcjnaaokilaaGreatDoor
open Go.RowKit

end Go.Proofs.YtkmbcjnaaokilaaGreatDoor
namespace Go.Proofs.YtkmbcjnaaokilaaGreatDoor
set_option linter.unusedSimpArgs false
set_option linter.unusedVariables false
open Go.RowKit Go.Maps
def sc (w : bq) : List jP := [⟨w,0,fun _ => none⟩]
def gC (k : Int) (ws : List bq) : c6 × Int :=
 if k < 1 ∨ 8 < k then (⟨[],[]⟩,3) else if ws.length = 0 then (⟨[],[]⟩,8) else if 4096 < ws.length then (⟨[],[]⟩,15) else (⟨ws.map sc,List.replicate k.toNat fun _ => none⟩,0)
theorem E4 : gg ⟨[],[]⟩ 0 := ⟨by simp,by simp,fun h dq => by simp at dq,fun h dq => by simp at dq,fun h dq => by simp at dq,fun v bj => by simp at bj⟩
theorem JS (k : Int) (ws : List bq) : gg (gC k ws).1 1 := by
 unfold gC
 split
 ·exact s9 E4 (by omega)
 ·split
  ·exact s9 E4 (by omega)
  ·split
   ·exact s9 E4 (by omega)
   ·refine ⟨by simp; omega,by simp; omega,fun h dq => ?_,fun h dq => ?_,fun h dq m hm => ?_,fun v bj => ?_⟩
    ·obtain ⟨w,_,rfl⟩ := List.mem_map.1 dq; simp [sc]
    ·obtain ⟨w,_,rfl⟩ := List.mem_map.1 dq; simp [sc]
    ·obtain ⟨w,_,rfl⟩ := List.mem_map.1 dq
     simp only [sc,List.mem_singleton] at hm
     subst hm; exact wb
    ·rw [List.mem_replicate] at bj
     rw [bj.2]; exact wb
def V9 (g : Nat) (ws : List bq) (k : Nat) (m : Nat) (S : ak) : Prop :=
 ∃ i,i ≤ ws.length ∧ m = ws.length - i ∧ S = ⟨[(4,.ptr 0 0 0),(6,.ptr 1 0 0),(30,.au 3 g (ws.map dj)),(31,aI ws.length),(32,aI i)],
  [(0,.box 53 [.au 1 0 [],.au 1 0 []]),(1,.box 53 [.own 3,.own 2]),(2,.row 157 1 (List.replicate k [.mp 76 fun _ => none])),(3,.row 150 1 ((ws.take i).map fun w => rA (sc w)))],4⟩
set_option maxHeartbeats 4000000 in
theorem agx (k : Int) (g : Nat) (ws : List bq) : cu 65 [aI k,.au 3 g (ws.map dj)] (.bR [iF (gC k ws).1,aI (gC k ws).2]) := by
 refine df Tryz.func65 akm rfl ?_
 unfold gC
 by_cases af : k < 1
 ·rw [if_pos (.inl af)]
  unfold bJ zo zj;delta ab aR a9 aa aA a6
  have ad := @af
  refine ae fun bz aK b6 cb => ai fun b7 aG => ?_;refine an ad ?_;refine aG _ (aK (some ([0,1,4],none)) _ (ae fun b8 aQ bt b5 => cx fun b9 bG kE c7 dF => ae fun cD bT dG eG => ai fun cv de => ?_));refine ag 2 ad ?_;refine ag 3 ad ?_;refine an ad ?_;refine de _ (bT (some ([0,1,4,9],none)) _ (bY (ae fun cC cp ek ft => ai fun dy c0 => ?_)));refine ag 2 ad ?_;refine an ad ?_;refine c0 _ (cp (some ([4,5],none)) _ (c7 _ (bt _ ?_)))
  exact cO ad
 by_cases aj : 8 < k
 ·rw [if_pos (.inr aj)]
  unfold bJ zo zj;delta ab aR a9 aa aA a6
  have ad := And.intro @af @aj
  refine ae fun bz aK b6 cb => ai fun b7 aG => ?_;refine an ad ?_;refine aG _ (aK (some ([0,1,4],none)) _ (ae fun b8 aQ bt b5 => cx fun b9 bG kE c7 dF => ae fun cD bT dG eG => ai fun cv de => ?_));refine ag 2 ad ?_;refine ag 3 ad ?_;refine an ad ?_;refine de _ (bT (some ([0,1,4,9],none)) _ (bY (ae fun cC cp ek ft => ai fun dy c0 => ?_)));refine ag 2 ad ?_;refine an ad ?_;refine c0 _ (cp (some ([4,5],none)) _ (c7 _ (bt _ ?_)))
  exact cO ad
 rw [if_neg (by omega)]
 by_cases aw : ws.length = 0
 ·rw [if_pos aw]
  have d : ((ws.length : Int) == 0) = true := by simp [aw]
  unfold bJ zo zj;delta ab aR a9 aa aA a6
  have ad := And.intro @af (And.intro @aj @d)
  refine ae fun bz aK b6 cb => ai fun b7 aG => ?_;refine an ad ?_;refine aG _ (aK (some ([0,1,4],none)) _ (ae fun b8 aQ bt b5 => cx fun b9 bG kE c7 dF => ae fun cD bT dG eG => ai fun cv de => ?_));refine ag 2 ad ?_;refine ag 3 ad ?_;refine an ad ?_;refine de _ (bT (some ([0,1,4,9],none)) _ (bB (ae fun cC cp ek ft => ai fun dy c0 => ?_)));refine ag 3 ad ?_;refine an ad ?_;refine c0 _ (cp (some ([0,1,4,17],none)) _ (bY (ae fun bo cN hM gR => ai fun ey cF => ?_)));refine ag 2 ad ?_;refine an ad ?_;refine cF _ (cN (some ([4,5],none)) _ (c7 _ (bt _ ?_)))
  exact cO ad
 rw [if_neg aw]
 have d : ((ws.length : Int) == 0) = false := by simp; exact fun e => aw (by rw [e]; rfl)
 by_cases aV : 4096 < ws.length
 ·rw [if_pos aV]
  have d4 : (4096 : Int) < (ws.length : Int) := by omega
  unfold bJ zo zj;delta ab aR a9 aa aA a6
  have ad := And.intro @af (And.intro @aj (And.intro @d @d4))
  refine ae fun bz aK b6 cb => ai fun b7 aG => ?_;refine an ad ?_;refine aG _ (aK (some ([0,1,4],none)) _ (ae fun b8 aQ bt b5 => cx fun b9 bG kE c7 dF => ae fun cD bT dG eG => ai fun cv de => ?_));refine ag 2 ad ?_;refine ag 3 ad ?_;refine an ad ?_;refine de _ (bT (some ([0,1,4,9],none)) _ (bB (ae fun cC cp ek ft => ai fun dy c0 => ?_)));refine ag 3 ad ?_;refine an ad ?_;refine c0 _ (cp (some ([0,1,4,17],none)) _ (bB (ae fun bo cN hM gR => ai fun ey cF => ?_)));refine ag 3 ad ?_;refine an ad ?_;refine cF _ (cN (some ([0,1,4,22],none)) _ (bY (ae fun fB ct hL gU => ai fun fN cG => ?_)));refine ag 2 ad ?_;refine an ad ?_;refine cG _ (ct (some ([4,5],none)) _ (c7 _ ?_))
  refine bt _ ?_
  exact cO ad
 rw [if_neg aV]
 have d4 : ¬ (4096 : Int) < (ws.length : Int) := by omega
 obtain ⟨q,rfl⟩ := Int.eq_ofNat_of_zero_le (show 0 ≤ k by omega)
 unfold bJ zo zj;delta ab aR a9 aa aA a6
 have ad := And.intro @af (And.intro @aj (And.intro @d @d4))
 refine ae fun bz aK b6 cb => ai fun b7 aG => ?_;refine an ad ?_;refine aG _ (aK (some ([0,1,4],none)) _ (ae fun b8 aQ bt b5 => cx fun b9 bG kE c7 dF => ae fun cD bT dG eG => ai fun cv de => ?_));refine ag 2 ad ?_;refine ag 3 ad ?_;refine an ad ?_;refine de _ (bT (some ([0,1,4,9],none)) _ (bB (ae fun cC cp ek ft => ai fun dy c0 => ?_)));refine ag 3 ad ?_;refine an ad ?_;refine c0 _ (cp (some ([0,1,4,17],none)) _ (bB (ae fun bo cN hM gR => ai fun ey cF => ?_)));refine ag 3 ad ?_;refine an ad ?_;refine cF _ (cN (some ([0,1,4,22],none)) _ (bB (bG _ (aQ (some ([0,1,4],none)) _ (ae fun fB ct hL gU => ai fun fN cG => ?_)))));refine ag 2 ad ?_;refine aU ad ?_;refine cG _ ?_
 refine ct (some ([1,4,6],none)) _ (ae fun _ dJ _ _ => ae fun _ fQ _ _ => ai fun _ eB => ?_);refine an ad ?_;refine eB _ (fQ (some ([4,6,30,31,32],none)) _ (cx fun _ _ Jt _ _ => ?_));refine jS (V9 g ws q) (ws.length) (some ([4,6,30,31,32],some ([0,2,1,3],4))) ([.cell 2 0 (some 150) 1]) ?_ ?_
 ·try refine eC ?_
  exact ⟨0,by omega,by omega,rfl⟩
 ·intro k b0 aY
  obtain ⟨i,aq,rfl,rfl⟩ := aY
  intro _ kd _ tU
  refine ae fun _ ic _ _ => ai fun _ hz => ?_;refine aU ad ?_;refine hz _ (ic (some ([4,6,30,31,32,33],none)) _ (ae fun _ ix _ AN => ?_));refine mb rfl (fun p2 => ?_) (fun p2 => ?_)
  ·try replace p2 := yJ p2
   obtain ⟨w,hw⟩ : ∃ w,ws[i]? = some w := ⟨_,List.getElem?_eq_getElem (by omega)⟩
   have cd : IntKind.i64.wrap ((i : Int) + 1) = ((i + 1 : Nat) : Int) := by rw [IntKind.wrap_i64]; omega
   have dV : ((ws.take i).map fun w => rA (sc w)).length ≤ 4096 := by simp; omega
   have aD := And.intro ad (And.intro @hw @cd)
   refine ix (some ([4,6,30,31,32],none)) _ (ae fun _ h5 _ _ => cx fun _ lS _ _ _ => ae fun _ ke _ _ => ai fun _ iS => ?_);refine ag 1 aD ?_;refine ag 1 aD ?_;refine aU aD ?_;refine iS _ (ke (some ([4,6,8,30,31,32],none)) _ ?_);refine hy [] (n := 5) fun _ gu => ?_;refine hv ?_;refine cR 2 aD ?_;refine cR 1 aD ?_;refine gj 1 aD ?_;refine ⟨_,af7 w,?_⟩;refine pc aD ?_;refine gu _ ?_;refine hx ?_;refine ag 1 aD ?_;refine aU aD ?_;refine lS _ (h5 (some ([4,6,30,31,32],none)) _ (ai fun _ iU => ?_));refine ag 1 aD ?_;refine an aD ?_;refine iU _ ?_;refine kd (ws.length - (i + 1)) (some ([4,6,30,31,32],some ([0,1,2,5],4))) _ ?_ ?_
   all_goals try refine eC ?_
   ·omega
   ·refine ⟨i + 1,by omega,by omega,?_⟩
    rw [show ws.take (i + 1) = ws.take i ++ [w] from by rw [List.take_add_one,hw]; rfl,List.map_append]
    rfl
  ·try replace p2 := yJ p2
   obtain rfl : i = ws.length := by omega
   refine AN 1 _ (tU 1 _ (Jt _ (dJ (some ([4,6],none)) _ (ae fun _ mL _ _ => ai fun _ iW => ?_))));refine ag 1 ad ?_;refine ag 1 ad ?_;refine an ad ?_;refine iW _ (mL (some ([4,5],none)) _ ?_);refine jc ad ?_
   simp [Function.comp_def]
structure dB where
 op : Int
 place : Int
 old : bq
 new : bq
abbrev pa (a : dB) : List av := [aI a.op,aI a.place,aI a.old.val,fX a.old.eZ,fX a.old.ref,aI a.new.val,fX a.new.eZ,fX a.new.ref]
structure U0 where
 iC : Int
 act : dB
 choice : Int
def cE (v : Int) : bq := ⟨v,0,0⟩
def UE : c6 := (gC 2 [cE 0,cE 0]).1
def uL : c6 := (nH UE 1 0 (cE 7) false).1
def x1 : c6 := (nH uL 1 1 (cE 1) true).1
end Go.Proofs.YtkmbcjnaaokilaaGreatDoor
namespace Go.Proofs.YtkmbcjnaaokilaaGreatDoor
open Go.RowKit

def Ln : bU := (.seq (.ops [ab 4 (.cm 59 [.au 1,.au 1,.au 3,.au 2,.mp 3,.au 1,.int .i64]),ab 5 (.ah (aA 0))]) (.seq (.ops [ab 10 (.ah (aa 0)),ab 11 (.ah (aa 1)),ab 12 (.call 65 [.tmp 10,.tmp 11]),ab 9 (.ah (aa 12)),ab 13 (.ext (aa 9) 0),ab 14 (.ext (aa 9) 1),ab 6 (.cm 53 [.au 1,.au 1]),aR (.st 2 (aa 6) (aa 13)),ab 7 (.ah (aa 14))]) (.seq (.seq (.ops [ab 15 (.ah (aa 7)),ab 16 (.bin .neq (aa 15) (aA 0))]) (.cond (aa 16) (.seq (.ops [ab 17 (.dE [.au 1,.au 1,.au 3,.au 2,.mp 3,.au 1,.int .i64] []),ab 18 (.ah (aa 7)),aR (.st 7 (aa 4) (aa 17)),ab 5 (.ah (aa 18))]) .ret) .skip)) (.seq (.ops [ab 20 (.ah (aa 1)),ab 21 (.call 66 [.tmp 20]),ab 19 (.ah (aa 21)),ab 22 (.ext (aa 19) 0),ab 23 (.ext (aa 19) 1),ab 8 (.cm 57 [.au 3,.au 2,.mp 3]),aR (.st 3 (aa 8) (aa 22)),ab 7 (.ah (aa 23))]) (.seq (.seq (.ops [ab 24 (.ah (aa 7)),ab 25 (.bin .neq (aa 24) (aA 0))]) (.cond (aa 25) (.seq (.ops [ab 26 (.dE [.au 1,.au 1,.au 3,.au 2,.mp 3,.au 1,.int .i64] []),ab 27 (.ah (aa 7)),aR (.st 7 (aa 4) (aa 26)),ab 5 (.ah (aa 27))]) .ret) .skip)) (.seq (.hc 4 [ab 28 (.aC (aa 6) (some 2)),ab 29 (.aC (aa 8) (some 3)),ab 30 (.ah (aa 0)),ab 31 (.mm (aa 30) 3 1 8 [.int .i64]),ab 32 (.dE [.au 1,.au 1,.au 3,.au 2,.mp 3,.au 1,.int .i64] [(0,(2,(aa 28))),(2,(3,(aa 29))),(5,(1,(aa 31)))]),aR (.st 7 (aa 4) (aa 32)),ab 5 (.ah (aA 0))]) .ret))))))
def KV : List b3 := [(.eh 4 (some 7)),.tmp 5]
theorem ajg : cJ Tryz.prog rfl Tryz.f42 = some (Ln,KV) := by kernel_rfl
def SO : bU := (.seq (.ops [ab 1 (.box 59 (aa 0)),ab 2 (.ah (aA 0)),ab 3 (.ah (aA 0))]) (.seq (.ops [ab 4 (.a3 (aa 1) 0),ab 5 (.aC (aa 4) (some 2)),ab 6 (.call 68 [.tmp 5]),ab 7 (.ext (aa 6) 0),ab 8 (.ext (aa 6) 1),ab 2 (.ah (aa 7)),ab 3 (.ah (aa 8))]) .ret))
def RJ : List b3 := [.tmp 2,.tmp 3]
theorem aji : cJ Tryz.prog rfl Tryz.f47 = some (SO,RJ) := by kernel_rfl
def SP : bU := (.seq (.ops [ab 2 (.box 59 (aa 0)),ab 4 (.cm 79 [.int .i64,.int .u32,.int .u32]),ab 5 (.ah (a6 false))]) (.seq (.ops [ab 6 (.a3 (aa 2) 0),ab 7 (.aC (aa 6) (some 2)),ab 8 (.ah (aa 1)),ab 9 (.call 69 [.tmp 7,.tmp 8]),ab 10 (.ext (aa 9) 0),ab 11 (.ext (aa 9) 1),aR (.st 3 (aa 4) (aa 10)),ab 5 (.ah (aa 11))]) .ret))
def RK : List b3 := [(.eh 4 (some 3)),.tmp 5]
theorem ajj : cJ Tryz.prog rfl Tryz.f48 = some (SP,RK) := by kernel_rfl
def SQ : bU := (.seq (.ops [ab 1 (.box 59 (aa 0)),ab 2 (.ah (.const (.slice none 0 0)))]) (.seq (.ops [ab 10 (.aC (aa 1) (some 7)),ab 11 (.call 47 [.tmp 10]),ab 9 (.ah (aa 11)),ab 12 (.ext (aa 9) 0),ab 13 (.ext (aa 9) 1),ab 3 (.ah (aa 12)),ab 4 (.ah (aa 13))]) (.seq (.ops [ab 5 (.ah (.const (.slice none 0 0)))]) (.seq (.seq (.ops [ab 14 (.ah (aa 4)),ab 15 (.ah (aA 0))]) (.block 0 (.loop (.seq (.ops [ab 16 (.bin .lss (aa 15) (aa 14))]) (.seq (.cond (aa 16) .skip (.exit 0)) (.seq (.block 1 (.seq (.ops [ab 17 (.ah (aa 15)),ab 6 (.ah (aa 17))]) (.seq (.ops [ab 19 (.aC (aa 1) (some 7)),ab 20 (.ah (aa 6)),ab 21 (.call 48 [.tmp 19,.tmp 20]),ab 18 (.ah (aa 21)),ab 22 (.ext (aa 18) 0),ab 23 (.ext (aa 18) 1),ab 7 (.cm 79 [.int .i64,.int .u32,.int .u32]),aR (.st 3 (aa 7) (aa 22)),ab 8 (.ah (aa 23))]) (.ops [ab 24 (.ah (aa 5)),ab 25 (.aC (aa 7) (some 3)),ab 26 (.g2 3 [.tmp 25]),ab 27 (.app (aa 24) (aa 26) 79 3 16),ab 5 (.ah (aa 27))])))) (.ops [ab 28 (.bin .add (aa 15) (aA 1)),ab 15 (.ah (aa 28))]))))))) (.seq (.ops [ab 29 (.ah (aa 5)),ab 2 (.ah (aa 29))]) .ret)))))
def RL : List b3 := [.tmp 2]
theorem ajk : cJ Tryz.prog rfl Tryz.f23 = some (SQ,RL) := by kernel_rfl
def FP : bU := (.seq (.ops [ab 1 (.box 81 (aa 0)),ab 2 (.ah (a6 false))]) (.seq (.ops [ab 3 (.a3 (aa 1) 0),ab 4 (.aC (aa 3) none),ab 5 (.bin .eql (aa 4) (aA 3)),ab 6 (.ah (aa 5)),a9 7 6 false (.a3 (aa 1) 0),a9 8 6 false (.aC (aa 7) none),a9 9 6 false (.bin .eql (aa 8) (aA 4)),ab 10 (.pick (aa 6) (a6 true) (aa 9)),ab 11 (.ah (aa 10)),a9 12 11 false (.a3 (aa 1) 0),a9 13 11 false (.aC (aa 12) none),a9 14 11 false (.bin .eql (aa 13) (aA 6)),ab 15 (.pick (aa 11) (a6 true) (aa 14)),ab 2 (.ah (aa 15))]) .ret))
def FF : List b3 := [.tmp 2]
theorem ajc : cJ Tryz.prog rfl Tryz.f89 = some (FP,FF) := by kernel_rfl
def tg : bU := (.seq (.ops [ab 3 (.box 59 (aa 0)),ab 5 (.box 81 (aa 2)),ab 6 (.ah (aA 0))]) (.seq (.ops [ab 10 (.aC (aa 3) (some 7)),ab 11 (.call 47 [.tmp 10]),ab 9 (.ah (aa 11)),ab 12 (.ext (aa 9) 0),ab 13 (.ext (aa 9) 1),ab 7 (.ah (aa 12)),ab 8 (.ah (aa 13))]) (.seq (.block 0 (.seq (.ops [ab 15 (.ah (aa 1)),ab 16 (.bin .lss (aa 15) (aA 1)),ab 17 (.ah (aa 16)),a9 18 17 false (.ah (aa 1)),a9 19 17 false (.ah (aa 7)),a9 20 17 false (.bin .gtr (aa 18) (aa 19)),ab 21 (.pick (aa 17) (a6 true) (aa 20)),ab 14 (.ah (aa 21))]) (.cond (aa 14) (.seq (.ops [ab 6 (.ah (aA 3))]) .ret) (.seq (.ops [ab 23 (.a3 (aa 5) 0),ab 24 (.aC (aa 23) none),ab 25 (.bin .lss (aa 24) (aA 0)),ab 26 (.ah (aa 25)),a9 27 26 false (.a3 (aa 5) 0),a9 28 26 false (.aC (aa 27) none),a9 29 26 false (.bin .gtr (aa 28) (aA 8)),ab 30 (.pick (aa 26) (a6 true) (aa 29)),ab 22 (.ah (aa 30))]) (.cond (aa 22) (.seq (.ops [ab 6 (.ah (aA 2))]) .ret) (.seq (.ops [ab 32 (.a3 (aa 5) 0),ab 33 (.aC (aa 32) none),ab 34 (.bin .neq (aa 33) (aA 0)),ab 35 (.ah (aa 34)),a9 36 35 true (.a3 (aa 5) 0),a9 37 35 true (.aC (aa 36) none),a9 38 35 true (.bin .neq (aa 37) (aA 8)),ab 39 (.pick (aa 35) (aa 38) (a6 false)),ab 40 (.ah (aa 39)),a9 41 40 true (.a3 (aa 5) 1),a9 42 40 true (.aC (aa 41) none),a9 43 40 true (.bin .lss (aa 42) (aA 0)),a9 44 40 true (.ah (aa 43)),a9 45 44 false (.a3 (aa 5) 1),a9 46 44 false (.aC (aa 45) none),a9 47 44 false (.ah (aa 8)),a9 48 44 false (.bin .geq (aa 46) (aa 47)),a9 49 40 true (.pick (aa 44) (a6 true) (aa 48)),ab 50 (.pick (aa 40) (aa 49) (a6 false)),ab 31 (.ah (aa 50))]) (.cond (aa 31) (.seq (.ops [ab 6 (.ah (aA 1))]) .ret) .skip))))))) (.seq (.ops [ab 6 (.ah (aA 0))]) .ret))))
def te : List b3 := [.tmp 6]
theorem ajd : cJ Tryz.prog rfl Tryz.f88 = some (tg,te) := by kernel_rfl
def Lo : bU := (.seq (.ops [ab 4 (.box 59 (aa 0)),ab 6 (.box 81 (aa 2)),ab 8 (.cm 59 [.au 1,.au 1,.au 3,.au 2,.mp 3,.au 1,.int .i64]),ab 9 (.cm 100 [.int .i64,.int .u32,.int .u32,.bool])]) (.seq (.ops [ab 10 (.cm 79 [.int .i64,.int .u32,.int .u32])]) (.seq (.seq (.ops [ab 11 (.a3 (aa 6) 0),ab 12 (.aC (aa 11) none),ab 13 (.bin .eql (aa 12) (aA 5))]) (.cond (aa 13) (.ops [ab 15 (.a3 (aa 4) 0),ab 16 (.aC (aa 15) (some 2)),ab 17 (.ah (aa 1)),ab 18 (.a3 (aa 6) 1),ab 19 (.aC (aa 18) none),ab 20 (.call 105 [.tmp 16,.tmp 17,.tmp 19]),ab 14 (.ah (aa 20)),ab 21 (.ext (aa 14) 0),ab 22 (.ext (aa 14) 1),ab 23 (.ext (aa 14) 2),ab 24 (.a3 (aa 4) 0),aR (.st 2 (aa 24) (aa 21)),aR (.st 3 (aa 10) (aa 22))]) (.ops [ab 26 (.a3 (aa 4) 0),ab 27 (.aC (aa 26) (some 2)),ab 28 (.ah (aa 1)),ab 29 (.a3 (aa 6) 1),ab 30 (.aC (aa 29) none),ab 31 (.a3 (aa 6) 0),ab 32 (.aC (aa 31) none),ab 33 (.bin .eql (aa 32) (aA 2)),ab 34 (.ah (aa 3)),ab 35 (.call 106 [.tmp 27,.tmp 28,.tmp 30,.tmp 33,.tmp 34]),ab 25 (.ah (aa 35)),ab 36 (.ext (aa 25) 0),ab 37 (.ext (aa 25) 1),ab 38 (.ext (aa 25) 2),ab 39 (.a3 (aa 4) 0),aR (.st 2 (aa 39) (aa 36)),aR (.st 3 (aa 10) (aa 37))]))) (.seq (.ord (.alt (.step 0 (.alt (.step 1 (.b1 2 (.step 3 (.step 4 .leaf)))) (.step 3 (.step 1 (.b1 2 (.step 4 .leaf)))))) (.step 1 (.b1 2 (.step 0 (.step 3 (.step 4 .leaf)))))) [ab 40 (.aC (aa 4) (some 7)),ab 41 (.aC (aa 10) (some 3)),ab 42 (.dE [.int .i64,.int .u32,.int .u32,.bool] [(0,(3,(aa 41))),(3,(1,(a6 true)))]),aR (.st 7 (aa 8) (aa 40)),aR (.st 4 (aa 9) (aa 42))]) .ret))))
def KW : List b3 := [(.eh 8 (some 7)),(.eh 9 (some 4))]
theorem ajh : cJ Tryz.prog rfl Tryz.f93 = some (Lo,KW) := by kernel_rfl
def FR : bU := (.seq (.ops [ab 3 (.box 59 (aa 0)),ab 5 (.box 81 (aa 2)),ab 6 (.cm 59 [.au 1,.au 1,.au 3,.au 2,.mp 3,.au 1,.int .i64]),ab 7 (.cm 100 [.int .i64,.int .u32,.int .u32,.bool])]) (.seq (.ops [ab 9 (.dE [.int .i64,.int .u32,.int .u32,.bool] [(3,(1,(a6 true)))]),ab 8 (.cm 100 [.int .i64,.int .u32,.int .u32,.bool]),aR (.st 4 (aa 8) (aa 9))]) (.seq (.seq (.ops [ab 10 (.a3 (aa 5) 0),ab 11 (.aC (aa 10) none),ab 12 (.bin .eql (aa 11) (aA 6))]) (.cond (aa 12) (.ops [ab 14 (.a3 (aa 3) 0),ab 15 (.aC (aa 14) (some 2)),ab 16 (.ah (aa 1)),ab 17 (.a3 (aa 5) 1),ab 18 (.aC (aa 17) none),ab 19 (.a3 (aa 5) 2),ab 20 (.aC (aa 19) (some 3)),ab 21 (.a3 (aa 5) 5),ab 22 (.aC (aa 21) (some 3)),ab 23 (.call 97 [.tmp 15,.tmp 16,.tmp 18,.tmp 20,.tmp 22]),ab 13 (.ah (aa 23)),ab 24 (.ext (aa 13) 0),ab 25 (.ext (aa 13) 1),ab 26 (.ext (aa 13) 2),ab 27 (.ext (aa 13) 3),ab 28 (.a3 (aa 3) 0),aR (.st 2 (aa 28) (aa 24)),ab 29 (.a3 (aa 8) 0),aR (.st 3 (aa 29) (aa 25)),ab 30 (.a3 (aa 8) 3),aR (.st 1 (aa 30) (aa 26))]) (.ops [ab 32 (.a3 (aa 3) 0),ab 33 (.aC (aa 32) (some 2)),ab 34 (.ah (aa 1)),ab 35 (.a3 (aa 5) 1),ab 36 (.aC (aa 35) none),ab 37 (.a3 (aa 5) 5),ab 38 (.aC (aa 37) (some 3)),ab 39 (.a3 (aa 5) 0),ab 40 (.aC (aa 39) none),ab 41 (.bin .eql (aa 40) (aA 4)),ab 42 (.call 98 [.tmp 33,.tmp 34,.tmp 36,.tmp 38,.tmp 41]),ab 31 (.ah (aa 42)),ab 43 (.ext (aa 31) 0),ab 44 (.ext (aa 31) 1),ab 45 (.a3 (aa 3) 0),aR (.st 2 (aa 45) (aa 43))]))) (.seq (.seq (.ops [ab 46 (.a3 (aa 8) 3),ab 47 (.aC (aa 46) none)]) (.cond (aa 47) (.ops [ab 49 (.a3 (aa 3) 2),ab 50 (.aC (aa 49) (some 3)),ab 51 (.a3 (aa 5) 1),ab 52 (.aC (aa 51) none),ab 53 (.a3 (aa 5) 5),ab 54 (.aC (aa 53) (some 3)),ab 55 (.call 99 [.tmp 50,.tmp 52,.tmp 54]),ab 48 (.ah (aa 55)),ab 56 (.ext (aa 48) 0),ab 57 (.ext (aa 48) 1),ab 58 (.a3 (aa 3) 2),aR (.st 3 (aa 58) (aa 56))]) .skip)) (.seq (.ord (.alt (.step 0 (.alt (.step 1 (.step 2 (.step 3 .leaf))) (.step 2 (.step 1 (.step 3 .leaf))))) (.step 1 (.step 0 (.step 2 (.step 3 .leaf))))) [ab 59 (.aC (aa 3) (some 7)),ab 60 (.aC (aa 8) (some 4)),aR (.st 7 (aa 6) (aa 59)),aR (.st 4 (aa 7) (aa 60))]) .ret)))))
def FH : List b3 := [(.eh 6 (some 7)),(.eh 7 (some 4))]
theorem ajl : cJ Tryz.prog rfl Tryz.f90 = some (FR,FH) := by kernel_rfl
def xS : bU := (.seq (.ops [ab 4 (.box 59 (aa 0)),ab 6 (.box 81 (aa 2)),ab 8 (.cm 59 [.au 1,.au 1,.au 3,.au 2,.mp 3,.au 1,.int .i64]),ab 9 (.cm 100 [.int .i64,.int .u32,.int .u32,.bool]),ab 10 (.ah (aA 0))]) (.seq (.seq (.ops [ab 13 (.aC (aa 4) (some 7)),ab 14 (.ah (aa 1)),ab 15 (.aC (aa 6) (some 8)),ab 16 (.call 88 [.tmp 13,.tmp 14,.tmp 15]),ab 11 (.ah (aa 16))]) (.seq (.ops [ab 17 (.ah (aa 11)),ab 18 (.bin .neq (aa 17) (aA 0))]) (.cond (aa 18) (.seq (.ops [ab 19 (.aC (aa 4) (some 7)),ab 20 (.dE [.int .i64,.int .u32,.int .u32,.bool] []),ab 21 (.ah (aa 11)),aR (.st 7 (aa 8) (aa 19)),aR (.st 4 (aa 9) (aa 20)),ab 10 (.ah (aa 21))]) .ret) .skip))) (.seq (.ops [ab 22 (.dE [.int .i64,.int .u32,.int .u32,.bool] [(3,(1,(a6 true)))]),ab 12 (.cm 100 [.int .i64,.int .u32,.int .u32,.bool]),aR (.st 4 (aa 12) (aa 22))]) (.seq (.block 0 (.seq (.ops [ab 24 (.aC (aa 6) (some 8)),ab 25 (.call 89 [.tmp 24]),ab 23 (.ah (aa 25))]) (.cond (aa 23) (.ops [ab 27 (.aC (aa 4) (some 7)),ab 28 (.ah (aa 1)),ab 29 (.aC (aa 6) (some 8)),ab 30 (.call 90 [.tmp 27,.tmp 28,.tmp 29]),ab 26 (.ah (aa 30)),ab 31 (.ext (aa 26) 0),ab 32 (.ext (aa 26) 1),aR (.st 7 (aa 4) (aa 31)),aR (.st 4 (aa 12) (aa 32))]) (.seq (.ops [ab 34 (.a3 (aa 6) 0),ab 35 (.aC (aa 34) none),ab 36 (.bin .eql (aa 35) (aA 7)),ab 33 (.ah (aa 36))]) (.cond (aa 33) (.ops [ab 38 (.a3 (aa 4) 2),ab 39 (.aC (aa 38) (some 3)),ab 40 (.ah (aa 1)),ab 41 (.a3 (aa 6) 1),ab 42 (.aC (aa 41) none),ab 43 (.call 91 [.tmp 39,.tmp 40,.tmp 42]),ab 37 (.ah (aa 43)),ab 44 (.ext (aa 37) 0),ab 45 (.ext (aa 37) 1),ab 46 (.a3 (aa 4) 2),aR (.st 3 (aa 46) (aa 44))]) (.seq (.ops [ab 48 (.a3 (aa 6) 0),ab 49 (.aC (aa 48) none),ab 50 (.bin .eql (aa 49) (aA 8)),ab 47 (.ah (aa 50))]) (.cond (aa 47) (.ops [ab 52 (.a3 (aa 4) 2),ab 53 (.aC (aa 52) (some 3)),ab 54 (.ah (aa 1)),ab 55 (.call 92 [.tmp 53,.tmp 54]),ab 51 (.ah (aa 55)),ab 56 (.ext (aa 51) 0),ab 57 (.ext (aa 51) 1),ab 58 (.a3 (aa 4) 2),aR (.st 3 (aa 58) (aa 56))]) (.seq (.ops [ab 60 (.a3 (aa 6) 0),ab 61 (.aC (aa 60) none),ab 62 (.bin .neq (aa 61) (aA 0)),ab 59 (.ah (aa 62))]) (.cond (aa 59) (.ops [ab 64 (.aC (aa 4) (some 7)),ab 65 (.ah (aa 1)),ab 66 (.aC (aa 6) (some 8)),ab 67 (.ah (aa 3)),ab 68 (.call 93 [.tmp 64,.tmp 65,.tmp 66,.tmp 67]),ab 63 (.ah (aa 68)),ab 69 (.ext (aa 63) 0),ab 70 (.ext (aa 63) 1),aR (.st 7 (aa 4) (aa 69)),aR (.st 4 (aa 12) (aa 70))]) .skip))))))))) (.seq (.ops [ab 71 (.a3 (aa 4) 5),ab 72 (.aC (aa 71) none),ab 73 (.call 71 [.tmp 72]),ab 74 (.a3 (aa 4) 5),aR (.st 1 (aa 74) (aa 73))]) (.seq (.ops [ab 75 (.a3 (aa 4) 5),ab 76 (.aC (aa 75) none),ab 77 (.ah (aa 1)),ab 78 (.bin .sub (aa 77) (aA 1)),ab 79 (.dU (aa 76) (aa 78) 1),ab 80 (.aC (aa 79) none),ab 81 (.bin .add (aa 80) (aA 1)),ab 82 (.dU (aa 76) (aa 78) 1),aR (.st 1 (aa 82) (aa 81))]) (.seq (.ord (.alt (.step 0 (.alt (.step 1 (.step 2 (.step 3 (.b1 4 .leaf)))) (.step 2 (.step 1 (.step 3 (.b1 4 .leaf)))))) (.step 1 (.step 0 (.step 2 (.step 3 (.b1 4 .leaf)))))) [ab 83 (.aC (aa 4) (some 7)),ab 84 (.aC (aa 12) (some 4)),aR (.st 7 (aa 8) (aa 83)),aR (.st 4 (aa 9) (aa 84)),ab 10 (.ah (aA 0))]) .ret)))))))
def xP : List b3 := [(.eh 8 (some 7)),(.eh 9 (some 4)),.tmp 10]
theorem ajf : cJ Tryz.prog rfl Tryz.f73 = some (xS,xP) := by kernel_rfl
def FQ : bU := (.seq (.ops [ab 2 (.box 59 (aa 0)),ab 4 (.cm 59 [.au 1,.au 1,.au 3,.au 2,.mp 3,.au 1,.int .i64])]) (.seq (.ops [ab 10 (.aC (aa 2) (some 7)),ab 11 (.call 47 [.tmp 10]),ab 9 (.ah (aa 11)),ab 12 (.ext (aa 9) 0),ab 13 (.ext (aa 9) 1),ab 5 (.ah (aa 12)),ab 6 (.ah (aa 13))]) (.seq (.seq (.ops [ab 14 (.ah (aa 5)),ab 15 (.bin .eql (aa 14) (aA 0)),ab 16 (.ah (aa 15)),a9 17 16 false (.ah (aa 6)),a9 18 16 false (.bin .eql (aa 17) (aA 0)),ab 19 (.pick (aa 16) (a6 true) (aa 18))]) (.cond (aa 19) (.seq (.ops [ab 20 (.aC (aa 2) (some 7)),aR (.st 7 (aa 4) (aa 20))]) .ret) .skip)) (.seq (.ops [ab 22 (.ah (aa 5)),ab 23 (.a3 (aa 2) 2),ab 24 (.aC (aa 23) (some 3)),ab 25 (.ah (aa 1)),ab 26 (.call 70 [.tmp 24,.tmp 25]),ab 27 (.call 42 [.tmp 22,.tmp 26]),ab 21 (.ah (aa 27)),ab 28 (.ext (aa 21) 0),ab 29 (.ext (aa 21) 1),ab 7 (.cm 59 [.au 1,.au 1,.au 3,.au 2,.mp 3,.au 1,.int .i64]),aR (.st 7 (aa 7) (aa 28)),ab 8 (.ah (aa 29))]) (.seq (.seq (.ops [ab 30 (.ah (aa 8)),ab 31 (.bin .neq (aa 30) (aA 0))]) (.cond (aa 31) (.seq (.ops [ab 32 (.aC (aa 2) (some 7)),aR (.st 7 (aa 4) (aa 32))]) .ret) .skip)) (.seq (.ord (.b1 0 (.b1 3 (.alt (.step 1 (.alt (.step 2 (.b1 6 (.alt (.step 4 (.b1 5 (.step 7 (.b1 8 (.step 9 .leaf))))) (.step 7 (.step 4 (.b1 5 (.b1 8 (.step 9 .leaf)))))))) (.step 4 (.b1 5 (.step 2 (.b1 6 (.step 7 (.b1 8 (.step 9 .leaf))))))))) (.step 4 (.b1 5 (.step 1 (.step 2 (.b1 6 (.step 7 (.b1 8 (.step 9 .leaf))))))))))) [ab 33 (.a3 (aa 2) 5),ab 34 (.aC (aa 33) none),ab 35 (.call 71 [.tmp 34]),ab 36 (.a3 (aa 2) 6),ab 37 (.aC (aa 36) none),ab 38 (.bin .add (aa 37) (aA 1)),ab 39 (.a3 (aa 7) 5),aR (.st 1 (aa 39) (aa 35)),ab 40 (.a3 (aa 7) 6),aR (.st 1 (aa 40) (aa 38))]) (.seq (.ops [ab 41 (.aC (aa 7) (some 7)),aR (.st 7 (aa 4) (aa 41))]) .ret)))))))
def FG : List b3 := [(.eh 4 (some 7))]
theorem aje : cJ Tryz.prog rfl Tryz.f50 = some (FQ,FG) := by kernel_rfl
end Go.Proofs.YtkmbcjnaaokilaaGreatDoor
