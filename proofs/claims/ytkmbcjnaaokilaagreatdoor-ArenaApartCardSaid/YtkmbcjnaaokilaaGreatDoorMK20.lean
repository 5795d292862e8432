/-
  The shadow code of functions, written by a program; each is what the translator makes of the function.
-/
import Derived.Test.YtkmbcjnaaokilaaGreatDoorMC
import Derived.Test.YtkmbcjnaaokilaaGreatDoorMK19
namespace Go.Proofs.YtkmbcjnaaokilaaGreatDoor
open Go.RowKit

def Wt : bZ := (.seq (.ops [ab 4 (.cw 25 [.int .i64,.int .i64,.int .i64])]) (.seq (.ops [ab 5 (.ah (aa 0)),ab 6 (.bin .rem (aa 5) (.const (.int .u8 4))),ab 7 (.mf .i64 (aa 6)),ab 8 (.bin .add (ay 1) (aa 7)),ab 9 (.ah (aa 1)),ab 10 (.bin .rem (aa 9) (.const (.int .u8 64))),ab 11 (.mf .i64 (aa 10)),ab 12 (.bin .add (ay 1) (aa 11)),ab 13 (.dO [.int .i64,.int .i64,.int .i64] [(0,(1,(aa 8))),(1,(1,(ay 8))),(2,(1,(aa 12)))]),aQ (.st 3 (aa 4) (aa 13))]) .ret))
def Vl : List b6 := [(.eB 4 (some 3))]
theorem anx : cP Tryz.prog rfl Tryz.f9 = some (Wt,Vl) := by kernel_rfl
def Ws : bZ := (.seq (.ops [ab 3 (.box 25 (aa 0)),ab 6 (.ah (.const (.slice none 0 0))),ab 7 (.ah (ay 0)),ab 8 (.ah (ay 0)),ab 9 (.ah (a3 false))]) (.seq (.ops [ab 20 (.ah (aa 1)),ab 21 (.call 42 [(ay 1),.tmp 20]),ab 19 (.ah (aa 21)),ab 22 (.ext (aa 19) 0),ab 23 (.ext (aa 19) 1),ab 10 (.cw 59 [.au 1,.au 1,.au 3,.au 2,.mp 3,.au 1,.int .i64]),aQ (.st 7 (aa 10) (aa 22)),ab 11 (.ah (aa 23))]) (.seq (.ops [ab 25 (.aC (aa 10) (some 7)),ab 26 (.ah (aa 2)),ab 27 (.hE 1 [.tmp 26]),ab 28 (.call 43 [.tmp 25,.tmp 27]),ab 24 (.ah (aa 28)),ab 29 (.ext (aa 24) 0),ab 30 (.ext (aa 24) 1),ab 12 (.cw 63 [.au 1,.au 1,.au 3,.au 2,.mp 3,.au 1,.int .i64,.au 11,.au 1]),aQ (.st 9 (aa 12) (aa 29)),ab 13 (.ah (aa 30))]) (.seq (.ops [ab 32 (.aC (aa 12) (some 9)),ab 33 (.call 26 [.tmp 32,(ay 1),(ay 100)]),ab 31 (.ah (aa 33)),ab 34 (.ext (aa 31) 0),ab 35 (.ext (aa 31) 1),ab 14 (.cw 63 [.au 1,.au 1,.au 3,.au 2,.mp 3,.au 1,.int .i64,.au 11,.au 1]),aQ (.st 9 (aa 14) (aa 34)),ab 15 (.ah (aa 35))]) (.seq (.seq (.ops [ab 36 (.ah (aa 11)),ab 37 (.bin .neq (aa 36) (ay 0)),ab 38 (.ah (aa 37)),a8 39 38 false (.ah (aa 13)),a8 40 38 false (.bin .neq (aa 39) (ay 0)),ab 41 (.pick (aa 38) (a3 true) (aa 40)),ab 42 (.ah (aa 41)),a8 43 42 false (.ah (aa 15)),a8 44 42 false (.not (aa 43)),ab 45 (.pick (aa 42) (a3 true) (aa 44)),ab 46 (.ah (aa 45)),a8 47 46 false (.aU (aa 14) 7),a8 48 46 false (.aC (aa 47) none),a8 49 46 false (.len (aa 48)),a8 50 46 false (.bin .neq (aa 49) (ay 1)),ab 51 (.pick (aa 46) (a3 true) (aa 50))]) (.cond (aa 51) (.seq (.ops [ab 52 (.ah (aa 1)),ab 6 (.ah (aa 52)),ab 7 (.ah (ay 0)),ab 8 (.ah (ay 0)),ab 9 (.ah (a3 false))]) .ret) .skip)) (.seq (.ops [ab 54 (.aU (aa 14) 7),ab 55 (.aC (aa 54) none),ab 56 (.dD (aa 55) (ay 0) 11),ab 57 (.aC (aa 56) (some 11)),ab 58 (.call 45 [.tmp 57]),ab 59 (.call 44 [.tmp 58]),ab 53 (.ah (aa 59)),ab 60 (.ext (aa 53) 0),ab 61 (.ext (aa 53) 1),ab 62 (.ext (aa 53) 2),ab 16 (.ah (aa 60)),ab 17 (.ah (aa 61)),ab 18 (.ah (aa 62))]) (.seq (.ops [ab 63 (.aU (aa 14) 0),ab 64 (.aC (aa 63) (some 7)),ab 65 (.call 23 [.tmp 64]),ab 66 (.ah (aa 16)),ab 67 (.ah (aa 17)),ab 68 (.ah (aa 18)),ab 6 (.ah (aa 65)),ab 7 (.ah (aa 66)),ab 8 (.ah (aa 67)),ab 9 (.ah (aa 68))]) .ret)))))))
def Vk : List b6 := [.tmp 6,.tmp 7,.tmp 8,.tmp 9]
theorem anw : cP Tryz.prog rfl Tryz.f17 = some (Ws,Vk) := by kernel_rfl
def Wu : bZ := (.seq (.ops [ab 3 (.box 25 (aa 0)),ab 6 (.ah (a3 false))]) (.seq (.seq (.ops [ab 13 (.ah (aa 1)),ab 14 (.len (aa 13)),ab 15 (.ah (aa 2)),ab 16 (.len (aa 15)),ab 17 (.bin .neq (aa 14) (aa 16))]) (.cond (aa 17) (.seq (.ops [ab 6 (.ah (a3 false))]) .ret) .skip)) (.seq (.ops [ab 19 (.aC (aa 3) (some 3)),ab 20 (.call 38 [.tmp 19,(ay 0)]),ab 18 (.ah (aa 20)),ab 21 (.ext (aa 18) 0),ab 22 (.ext (aa 18) 1),ab 7 (.ah (aa 21)),ab 8 (.ah (aa 22))]) (.seq (.ops [ab 24 (.aC (aa 3) (some 3)),ab 25 (.aU (aa 3) 2),ab 26 (.aC (aa 25) none),ab 27 (.bin .sub (aa 26) (ay 1)),ab 28 (.call 38 [.tmp 24,.tmp 27]),ab 23 (.ah (aa 28)),ab 29 (.ext (aa 23) 0),ab 30 (.ext (aa 23) 1),ab 9 (.ah (aa 29)),ab 10 (.ah (aa 30))]) (.seq (.seq (.ops [ab 11 (.ah (ay 0))]) (.block 0 (.loop (.seq (.seq (.ops [ab 31 (.ah (aa 11)),ab 32 (.ah (aa 1)),ab 33 (.len (aa 32)),ab 34 (.bin .lss (aa 31) (aa 33))]) (.cond (aa 34) .skip (.exit 0))) (.seq (.block 1 (.seq (.ops [ab 37 (.ah (aa 2)),ab 38 (.ah (aa 11)),ab 39 (.dD (aa 37) (aa 38) 3),ab 40 (.aC (aa 39) (some 3)),ab 12 (.cw 79 [.int .i64,.int .u32,.int .u32]),aQ (.st 3 (aa 12) (aa 40))]) (.seq (.seq (.ops [ab 41 (.ah (aa 11)),ab 42 (.ah (aa 7)),ab 43 (.bin .geq (aa 41) (aa 42)),ab 44 (.ah (aa 43)),a8 45 44 true (.ah (aa 11)),a8 46 44 true (.ah (aa 9)),a8 47 44 true (.bin .leq (aa 45) (aa 46)),ab 48 (.pick (aa 44) (aa 47) (a3 false))]) (.cond (aa 48) (.ops [ab 49 (.ah (aa 1)),ab 50 (.ah (aa 11)),ab 51 (.dD (aa 49) (aa 50) 3),ab 52 (.aU (aa 51) 0),ab 53 (.aC (aa 52) none),ab 54 (.aU (aa 12) 0),aQ (.st 1 (aa 54) (aa 53))]) .skip)) (.seq (.g0 5 [ab 55 (.aC (aa 12) (some 3)),ab 56 (.ah (aa 1)),ab 57 (.ah (aa 11)),ab 58 (.dD (aa 56) (aa 57) 3),ab 59 (.aC (aa 58) (some 3)),ab 60 (.eqv true 79 (aa 55) (aa 59))]) (.cond (aa 60) (.seq (.ops [ab 6 (.ah (a3 false))]) .ret) .skip))))) (.ops [ab 35 (.ah (aa 11)),ab 36 (.bin .add (aa 35) (ay 1)),ab 11 (.ah (aa 36))])))))) (.seq (.ops [ab 6 (.ah (a3 true))]) .ret))))))
def Vm : List b6 := [.tmp 6]
theorem anz : cP Tryz.prog rfl Tryz.f20 = some (Wu,Vm) := by kernel_rfl
def WZ : bZ := (.seq (.ops [ab 4 (.ah (a3 false))]) (.seq (.seq (.ops [ab 5 (.ah (ay 0))]) (.block 0 (.loop (.seq (.seq (.ops [ab 6 (.ah (aa 5)),ab 7 (.ah (aa 0)),ab 8 (.len (aa 7)),ab 9 (.bin .lss (aa 6) (aa 8))]) (.cond (aa 9) .skip (.exit 0))) (.seq (.block 1 (.seq (.ops [ab 12 (.ah (aa 0)),ab 13 (.ah (aa 5)),ab 14 (.dD (aa 12) (aa 13) 1),ab 15 (.aC (aa 14) none),ab 16 (.ah (aa 1)),ab 17 (.bin .eql (aa 15) (aa 16))]) (.cond (aa 17) (.seq (.ops [ab 4 (.ah (a3 true))]) .ret) .skip))) (.ops [ab 10 (.ah (aa 5)),ab 11 (.bin .add (aa 10) (ay 1)),ab 5 (.ah (aa 11))])))))) (.seq (.ops [ab 4 (.ah (a3 false))]) .ret)))
def VO : List b6 := [.tmp 4]
theorem aoe : cP Tryz.prog rfl Tryz.f14 = some (WZ,VO) := by kernel_rfl
def W0 : bZ := (.seq (.ops [ab 4 (.ah (.const (.slice none 0 0)))]) (.seq (.ops [ab 5 (.ah (.const (.slice none 0 0)))]) (.seq (.ops [ab 6 (.ah (a3 false))]) (.seq (.seq (.ops [ab 7 (.ah (ay 0))]) (.block 0 (.loop (.seq (.seq (.ops [ab 8 (.ah (aa 7)),ab 9 (.ah (aa 0)),ab 10 (.len (aa 9)),ab 11 (.bin .lss (aa 8) (aa 10))]) (.cond (aa 11) .skip (.exit 0))) (.seq (.block 1 (.seq (.seq (.ops [ab 14 (.ah (aa 6)),ab 15 (.not (aa 14)),ab 16 (.ah (aa 15)),a8 17 16 true (.ah (aa 0)),a8 18 16 true (.ah (aa 7)),a8 19 16 true (.dD (aa 17) (aa 18) 1),a8 20 16 true (.aC (aa 19) none),a8 21 16 true (.ah (aa 1)),a8 22 16 true (.bin .gtr (aa 20) (aa 21)),ab 23 (.pick (aa 16) (aa 22) (a3 false))]) (.cond (aa 23) (.seq (.ops [ab 24 (.ah (aa 5)),ab 25 (.ah (aa 1)),ab 26 (.hE 1 [.tmp 25]),ab 27 (.app (aa 24) (aa 26) 3 1 8),ab 5 (.ah (aa 27))]) (.ops [ab 6 (.ah (a3 true))])) .skip)) (.seq (.seq (.ops [ab 28 (.ah (aa 0)),ab 29 (.ah (aa 7)),ab 30 (.dD (aa 28) (aa 29) 1),ab 31 (.aC (aa 30) none),ab 32 (.ah (aa 1)),ab 33 (.bin .eql (aa 31) (aa 32))]) (.cond (aa 33) (.ops [ab 6 (.ah (a3 true))]) .skip)) (.ops [ab 34 (.ah (aa 5)),ab 35 (.ah (aa 0)),ab 36 (.ah (aa 7)),ab 37 (.dD (aa 35) (aa 36) 1),ab 38 (.aC (aa 37) none),ab 39 (.hE 1 [.tmp 38]),ab 40 (.app (aa 34) (aa 39) 3 1 8),ab 5 (.ah (aa 40))])))) (.ops [ab 12 (.ah (aa 7)),ab 13 (.bin .add (aa 12) (ay 1)),ab 7 (.ah (aa 13))])))))) (.seq (.seq (.ops [ab 41 (.ah (aa 6)),ab 42 (.not (aa 41))]) (.cond (aa 42) (.ops [ab 43 (.ah (aa 5)),ab 44 (.ah (aa 1)),ab 45 (.hE 1 [.tmp 44]),ab 46 (.app (aa 43) (aa 45) 3 1 8),ab 5 (.ah (aa 46))]) .skip)) (.seq (.ops [ab 47 (.ah (aa 5)),ab 4 (.ah (aa 47))]) .ret))))))
def VP : List b6 := [.tmp 4]
theorem aog : cP Tryz.prog rfl Tryz.f16 = some (W0,VP) := by kernel_rfl
def W1 : bZ := (.seq (.ops [ab 4 (.ah (.const (.slice none 0 0)))]) (.seq (.ops [ab 5 (.ah (.const (.slice none 0 0)))]) (.seq (.seq (.ops [ab 6 (.ah (ay 0))]) (.block 0 (.loop (.seq (.seq (.ops [ab 7 (.ah (aa 6)),ab 8 (.ah (aa 0)),ab 9 (.len (aa 8)),ab 10 (.bin .lss (aa 7) (aa 9))]) (.cond (aa 10) .skip (.exit 0))) (.seq (.block 1 (.seq (.ops [ab 13 (.ah (aa 0)),ab 14 (.ah (aa 6)),ab 15 (.dD (aa 13) (aa 14) 1),ab 16 (.aC (aa 15) none),ab 17 (.ah (aa 1)),ab 18 (.bin .neq (aa 16) (aa 17))]) (.cond (aa 18) (.ops [ab 19 (.ah (aa 5)),ab 20 (.ah (aa 0)),ab 21 (.ah (aa 6)),ab 22 (.dD (aa 20) (aa 21) 1),ab 23 (.aC (aa 22) none),ab 24 (.hE 1 [.tmp 23]),ab 25 (.app (aa 19) (aa 24) 3 1 8),ab 5 (.ah (aa 25))]) .skip))) (.ops [ab 11 (.ah (aa 6)),ab 12 (.bin .add (aa 11) (ay 1)),ab 6 (.ah (aa 12))])))))) (.seq (.ops [ab 26 (.ah (aa 5)),ab 4 (.ah (aa 26))]) .ret))))
def VQ : List b6 := [.tmp 4]
theorem aoh : cP Tryz.prog rfl Tryz.f15 = some (W1,VQ) := by kernel_rfl
def Og : bZ := (.seq (.ops [ab 4 (.ah (a3 false))]) (.seq (.seq (.ops [ab 6 (.ah (aa 0)),ab 7 (.len (aa 6)),ab 8 (.ah (aa 1)),ab 9 (.len (aa 8)),ab 10 (.bin .neq (aa 7) (aa 9))]) (.cond (aa 10) (.seq (.ops [ab 4 (.ah (a3 false))]) .ret) .skip)) (.seq (.seq (.ops [ab 5 (.ah (ay 0))]) (.block 0 (.loop (.seq (.seq (.ops [ab 11 (.ah (aa 5)),ab 12 (.ah (aa 0)),ab 13 (.len (aa 12)),ab 14 (.bin .lss (aa 11) (aa 13))]) (.cond (aa 14) .skip (.exit 0))) (.seq (.block 1 (.seq (.g0 8 [ab 17 (.ah (aa 0)),ab 18 (.ah (aa 5)),ab 19 (.dD (aa 17) (aa 18) 1),ab 20 (.aC (aa 19) none),ab 21 (.ah (aa 1)),ab 22 (.ah (aa 5)),ab 23 (.dD (aa 21) (aa 22) 1),ab 24 (.aC (aa 23) none),ab 25 (.bin .neq (aa 20) (aa 24))]) (.cond (aa 25) (.seq (.ops [ab 4 (.ah (a3 false))]) .ret) .skip))) (.ops [ab 15 (.ah (aa 5)),ab 16 (.bin .add (aa 15) (ay 1)),ab 5 (.ah (aa 16))])))))) (.seq (.ops [ab 4 (.ah (a3 true))]) .ret))))
def NN : List b6 := [.tmp 4]
theorem aof : cP Tryz.prog rfl Tryz.f18 = some (Og,NN) := by kernel_rfl
end Go.Proofs.YtkmbcjnaaokilaaGreatDoor
namespace Go.Proofs.YtkmbcjnaaokilaaGreatDoor
set_option linter.unusedSimpArgs false
set_option linter.unusedVariables false
open Go.RowKit Go.Maps
theorem uT {l : b1} (aE : e4 l = 0) {i : Nat} (aq : (i : Int) < l.blocks) : bw l i < dm l 7 := by
 obtain ⟨aA,_⟩ := kb aE
 have aI := aA.2.2
 have mi : dm l 6 = dm l 5 + e8 l 5 := rfl
 have qe : dm l 7 = dm l 6 + e8 l 6 := rfl
 have bM : e8 l 5 = 8 := by
  unfold e8
  rw [if_pos ⟨rfl,by show 0 < l.blocks; omega⟩]; rfl
 have bN := (lX aA 6).1
 unfold bw
 omega
structure oP where
 s : fa
 a : dJ
 live : Bool
 f : Int → bm
def kI (R : fa × dJ × Bool) (f : Int → bm) : oP := ⟨R.1,if R.2.2 = true then hx else R.2.1,!R.2.2,f⟩
def p0 (x : oP) : oP := kI (cU x.s (cY x.f x.a)) (iT x.f x.a)
def js : Nat → oP → oP
 | 0,x => x
 | k + 1,x => if x.live = true then js k (p0 x) else x
def oI (s : fa) (f : Int → bm) : oP := kI (cU s e9) f
theorem Ec {x : oP} (h : x.live = false) : ∀ k,js k x = x
 | 0 => rfl
 | k + 1 => by unfold js; rw [if_neg (by rw [h]; simp)]
theorem VS (t : dt mc) (s : fa) (L : fO) (g : ei) (f : Int → bm) : jG t (mc.next (s,L) g).1 (mc.next (s,L) g).2.1 (mc.next (s,L) g).2.2 = ⟨some ((kI (cU s g) f).s,L),(kI (cU s g) f).live,(kI (cU s g) f).a,t.fc⟩ := by
 show jG t ((cU s g).1,L) (cU s g).2.1 (cU s g).2.2 = _
 generalize cU s g = R
 obtain ⟨lJ,lK,rH⟩ := R
 cases rH <;> rfl
structure p8 (N : Nat) (l : b1) (w : cN mc) (n : Nat) (x : oP) : Prop where
 ok : iW w n
 v : 0 < w.m.mem.views.length
 task : ∃ L fc,w.tasks = [⟨some (x.s,L),x.live,x.a,fc⟩]
 stop : w.ib = [false]
 pl : w.m.mem.places.length = N
 wd : ∀ q : Int,0 ≤ q → q < N → dx w.m q = x.f q
 size : dm l 7 ≤ (N : Int)
 lay : e4 l = 0
 ai8 : pW x.s
 aif : lW x.s = l
 ask : x.live = true → tC l x.a
 fin : x.live = false → Ag x.s = true
theorem p8.I4 {N : Nat} {l : b1} {w : cN mc} {n : Nat} {x : oP} (h : p8 N l w n x) (aE : x.live = true) : IY w.m x.a ∧ 0 ≤ x.a.place ∧ x.a.place < N := by
 obtain ⟨af,i,aj,av⟩ := h.ask aE
 have bS := rM h.lay i
 have bH := uT h.lay aj
 have bP := h.size
 have hp := h.pl
 refine ⟨⟨by omega,?_⟩,by omega,by omega⟩
 unfold fC
 omega
theorem p8.step {N : Nat} {l : b1} {w : cN mc} {n : Nat} {x : oP} (h : p8 N l w n x) (aE : x.live = true) : (eU w ⟨0,1,0⟩).2 = true ∧ p8 N l (eU w ⟨0,1,0⟩).1 (n + 1) (p0 x) := by
 obtain ⟨L,fc,aL⟩ := h.task
 obtain ⟨a5,Gz,Sk⟩ := h.I4 aE
 have GJ : IZ w n := ⟨h.ok,h.v,fun y aV agv => by
  rw [aL,List.mem_singleton] at aV
  subst aV; exact a5⟩
 have xf : k3 w 1 = true := by
  unfold k3 jt je
  rw [aL,h.stop,aE]; rfl
 have hi := Oh h.ok ⟨0,1,0⟩ (by decide)
 rcases W2 GJ ⟨0,1,0⟩ (by decide) with ⟨_,e⟩ | ⟨m,y,_,hm,aV,agv,_,aI,St,iB,GR⟩ | ⟨m,y,e,_⟩
 ·have := e rfl
  rw [show (⟨0,1,0⟩ : lI).jv = 1 from rfl,xf] at this; cases this
 ·have w9 : m = 0 := by simp only at hm; omega
  subst w9
  rw [aL] at aV
  cases aV
  have aJ : cY (dx w.m) x.a = cY x.f x.a := by unfold cY; rw [h.wd _ Gz Sk]
  have a9 := zd h.ai8 (cY x.f x.a)
  rw [h.aif] at a9
  refine ⟨aI,H2 h.ok _,by rw [hi.1]; exact h.v,⟨L,fc ++ [cY x.f x.a],?_⟩,by rw [iB,h.stop],by rw [hi.2.1]; exact h.pl,fun q ba af => ?_,h.size,h.lay,a9.1,a9.2.1,fun kB => ?_,fun kB => ?_⟩
  ·rw [St,aL,aJ]
   show [jl _ _] = _
   unfold jl p0
   rw [if_pos aE]
   exact congrArg (fun z => [z]) (VS _ _ _ _ _)
  ·rw [GR]
   show iT _ _ _ = iT _ _ _
   unfold iT vU
   rw [h.wd _ Gz Sk,h.wd q ba af]
  ·have a6 : (cU x.s (cY x.f x.a)).2.2 = false := by simpa [p0,kI] using kB
   show tC l (if (cU x.s (cY x.f x.a)).2.2 = true then _ else _)
   rw [if_neg (by rw [a6]; simp)]
   exact a9.2.2.1 a6
  ·have a6 : (cU x.s (cY x.f x.a)).2.2 = true := by simpa [p0,kI] using kB
   exact a9.2.2.2 a6
 ·cases e
theorem p8.goes {N : Nat} {l : b1} : ∀ (k : Nat) {w : cN mc} {n : Nat} {x : oP},p8 N l w n x → ∃ bO,bO ≤ n + k ∧ p8 N l (e0 w 1 k) bO (js k x)
 | 0,_,n,_,h => ⟨n,by omega,h⟩
 | k + 1,w,n,x,h => by
  by_cases aE : x.live = true
  ·obtain ⟨af,aj⟩ := h.step aE
   unfold e0 js
   rw [if_pos af,if_pos aE]
   obtain ⟨bO,av,aY⟩ := p8.goes k aj
   exact ⟨bO,by omega,aY⟩
  ·have w7 : x.live = false := by simpa using aE
   rw [Ec w7]
   obtain ⟨L,fc,aL⟩ := h.task
   rw [Rj (m := 0) rfl (by unfold je; rw [aL,w7]; rfl)]
   exact ⟨n,by omega,h⟩
def du (ws : List bm) (q : Int) : bm := (ws[q.toNat]?).getD gE
theorem p8.start {l : b1} {ws : List bm} {s : fa} {L : fO} (aE : e4 l = 0) (ao : pW s) (re : lW s = l) (hw : dm l 7 ≤ (ws.length : Int)) (a9 : (gI 1 ws).2 = 0) :
  p8 ws.length l ⟨(ks 1 ws).1,[nX (C := mc) (s,L)],[false]⟩ 1 (oI s (du ws)) := by
 obtain ⟨af,aj,av⟩ := BK a9
 have lx := zd ao e9
 rw [re] at lx
 refine ⟨⟨S6 1 ws,by rw [af]; exact Nat.le_refl 1,rfl,fun t aL => ?_⟩,by rw [af]; decide,⟨L,[],?_⟩,rfl,aj,fun q ba af => ?_,hw,aE,lx.1,lx.2.1,fun kB => ?_,fun kB => ?_⟩
 ·rw [List.mem_singleton] at aL
  subst aL
  exact Xi (C := mc) (n := 0) (s := (s,L)) ao
 ·exact congrArg (fun z => [z]) (VS _ _ _ _ _)
 ·obtain ⟨p,rfl⟩ := Int.eq_ofNat_of_zero_le ba
  have hp : p < ws.length := by omega
  rw [XM a9 (List.getElem?_eq_getElem hp)]
  show _ = ((ws[(p : Int).toNat]?).getD gE)
  rw [Int.toNat_natCast,List.getElem?_eq_getElem hp]; rfl
 ·have a6 : (cU s e9).2.2 = false := by simpa [oI,kI] using kB
  show tC l (if (cU s e9).2.2 = true then _ else _)
  rw [if_neg (by rw [a6]; simp)]
  exact lx.2.2.1 a6
 ·have a6 : (cU s e9).2.2 = true := by simpa [oI,kI] using kB
  exact lx.2.2.2 a6
def iy (N : Nat) (f : Int → bm) : List bm := (List.range N).map fun (p : Nat) => f p
theorem p8.words {N : Nat} {l : b1} {w : cN mc} {n : Nat} {x : oP} (h : p8 N l w n x) : p5 w.m = iy N x.f := by
 unfold p5 iy
 rw [h.pl]
 refine List.map_congr_left fun p hp => ?_
 have := List.mem_range.1 hp
 exact h.wd p (by omega) (by omega)
def ZQ (ids : List Nat) (O : List (Nat × bo)) (n : Nat) (ws : List bm) (R : Int × Int × Bool) (_ : bl → Env → Prop) (r : aw) (O' : List (Nat × bo)) (bO : Nat) : Prop :=
 r = .bY [.au 3 0 (ws.map c6),aG R.1,aG R.2.1,eA R.2.2] ∧ n ≤ bO ∧ ∀ e,e < n → e ∉ ids → an O' e = an O e
set_option maxHeartbeats 8000000 in
set_option maxRecDepth 20000 in
theorem MD {l : b1} (aE : e4 l = 0) (g : Nat) (ws : List bm) (hw : dm l 7 ≤ (ws.length : Int)) (GQ : ws.length ≤ 4096) (s : fa) (ao : pW s) (re : lW s = l) (a6 : (js 100 (oI s (du ws))).live = false) {L : fO} (O : List (Nat × bo)) (n : Nat) (br : kJ s L O n) :
  gg 17 [.agg (fu l),.au 3 g (ws.map c6),jz s L] O n (ZQ [L.i,L.g] O n (iy ws.length (js 100 (oI s (du ws))).f) (fk (js 100 (oI s (du ws))).s)) := by
 refine oF Tryz.func17 anw rfl fun J => ?_
 have hid := fG n
 have fo := pa mc
 have agU := gX (jF s L)
 have LQ : 0 < ws.length := by
  obtain ⟨aA,_⟩ := kb aE
  have ba : dm l 7 = dm l 1 + (e8 l 1 + e8 l 2 + e8 l 3 + e8 l 4 + e8 l 5 + e8 l 6) := by
   show dm l 1 + e8 l 1 + e8 l 2 + e8 l 3 + e8 l 4 + e8 l 5 + e8 l 6 = _; omega
  have af : dm l 1 = 8 := rfl
  have := (lX aA 1).1; have := (lX aA 2).1; have := (lX aA 3).1; have := (lX aA 4).1; have := (lX aA 5).1; have := (lX aA 6).1
  omega
 have xa : (gI 1 ws).2 = 0 := by
  unfold gI
  rw [if_neg (by omega),if_neg (by omega),if_neg (by omega)]
 have bX := MG 1 g ws
 obtain ⟨cd,c2,eu⟩ := BK xa
 rw [eu] at bX
 have nf := p8.start (L := L) aE ao re hw xa
 obtain ⟨aq8,aqI,Cr⟩ := nf.goes 100
 have bQ : ∀ e ∈ uZ la [(s,L)],e < n := fun e he => by
  have he : e ∈ [L.i,L.g] := by simpa [uZ,la] using he
  simp only [List.mem_cons,List.not_mem_nil,or_false] at he
  rcases he with rfl | rfl
  ·exact br.i
  ·exact br.g
 have ui := fun X N cC => TD (W := la) (ks 1 ws).1 0 [(s,L)] (by rw [cd]; decide) (k := 0) (fun p hp => by rw [List.mem_singleton] at hp; subst hp; exact ao) (by decide) (by rw [cd]; exact Nat.le_refl 1) X N cC
 generalize cC : js 100 (oI s (du ws)) = X at a6 Cr ⊢
 generalize (ks 1 ws).1 = wj at bX nf Cr ui cd c2
 have vw : ∀ a b Z,(∀ e,e < n → an Z e = an O e) → Iu la [(s,L)] ((n + 2,a) :: (n + 1,b) :: (n,.cB J) :: Z) (n + 3) := fun a b Z ll => by
  refine ⟨fun p hp => ?_,fun i j a b iN aq aN => ?_⟩
  ·rw [List.mem_singleton] at hp
   subst hp
   refine kJ.to br (by omega) ?_ ?_
   ·have := br.i; simp only [an]; (repeat rw [if_neg (by omega)]); exact ll _ this
   ·have := br.g; simp only [an]; (repeat rw [if_neg (by omega)]); exact ll _ this
  ·have af := (List.getElem?_eq_some_iff.1 aq).1
   have aj := (List.getElem?_eq_some_iff.1 aN).1
   simp at af aj; omega
 have Ds := fun (w' : cN mc) (y1 : fl la w' = fl la ⟨wj,[nX (s,L)],[false]⟩) X N (cC : lM la w' X N) => TC (W := la) w' 0 100 (O2 y1.symm nf.ok) 100 (.inl (Nat.le_refl _)) (by decide) (by rw [rT y1]; exact Nat.zero_lt_one) (by rw [Ed y1]; rfl) X N cC
 have kF := fun (w' : cN mc) (y1 : fl la w' = fl la ⟨wj,[nX (s,L)],[false]⟩) => Rk (W := la) 1 100 y1
 unfold Ws Vk;delta ab aQ a8 aa ay a3
 have ad := And.intro @hid (And.intro @fo @agU)
 refine ae fun _ aK _ _ => ai fun _ aH => ?_;refine al ad ?_;refine aH _ (aK (some ([1,2],none)) _ (ae fun _ aP _ _ => ai fun _ bk => ?_));refine aM 1 ad ?_;refine aM 1 ad ?_;refine Or.inl (Or.inl ⟨_,bX,?_⟩);refine ag 5 ad ?_;refine al ad ?_;refine bk _ (aP (some ([1,2,10,11],none)) _ (ae fun _ bV _ _ => ai fun _ dk => ?_));refine ag 1 ad ?_;refine ag 2 ad ?_;refine aM 1 ad ?_;refine Or.inr (iJ (ui _ _ (vw _ _ _ fun e he => by rw [bq,if_neg (by omega)])) (aF ad) (fun IJ Nh EY nB yt => ?_))
 obtain ⟨fB,nU,rfl,nd,mS⟩ := yt
 dsimp only at nd mS
 have CW := mS.le
 have gA := mS.at (e := n) (X := .cB J) (by omega) (fun hm => absurd (bQ _ hm) (by omega)) (aF ad)
 have jm := fG nB
 have d0 := cW (n := nB) (d := n) (by omega)
 have ahX := Ds fB nU
 have oZ : ∀ e ∈ ix la fB,(e < n ∨ n + 3 < e) ∧ e < nB := fun e he => by
  refine ⟨?_,rA nd he⟩
  rcases mS.new e he with h | h
  ·exact .inl (bQ e h)
  ·exact .inr h
 have agP : ∀ a Z,(∀ e,e < nB → e ≠ n + 3 → an Z e = an EY e) → lM la fB ((nB,a) :: Z) (nB + 1) := fun a Z ll => nZ nd (by omega) fun e he => by
  obtain ⟨af,aj⟩ := oZ e he
  simp only [an]
  rw [if_neg (by omega)]
  exact ll e aj (by omega)
 have aD := And.intro ad (And.intro @jm (And.intro @d0 @gA))
 refine ag 5 aD ?_;refine al aD ?_;refine dk _ (bV (some ([1,11,12,13],none)) _ (ae fun _ cz _ _ => ai fun _ c7 => ?_));refine ag 1 aD ?_;refine aM 1 aD ?_;refine Or.inr (iJ (ahX _ _ (agP _ _ fun e af aj => by simp only [bq]; repeat rw [if_neg (by omega)])) (aF aD) (fun Pq UC IU ti Cp => ?_))
 obtain ⟨cn,GQ,rfl,RK,Gb⟩ := Cp
 dsimp only at RK Gb GQ
 have w8 := Gb.le
 have bL : fl la cn = fl la (e0 ⟨wj,[nX (s,L)],[false]⟩ 1 100) := GQ.trans (kF fB nU)
 obtain ⟨apc,fc,eE⟩ := Cr.task
 have Le : cn.tasks.length = 1 := by rw [rT bL,eE]; rfl
 have aI : (!(je (e0 fB (((0 : Nat) : Int) + 1) (100 : Int).toNat) 0)) = true := by
  have af := Dz (kF fB nU) 0
  have aj : je (e0 (C := mc) ⟨wj,[nX (s,L)],[false]⟩ 1 100) 0 = false := by
   unfold je
   rw [eE]
   exact a6
  rw [aj] at af
  show (!(je (e0 fB 1 100) 0)) = true
  rw [af]; rfl
 rw [aI]
 obtain ⟨Be,LS,yz⟩ := Ae (i := 0) bL.symm (by rw [eE]; rfl)
 obtain ⟨a1,_,_,_⟩ := yl yz
 obtain ⟨⟨s2,kL⟩,ot⟩ : ∃ p,Be.code = some p := by
  cases aT : Be.code with
  | none => rw [aT] at a1; cases a1
  | some p => exact ⟨p,rfl⟩
 rw [ot] at a1
 have a7 : s2 = X.s := (congrArg Prod.fst (Option.some.inj a1)).symm
 subst a7
 have agY : Plain kL.eG := (RK.own Be (List.mem_of_getElem? LS) _ ot).pl
 have Du : cq 45 [.agg (g3 Be)] (jz X.s kL) := by have := TQ Be; rw [ot] at this; exact this
 have Dt := TG X.s agY
 have yJ : cn.m = (e0 (C := mc) ⟨wj,[nX (s,L)],[false]⟩ 1 100).m := (ym bL).1
 have Dv : cq 23 [lS cn.m] (.au 3 0 ((iy ws.length X.f).map c6)) := by
  rw [yJ,← Cr.words]
  exact Hh _ Cr.ok.pU.mem (by omega)
 have v1 : ((cn.tasks.length : Int) != 1) = false := by rw [Le]; rfl
 have aeu := Gb.at (e := n) (X := .cB J) (by omega) (fun hm => by rcases oZ _ hm with ⟨h | h,_⟩ <;> omega) (aF aD)
 have jS := fG ti
 have de := cW (n := ti) (d := n) (by omega)
 have cd := cW (n := ti) (d := nB) (by omega)
 have agV := gX (jF X.s kL)
 have bc := And.intro aD (And.intro @jS (And.intro @de (And.intro @cd (And.intro @agV (And.intro @aeu (And.intro @LS @v1))))))
 refine ag 5 bc ?_;refine al bc ?_;refine c7 _ (cz (some ([1,11,13,14,15],none)) _ (ae fun _ cR _ _ => ae fun _ eo _ _ => ai fun _ fe => ?_));refine ag 2 bc ?_;refine ag 3 bc ?_;refine ag 8 bc ?_;refine ag 2 bc ?_;refine al bc ?_;refine fe _ (eo (some ([1,14,51],none)) _ (bs (cR (some ([14],none)) _ (ae fun _ ff _ _ => ai fun _ ew => ?_))));refine ag 2 bc ?_;refine ag 1 bc ?_;refine ag 1 bc ?_;refine aM 1 bc ?_;refine Or.inl (Or.inl ⟨_,Du,?_⟩);refine aM 1 bc ?_;refine Or.inl (Or.inl ⟨_,Dt,?_⟩);refine al bc ?_;refine ew _ (ff (some ([14,16,17,18],none)) _ (ae fun _ fx _ _ => ai fun _ eJ => ?_));refine ag 2 bc ?_;refine aM 1 bc ?_;refine Or.inl (Or.inl ⟨_,Dv,?_⟩);refine al bc ?_;refine eJ _ (fx (some ([6,7,8,9],none)) _ ?_)
 first | refine gv (aF bc) (aF bc) (aF bc) ?_ | refine gu (aF bc) (aF bc) (aF bc) ?_
 try dsimp only
 refine ⟨rfl,by omega,fun e he ar => ?_⟩
 have e7 : e ∉ ix la fB := fun hm => by
  rcases mS.new e hm with h | h
  ·exact ar (by simpa [uZ,la] using h)
  ·omega
 have y2 : e ∉ uZ la [(s,L)] := fun hm => ar (by simpa [uZ,la] using hm)
 simp only [an,bq]; repeat rw [if_neg (by omega)]
 rw [Gb.old e (by omega) e7]
 simp only [an,bq]; repeat rw [if_neg (by omega)]
 rw [mS.old e (by omega) y2]
 simp only [an,bq]; repeat rw [if_neg (by omega)]
end Go.Proofs.YtkmbcjnaaokilaaGreatDoor
