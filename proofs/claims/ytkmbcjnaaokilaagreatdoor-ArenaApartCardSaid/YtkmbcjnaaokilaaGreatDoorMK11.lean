/-
  Layer 12, plain: the law's worlds of chains as they start, step and end.
-/
import Derived.Test.YtkmbcjnaaokilaaGreatDoorK12ze
import Derived.Test.YtkmbcjnaaokilaaGreatDoorMC
import Derived.Test.YtkmbcjnaaokilaaGreatDoorMS
namespace Go.Proofs.YtkmbcjnaaokilaaGreatDoor
set_option linter.unusedSimpArgs false
set_option linter.unusedVariables false
open Go.RowKit Go.Maps
theorem P0 (s : cO) : (hT s).1.ops.length ≤ s.ops.length := by
 unfold hT
 split
 ·exact Nat.zero_le _
 ·rename_i o os he
  have := HY s.has s.ops; rw [he] at this; exact this
theorem Tl (s : cO) (g : ei) : (eb s g).1.ops.length ≤ s.ops.length := by
 unfold eb
 split
 ·exact P0 s
 ·split
  ·refine Nat.le_trans (P0 _) ?_
   show s.ops.tail.length ≤ _
   simp
  ·exact Nat.le_refl _
def x0 (w : cN ft) (n : Nat) : Prop := ∀ y ∈ w.tasks,∀ (s : cO) (L : fO),y.code = some (s,L) → s.ops.length ≤ n
theorem aiu {y : dt ft} {n : Nat} (h : ∀ (s : cO) (L : fO),y.code = some (s,L) → s.ops.length ≤ n) (g : ei) (s : cO) (L : fO) (aB : (jl y g).code = some (s,L)) : s.ops.length ≤ n := by
 unfold jl at aB
 split at aB
 ·cases aT : y.code with
  | none => rw [aT] at aB; simp only at aB; rw [aT] at aB; cases aB
  | some p =>
   rw [aT] at aB
   simp only at aB
   rw [(HM _ _ _ _).1] at aB
   obtain ⟨l5,L0⟩ := p
   have af := h l5 L0 aT
   have aj := Tl l5 g
   have e : ((eb l5 g).1,L0) = (s,L) := Option.some.inj aB
   rw [← (Prod.mk.inj e).1]; omega
 ·exact h s L aB
theorem S9 {w : cN ft} {n : Nat} (h : x0 w n) (p : lI) : x0 (eU w p).1 n := by
 unfold eU
 split
 ·exact h
 ·split
  ·intro y aV; cases aV
  ·split
   ·exact h
   ·split
    ·unfold pF
     split
     ·rename_i y aV
      intro z bR
      rcases List.mem_or_eq_of_mem_set bR with bR | rfl
      ·exact h z bR
      ·exact aiu (h y (List.mem_of_getElem? aV)) _
     ·exact h
    ·split
     ·exact h
     ·exact h
theorem ait {w w' : cN ft} {n : Nat} (h : x0 w n) (e : fl ka w' = fl ka w) : x0 w' n := by
 intro y aV s L aB
 obtain ⟨i,aq⟩ := List.getElem?_of_mem aV
 obtain ⟨z,bR,aZ⟩ := Ae e aq
 obtain ⟨cd,_⟩ := yl aZ
 rw [aB] at cd
 cases aT : z.code with
 | none => rw [aT] at cd; cases cd
 | some p =>
  rw [aT] at cd
  obtain ⟨dH,dw⟩ := p
  have fE : (s,ma) = (dH,ma) := Option.some.inj cd
  have oc := (Prod.mk.inj fE).1
  subst oc
  exact h z (List.mem_of_getElem? bR) s dw aT
structure lL (N : Nat) (l : b1) (f0 : Int → bm) (w : cN ft) (k : Nat) : Prop where
 W : ∃ S,mJ N l f0 w S
 ok : iW w k
 mx : x0 w 30
section
variable {N k : Nat} {l : b1} {f0 : Int → bm} {w w' : cN ft}
theorem lL.fY (h : lL N l f0 w k) (e : fl ka w' = fl ka w) : lL N l f0 w' k := by
 obtain ⟨S,aO⟩ := h.W
 exact ⟨⟨S,ade aO e⟩,O2 e.symm h.ok,ait h.mx e⟩
theorem lL.up (h : lL N l f0 w k) : lL N l f0 w (k + 1) := ⟨h.W,Ib h.ok (by omega),h.mx⟩
theorem lL.step (h : lL N l f0 w k) (p : lI) (hp : p.kind ≠ 2) : lL N l f0 (eU w p).1 (k + 1) ∧ (eU w p).1.tasks.length = w.tasks.length := by
 obtain ⟨S,aO⟩ := h.W
 obtain ⟨S',af,_⟩ := Jv aO h.ok p hp
 exact ⟨⟨⟨S',af⟩,H2 h.ok p,S9 h.mx p⟩,(Oh h.ok p hp).2.2⟩
theorem alE (h : lL N l f0 w k) (p : lI) (hp : p.kind ≠ 2) (m : Nat) (ao : jt w m = false) (hm : p.kind = 1 → p.jv ≠ (m : Int) + 1) : jt (eU w p).1 m = false := by
 obtain ⟨S,aO⟩ := h.W
 obtain ⟨S',_,aj⟩ := Jv aO h.ok p hp
 rcases aj with ⟨e,_,_⟩ | ⟨a1,_,e⟩ | ⟨lY,O3,dH,fD,a1,a7,ct,fb,iA,mi,qe,oc,_⟩
 ·rw [e]; exact ao
 ·rw [e]
  unfold jt rZ at *
  simp only
  rw [List.getElem?_set]
  split
  ·rename_i c1
   split
   ·rename_i c9
    have dj := hm a1
    by_cases aL : 0 ≤ p.jv - 1
    ·omega
    ·have cJ : k3 w p.jv = false := by
      unfold k3
      rw [show decide (1 ≤ p.jv ∧ p.jv ≤ (w.tasks.length : Int)) = false from decide_eq_false (by omega)]; rfl
     have : eU w p = (w,false) := by
      unfold eU
      split
      ·rfl
      ·first | rfl | rw [if_neg hp,if_pos cJ]
     rw [this] at e
     exact absurd (congrArg Prod.snd e) (by simp)
   ·rfl
  ·exact ao
 ·unfold jt at *; rw [oc]; exact ao
theorem lL.alone (h : lL N l f0 w k) (aqr : l.blocks ≤ 64) {m : Nat} (hm : m < w.tasks.length) (ao : jt w m = false) {n : Nat} (a9 : (kZ l + 1) * 30 ≤ n ∨ ∀ (y : dt ft) (s : cO) (L : fO),w.tasks[m]? = some y → y.code = some (s,L) → (kZ l + 1) * s.ops.length ≤ n) :
  lL N l f0 (e0 w ((m : Int) + 1) n) (k + n) ∧ je (e0 w ((m : Int) + 1) n) m = false ∧ (∀ j,j ≠ m → (e0 w ((m : Int) + 1) n).tasks[j]? = w.tasks[j]?) ∧ (e0 w ((m : Int) + 1) n).ib = w.ib ∧ (eU (e0 w ((m : Int) + 1) n) ⟨0,(m : Int) + 1,0⟩).2 = false ∧ ∀ j,e0 w ((m : Int) + 1) (n + j) = e0 w ((m : Int) + 1) n := by
 obtain ⟨S,aO⟩ := h.W
 have aV := List.getElem?_eq_getElem hm
 generalize w.tasks[m] = y at aV
 obtain ⟨s,s4,eE⟩ := aO.get aV
 obtain ⟨L,aB⟩ := eE.code
 have Sl := akB aO h.ok aV s4
 have hle : rr (dx w.m) s y.act y.live ≤ n := by
  rcases a9 with c1 | c1
  ·have := h.mx y (List.mem_of_getElem? aV) s L aB
   have c9 : (kZ l + 1) * s.ops.length ≤ (kZ l + 1) * 30 := Nat.mul_le_mul_left _ this
   omega
  ·have := c1 y s L aV aB; omega
 obtain ⟨S',dI,dS,oG,o9⟩ := P8 n aO h.ok aV s4 ao hle
 have iB : (eU (e0 w ((m : Int) + 1) n) ⟨0,(m : Int) + 1,0⟩).2 = false := by
  unfold eU
  split
  ·rfl
  ·rw [if_neg (by simp),if_pos (show k3 (e0 w ((m : Int) + 1) n) ((m : Int) + 1) = false by unfold k3; rw [show ((m : Int) + 1 - 1).toNat = m by omega,dS]; simp)]
 exact ⟨⟨⟨S',dI⟩,J9 _ n h.ok,Rl (I := fun w => x0 w 30) _ (fun w p _ hw => S9 hw p) n h.mx⟩,dS,oG,o9,iB,fun j => by rw [Ka,F5 iB]⟩
end
theorem ai1 {l : b1} (h : l.blocks ≤ 64) : kZ l ≤ 3 := by unfold kZ; omega
theorem lL.start {l : b1} (aE : e4 l = 0) (Df : 1 ≤ l.threads ∧ l.threads ≤ 8) (fK : 0 < l.blocks) {rows : List (List gq)} (aA : ∀ r ∈ rows,r.length ≤ 30 ∧ ∀ o ∈ r,zV o) : ∃ N : Nat,dm l 7 ≤ (N : Int) ∧ N ≤ 4096 ∧ ∀ w',fl ka w' = fl ka (xS l rows) →
  lL N l (dx w'.m) w' 1 ∧ (∀ m,jt w' m = false) ∧ w'.tasks.length = (kH l rows).length := by
 have hi := (kb aE).2
 have aqk := (u3 (kb aE).1 7).1
 have ug : (nI l).length = (dm l 7).toNat := by unfold nI; rw [S8,Ai]
 have xa : (gI l.threads (nI l)).2 = 0 := by
  obtain ⟨ey,_⟩ := kb aE
  have ba : dm l 7 = dm l 1 + (e8 l 1 + e8 l 2 + e8 l 3 + e8 l 4 + e8 l 5 + e8 l 6) := by
   show dm l 1 + e8 l 1 + e8 l 2 + e8 l 3 + e8 l 4 + e8 l 5 + e8 l 6 = _; omega
  have af : dm l 1 = 8 := rfl
  have := (lX ey 1).1; have := (lX ey 2).1; have := (lX ey 3).1; have := (lX ey 4).1; have := (lX ey 5).1; have := (lX ey 6).1
  unfold gI
  rw [if_neg (by omega),if_neg (by omega),if_neg (by omega)]
 obtain ⟨cd,c2,eu⟩ := BK xa
 have mo : ∀ p ∈ kH l rows,p.1.l = l ∧ p.1.bad = false ∧ p.1.now = none ∧ p.1.has = [] ∧ jI 0 p.1 ∧ p.1.ops.length ≤ 30 := fun p hp => by
  unfold kH at hp
  obtain ⟨u,hu,rfl⟩ := List.mem_map.1 hp
  have := aA u (List.mem_of_mem_take hu)
  exact ⟨rfl,rfl,rfl,rfl,P5 aE (by omega) this.2,this.1⟩
 have hu : ∀ b : Nat,(b : Int) < l.blocks → eg l (du (nI l)) b = false := fun b aI => by
  unfold nI
  rw [aol aE (by rw [Ai]; omega) (fun u hu => by cases hu) (by omega)]; rfl
 obtain ⟨S,aO⟩ := adf aE fK (k := l.threads) (ws := nI l) (by rw [ug]; omega) xa (by omega) (kH l rows) (fun p hp => by obtain ⟨a,b,c,d,e,_⟩ := mo p hp; exact ⟨a,b,c,d,e⟩) (List.replicate (kH l rows).length false) hu
 have RZ : (kH l rows).length ≤ l.threads.toNat := by unfold kH; rw [List.length_map,List.length_take]; omega
 have nt : iW (xS l rows) 1 := by
  refine ⟨S6 l.threads (nI l),?_,by simp [xS],fun t aL => ?_⟩
  ·show ((kH l rows).map (nX (C := ft))).length ≤ (ks l.threads (nI l)).1.mem.views.length
   rw [cd,List.length_map]; exact RZ
  ·obtain ⟨p,hp,rfl⟩ := List.mem_map.1 aL
   obtain ⟨a,b,c,d,e,_⟩ := mo p hp
   exact Xi (C := ft) (n := 0) ⟨e,by rw [a]; exact fK⟩
 have agx : x0 (xS l rows) 30 := by
  intro y aV s L aB
  obtain ⟨p,hp,rfl⟩ := List.mem_map.1 aV
  obtain ⟨_,_,_,_,_,aqi⟩ := mo p hp
  have af := (HM (C := ft) (v9 ft) ((eb p.1 e9).1,p.2) (eb p.1 e9).2.1 (eb p.1 e9).2.2).1
  have e : ((eb p.1 e9).1,p.2) = (s,L) := Option.some.inj (af.symm.trans aB)
  have aj := Tl p.1 e9
  rw [← (Prod.mk.inj e).1]; omega
 refine ⟨(nI l).length,by rw [ug]; omega,by rw [ug]; omega,fun w' he => ?_⟩
 have aW : lL (nI l).length l (du (nI l)) w' 1 := lL.fY ⟨⟨S,aO⟩,nt,agx⟩ he
 obtain ⟨S',af,aj,av,aY,bM,bN,cJ,c9,c1,_⟩ := aW.W
 refine ⟨⟨⟨S',af,aj,av,aY,bM,bN,cJ,c9,c1,fun q _ _ => ⟨rfl,rfl,.inl rfl⟩⟩,aW.ok,aW.mx⟩,fun m => ?_,?_⟩
 ·rw [Ed he]
  unfold jt xS
  simp only
  rw [List.getElem?_replicate]
  split <;> rfl
 ·rw [rT he]
  simp [xS]
theorem acH {N k : Nat} {l : b1} {f0 : Int → bm} {w : cN ft} {S : List cO} (h : mJ N l f0 w S) (a6 : ∀ m,m < w.tasks.length → je w m = false) {all : List Nat} (a5 : n1 l.blocks.toNat (zj S w.tasks.length) all) : all = p3 l (dx w.m) := by
 obtain ⟨U,rfl,kf⟩ := a5
 unfold p3
 refine List.filter_congr fun c aB => ?_
 have aB := List.mem_range.1 aB
 rw [Bool.eq_iff_iff,kf c aB,h.used c (by omega)]
 have ub : ∀ (i : Nat) (s : cO),S[i]? = some s → s.now = none := fun i s ao => by
  have aq := (List.getElem?_eq_some_iff.1 ao).1
  rw [← h.len] at aq
  have aV := List.getElem?_eq_getElem aq
  generalize w.tasks[i] = y at aV
  have aE := a6 i aq
  unfold je at aE
  rw [aV] at aE
  exact ((h.task i y s aV ao).dead aE).1
 constructor
 ·rintro ⟨i,s,_,ao,ar⟩
  exact ⟨i,s,ao,.inl ar⟩
 ·rintro ⟨i,s,ao,ar | ar⟩
  ·have aq := (List.getElem?_eq_some_iff.1 ao).1
   exact ⟨i,s,by rw [h.len]; exact aq,ao,ar⟩
  ·rw [ub i s ao] at ar; cases ar
theorem akX {N : Nat} {l : b1} {f0 : Int → bm} {w : cN ft} {S : List cO} (h : mJ N l f0 w S) : PJ l (iy N f0) (iy N (dx w.m)) := by
 refine ⟨by rw [v3,v3],fun i x y ar aV => ?_⟩
 have aq := (List.getElem?_eq_some_iff.1 ar).1
 rw [v3] at aq
 have a1 := XS ar
 have a7 := XS aV
 subst a1 a7
 exact h.rest i (by omega) (by omega)
end Go.Proofs.YtkmbcjnaaokilaaGreatDoor
namespace Go.Proofs.YtkmbcjnaaokilaaGreatDoor
open Go.RowKit

def NS : bZ := (.seq (.ops [ab 3 (.box 46 (aa 0)),ab 6 (.ah (a3 false))]) (.seq (.seq (.ops [ab 23 (.ah (aa 1)),ab 24 (.ah (aa 2)),ab 25 (.call 21 [.tmp 23,.tmp 24])]) (.cond (aa 25) (.seq (.ops [ab 26 (.call 8 []),ab 6 (.ah (aa 26))]) .ret) .skip)) (.seq (.ops [ab 27 (.mV (aa 3) (ay 0) 1 2),ab 28 (.aC (aa 27) none),ab 29 (.mV (aa 3) (ay 1) 1 2),ab 30 (.aC (aa 29) none),ab 31 (.call 9 [.tmp 28,.tmp 30]),ab 7 (.cw 25 [.int .i64,.int .i64,.int .i64]),aQ (.st 3 (aa 7) (aa 31))]) (.seq (.ops [ab 33 (.aC (aa 7) (some 3)),ab 34 (.ah (aa 1)),ab 35 (.call 22 [.tmp 33,.tmp 34,(.const (.slice none 0 0))]),ab 32 (.ah (aa 35)),ab 36 (.ext (aa 32) 0),ab 37 (.ext (aa 32) 1),ab 8 (.cw 63 [.au 1,.au 1,.au 3,.au 2,.mp 3,.au 1,.int .i64,.au 11,.au 1]),aQ (.st 9 (aa 8) (aa 36)),ab 9 (.ah (aa 37))]) (.seq (.seq (.ops [ab 38 (.ah (aa 9)),ab 39 (.not (aa 38))]) (.cond (aa 39) (.seq (.ops [ab 6 (.ah (a3 false))]) .ret) .skip)) (.seq (.ops [ab 40 (.aU (aa 8) 0),ab 41 (.aC (aa 40) (some 7)),ab 42 (.call 23 [.tmp 41]),ab 10 (.ah (aa 42))]) (.seq (.seq (.ops [ab 11 (.ah (ay 0))]) (.block 0 (.loop (.seq (.seq (.ops [ab 43 (.ah (aa 11)),ab 44 (.ah (aa 2)),ab 45 (.len (aa 44)),ab 46 (.bin .lss (aa 43) (aa 45))]) (.cond (aa 46) .skip (.exit 0))) (.seq (.block 1 (.seq (.ops [ab 49 (.ah (aa 2)),ab 50 (.ah (aa 11)),ab 51 (.dD (aa 49) (aa 50) 3),ab 52 (.aC (aa 51) (some 3)),ab 12 (.cw 67 [.int .i64,.int .i64,.int .i64]),aQ (.st 3 (aa 12) (aa 52))]) (.seq (.ops [ab 53 (.aU (aa 12) 0),aQ (.st 1 (aa 53) (ay 0))]) (.seq (.ops [ab 55 (.aC (aa 8) (some 9)),ab 56 (.aC (aa 12) (some 3)),ab 57 (.call 24 [.tmp 55,.tmp 56]),ab 54 (.ah (aa 57)),ab 58 (.ext (aa 54) 0),ab 59 (.ext (aa 54) 1),ab 13 (.cw 63 [.au 1,.au 1,.au 3,.au 2,.mp 3,.au 1,.int .i64,.au 11,.au 1]),aQ (.st 9 (aa 13) (aa 58)),ab 14 (.ah (aa 59))]) (.seq (.ops [ab 60 (.aC (aa 13) (some 9)),aQ (.st 9 (aa 8) (aa 60))]) (.seq (.ops [ab 61 (.aC (aa 8) (some 9)),ab 62 (.call 25 [.tmp 61]),ab 63 (.not (aa 62))]) (.cond (aa 63) (.seq (.ops [ab 6 (.ah (a3 false))]) .ret) .skip))))))) (.ops [ab 47 (.ah (aa 11)),ab 48 (.bin .add (aa 47) (ay 1)),ab 11 (.ah (aa 48))])))))) (.seq (.seq (.ops [ab 15 (.ah (ay 1))]) (.block 2 (.loop (.seq (.seq (.ops [ab 64 (.ah (aa 15)),ab 65 (.aU (aa 8) 7),ab 66 (.aC (aa 65) none),ab 67 (.len (aa 66)),ab 68 (.bin .leq (aa 64) (aa 67))]) (.cond (aa 68) .skip (.exit 2))) (.seq (.block 3 (.seq (.ops [ab 72 (.aC (aa 8) (some 9)),ab 73 (.ah (aa 15)),ab 74 (.call 26 [.tmp 72,.tmp 73,(ay 3000)]),ab 71 (.ah (aa 74)),ab 75 (.ext (aa 71) 0),ab 76 (.ext (aa 71) 1),ab 16 (.cw 63 [.au 1,.au 1,.au 3,.au 2,.mp 3,.au 1,.int .i64,.au 11,.au 1]),aQ (.st 9 (aa 16) (aa 75)),ab 17 (.ah (aa 76))]) (.seq (.ops [ab 77 (.aC (aa 16) (some 9)),aQ (.st 9 (aa 8) (aa 77))]) (.seq (.ops [ab 78 (.ah (aa 17)),ab 79 (.not (aa 78)),ab 80 (.ah (aa 79)),a8 81 80 false (.aC (aa 8) (some 9)),a8 82 80 false (.call 25 [.tmp 81]),a8 83 80 false (.not (aa 82)),ab 84 (.pick (aa 80) (a3 true) (aa 83))]) (.cond (aa 84) (.seq (.ops [ab 6 (.ah (a3 false))]) .ret) .skip))))) (.ops [ab 69 (.ah (aa 15)),ab 70 (.bin .add (aa 69) (ay 1)),ab 15 (.ah (aa 70))])))))) (.seq (.ops [ab 18 (.ah (.const (.slice none 0 0)))]) (.seq (.seq (.ops [ab 19 (.ah (ay 0))]) (.block 4 (.loop (.seq (.seq (.ops [ab 85 (.ah (aa 19)),ab 86 (.aU (aa 8) 7),ab 87 (.aC (aa 86) none),ab 88 (.len (aa 87)),ab 89 (.bin .lss (aa 85) (aa 88))]) (.cond (aa 89) .skip (.exit 4))) (.seq (.block 5 (.seq (.ops [ab 93 (.aU (aa 8) 7),ab 94 (.aC (aa 93) none),ab 95 (.ah (aa 19)),ab 96 (.dD (aa 94) (aa 95) 11),ab 97 (.aC (aa 96) (some 11)),ab 98 (.call 27 [.tmp 97]),ab 92 (.ah (aa 98)),ab 99 (.ext (aa 92) 0),ab 100 (.ext (aa 92) 1),ab 20 (.cw 72 [.int .i64,.int .i64,.int .i64,.au 2,.nilIface,.au 1,.au 1,.au 1,.bool]),aQ (.st 9 (aa 20) (aa 99)),ab 21 (.ah (aa 100))]) (.seq (.seq (.ops [ab 101 (.ah (aa 21)),ab 102 (.not (aa 101)),ab 103 (.ah (aa 102)),a8 104 103 false (.aU (aa 20) 8),a8 105 103 false (.aC (aa 104) none),ab 106 (.pick (aa 103) (a3 true) (aa 105))]) (.cond (aa 106) (.seq (.ops [ab 6 (.ah (a3 false))]) .ret) .skip)) (.seq (.ops [ab 22 (.ah (ay 0))]) (.block 6 (.loop (.seq (.seq (.ops [ab 107 (.ah (aa 22)),ab 108 (.aU (aa 20) 5),ab 109 (.aC (aa 108) none),ab 110 (.len (aa 109)),ab 111 (.bin .lss (aa 107) (aa 110))]) (.cond (aa 111) .skip (.exit 6))) (.seq (.block 7 (.ops [ab 114 (.ah (aa 18)),ab 115 (.aU (aa 20) 5),ab 116 (.aC (aa 115) none),ab 117 (.ah (aa 22)),ab 118 (.dD (aa 116) (aa 117) 1),ab 119 (.aC (aa 118) none),ab 120 (.call 16 [.tmp 114,.tmp 119]),ab 18 (.ah (aa 120))])) (.ops [ab 112 (.ah (aa 22)),ab 113 (.bin .add (aa 112) (ay 1)),ab 22 (.ah (aa 113))]))))))))) (.ops [ab 90 (.ah (aa 19)),ab 91 (.bin .add (aa 90) (ay 1)),ab 19 (.ah (aa 91))])))))) (.seq (.g0 13 [ab 121 (.ah (aa 18)),ab 122 (.aC (aa 7) (some 3)),ab 123 (.aU (aa 8) 0),ab 124 (.aC (aa 123) (some 7)),ab 125 (.call 23 [.tmp 124]),ab 126 (.call 19 [.tmp 122,.tmp 125]),ab 127 (.call 18 [.tmp 121,.tmp 126]),ab 128 (.ah (aa 127)),a8 129 128 true (.aC (aa 7) (some 3)),a8 130 128 true (.ah (aa 10)),a8 131 128 true (.aU (aa 8) 0),a8 132 128 true (.aC (aa 131) (some 7)),a8 133 128 true (.call 23 [.tmp 132]),a8 134 128 true (.call 20 [.tmp 129,.tmp 130,.tmp 133]),ab 135 (.pick (aa 128) (aa 134) (a3 false)),ab 136 (.ah (aa 135)),a8 137 136 true (.call 8 []),ab 138 (.pick (aa 136) (aa 137) (a3 false)),ab 6 (.ah (aa 138))]) .ret)))))))))))
def No : List b6 := [.tmp 6]
theorem amu : uy Tryz.prog rfl Tryz.f4 = some (NS,No) := by kernel_rfl
end Go.Proofs.YtkmbcjnaaokilaaGreatDoor
