/-
  Layer 12, plain: the law's worlds of chains as they start, step and end.
-/
import Derived.Test.YtkmbcjnaaokilaaGreatDoorK12ze
import Derived.Test.YtkmbcjnaaokilaaGreatDoorMC
import Derived.Test.YtkmbcjnaaokilaaGreatDoorMS
import Derived.Test.YtkmbcjnaaokilaaGreatDoorK12o
namespace Go.Proofs.YtkmbcjnaaokilaaGreatDoor
set_option linter.unusedSimpArgs false
set_option linter.unusedVariables false
open Go.RowKit Go.Maps
theorem Na (s : da) : (hF s).1.ops.length ≤ s.ops.length := by
 unfold hF
 split
 ·exact Nat.zero_le _
 ·rename_i o os he
  have := F1 s.has s.ops; rw [he] at this; exact this
theorem Qo (s : da) (g : dW) : (dN s g).1.ops.length ≤ s.ops.length := by
 unfold dN
 split
 ·exact Na s
 ·split
  ·refine Nat.le_trans (Na _) ?_
   show s.ops.tail.length ≤ _
   simp
  ·exact Nat.le_refl _
def wq (w : cM fR) (n : Nat) : Prop := ∀ y ∈ w.tasks,∀ (s : da) (L : fF),y.code = some (s,L) → s.ops.length ≤ n
theorem aeS {y : ds fR} {n : Nat} (h : ∀ (s : da) (L : fF),y.code = some (s,L) → s.ops.length ≤ n) (g : dW) (s : da) (L : fF) (az : (iO y g).code = some (s,L)) : s.ops.length ≤ n := by
 unfold iO at az
 split at az
 ·cases aS : y.code with
  | none => rw [aS] at az; simp only at az; rw [aS] at az; cases az
  | some p =>
   rw [aS] at az
   simp only at az
   rw [(FN _ _ _ _).1] at az
   obtain ⟨lv,L0⟩ := p
   have af := h lv L0 aS
   have aj := Qo lv g
   have e : ((dN lv g).1,L0) = (s,L) := Option.some.inj az
   rw [← (Prod.mk.inj e).1]; omega
 ·exact h s L az
theorem Qd {w : cM fR} {n : Nat} (h : wq w n) (p : kO) : wq (eL w p).1 n := by
 unfold eL
 split
 ·exact h
 ·split
  ·intro y a1; cases a1
  ·split
   ·exact h
   ·split
    ·unfold oD
     split
     ·rename_i y a1
      intro z bO
      rcases List.mem_or_eq_of_mem_set bO with bO | rfl
      ·exact h z bO
      ·exact aeS (h y (List.mem_of_getElem? a1)) _
     ·exact h
    ·split
     ·exact h
     ·exact h
theorem aeR {w w' : cM fR} {n : Nat} (h : wq w n) (e : ff hG w' = ff hG w) : wq w' n := by
 intro y a1 s L az
 obtain ⟨i,aq⟩ := List.getElem?_of_mem a1
 obtain ⟨z,bO,aW⟩ := yx e aq
 obtain ⟨cw,_⟩ := wI aW
 rw [az] at cw
 cases aS : z.code with
 | none => rw [aS] at cw; cases cw
 | some p =>
  rw [aS] at cw
  obtain ⟨dv,du⟩ := p
  have gH : (s,lA) = (dv,lA) := Option.some.inj cw
  have qK := (Prod.mk.inj gH).1
  subst qK
  exact h z (List.mem_of_getElem? bO) s du aS
structure ld (N : Nat) (l : cc) (f0 : Int → bq) (w : cM fR) (k : Nat) : Prop where
 W : ∃ S,ov N l f0 w S
 ok : jh w k
 mx : wq w 30
section
variable {N k : Nat} {l : cc} {f0 : Int → bq} {w w' : cM fR}
theorem ld.fL (h : ld N l f0 w k) (e : ff hG w' = ff hG w) : ld N l f0 w' k := by
 obtain ⟨S,aN⟩ := h.W
 exact ⟨⟨S,ZS aN e⟩,Mg e.symm h.ok,aeR h.mx e⟩
theorem ld.up (h : ld N l f0 w k) : ld N l f0 w (k + 1) := ⟨h.W,Ge h.ok (by omega),h.mx⟩
theorem ld.step (h : ld N l f0 w k) (p : kO) (hp : p.kind ≠ 2) : ld N l f0 (eL w p).1 (k + 1) ∧ (eL w p).1.tasks.length = w.tasks.length := by
 obtain ⟨S,aN⟩ := h.W
 obtain ⟨S',af,_⟩ := Hi aN h.ok p hp
 exact ⟨⟨⟨S',af⟩,F3 h.ok p,Qd h.mx p⟩,(LF h.ok p hp).2.2⟩
theorem T3 (h : ld N l f0 w k) (p : kO) (hp : p.kind ≠ 2) (m : Nat) (ao : jf w m = false) (hm : p.kind = 1 → p.iC ≠ (m : Int) + 1) : jf (eL w p).1 m = false := by
 obtain ⟨S,aN⟩ := h.W
 obtain ⟨S',_,aj⟩ := Hi aN h.ok p hp
 rcases aj with ⟨e,_,_⟩ | ⟨a2,_,e⟩ | ⟨lp,Gg,dv,fs,a2,a8,cg,e7,h9,lH,nY,qK,_⟩
 ·rw [e]; exact ao
 ·rw [e]
  unfold jf qU at *
  simp only
  rw [List.getElem?_set]
  split
  ·rename_i ch
   split
   ·rename_i dY
    have dd := hm a2
    by_cases aO : 0 ≤ p.iC - 1
    ·omega
    ·have cA : kJ w p.iC = false := by
      unfold kJ
      rw [show decide (1 ≤ p.iC ∧ p.iC ≤ (w.tasks.length : Int)) = false from decide_eq_false (by omega)]; rfl
     have : eL w p = (w,false) := by
      unfold eL
      split
      ·rfl
      ·first | rfl | rw [if_neg hp,if_pos cA]
     rw [this] at e
     exact absurd (congrArg Prod.snd e) (by simp)
   ·rfl
  ·exact ao
 ·unfold jf at *; rw [qK]; exact ao
theorem ld.alone (h : ld N l f0 w k) (amW : l.blocks ≤ 64) {m : Nat} (hm : m < w.tasks.length) (ao : jf w m = false) {n : Nat} (a7 : (h7 l + 1) * 30 ≤ n ∨ ∀ (y : ds fR) (s : da) (L : fF),w.tasks[m]? = some y → y.code = some (s,L) → (h7 l + 1) * s.ops.length ≤ n) :
  ld N l f0 (eT w ((m : Int) + 1) n) (k + n) ∧ kh (eT w ((m : Int) + 1) n) m = false ∧ (∀ j,j ≠ m → (eT w ((m : Int) + 1) n).tasks[j]? = w.tasks[j]?) ∧ (eT w ((m : Int) + 1) n).hY = w.hY ∧ (eL (eT w ((m : Int) + 1) n) ⟨0,(m : Int) + 1,0⟩).2 = false ∧ ∀ j,eT w ((m : Int) + 1) (n + j) = eT w ((m : Int) + 1) n := by
 obtain ⟨S,aN⟩ := h.W
 have a1 := List.getElem?_eq_getElem hm
 generalize w.tasks[m] = y at a1
 obtain ⟨s,rZ,eP⟩ := aN.get a1
 obtain ⟨L,az⟩ := eP.code
 have Pz := ag4 aN h.ok a1 rZ
 have hle : qm (eg w.m) s y.act y.live ≤ n := by
  rcases a7 with ch | ch
  ·have := h.mx y (List.mem_of_getElem? a1) s L az
   have dY : (h7 l + 1) * s.ops.length ≤ (h7 l + 1) * 30 := Nat.mul_le_mul_left _ this
   omega
  ·have := ch y s L a1 az; omega
 obtain ⟨S',et,dP,nL,xI⟩ := Nk n aN h.ok a1 rZ ao hle
 have ie : (eL (eT w ((m : Int) + 1) n) ⟨0,(m : Int) + 1,0⟩).2 = false := by
  unfold eL
  split
  ·rfl
  ·rw [if_neg (by simp),if_pos (show kJ (eT w ((m : Int) + 1) n) ((m : Int) + 1) = false by unfold kJ; rw [show ((m : Int) + 1 - 1).toNat = m by omega,dP]; simp)]
 exact ⟨⟨⟨S',et⟩,HV _ n h.ok,Ow (I := fun w => wq w 30) _ (fun w p _ hw => Qd hw p) n h.mx⟩,dP,nL,xI,ie,fun j => by rw [HW,D0 ie]⟩
end
theorem afn {l : cc} (h : l.blocks ≤ 64) : h7 l ≤ 3 := by unfold h7; omega
theorem ld.start {l : cc} (aF : fj l = 0) (BC : 1 ≤ l.threads ∧ l.threads ≤ 8) (fz : 0 < l.blocks) {rows : List (List fi)} (ax : ∀ r ∈ rows,r.length ≤ 30 ∧ ∀ o ∈ r,wv o) : ∃ N : Nat,dp l 7 ≤ (N : Int) ∧ N ≤ 4096 ∧ ∀ w',ff hG w' = ff hG (wc l rows) →
  ld N l (eg w'.m) w' 1 ∧ (∀ m,jf w' m = false) ∧ w'.tasks.length = (kl l rows).length := by
 have g4 := (ku aF).2
 have amK := (tK (ku aF).1 7).1
 have s4 : (mZ l).length = (dp l 7).toNat := by unfold mZ; rw [Qc,yA]
 have vt : (gC l.threads (mZ l)).2 = 0 := by
  obtain ⟨ek,_⟩ := ku aF
  have bb : dp l 7 = dp l 1 + (e2 l 1 + e2 l 2 + e2 l 3 + e2 l 4 + e2 l 5 + e2 l 6) := by
   show dp l 1 + e2 l 1 + e2 l 2 + e2 l 3 + e2 l 4 + e2 l 5 + e2 l 6 = _; omega
  have af : dp l 1 = 8 := rfl
  have := (lo ek 1).1; have := (lo ek 2).1; have := (lo ek 3).1; have := (lo ek 4).1; have := (lo ek 5).1; have := (lo ek 6).1
  unfold gC
  rw [if_neg (by omega),if_neg (by omega),if_neg (by omega)]
 obtain ⟨cw,c2,eE⟩ := Ae vt
 have lN : ∀ p ∈ kl l rows,p.1.l = l ∧ p.1.bad = false ∧ p.1.now = none ∧ p.1.has = [] ∧ ju 0 p.1 ∧ p.1.ops.length ≤ 30 := fun p hp => by
  unfold kl at hp
  obtain ⟨u,hu,rfl⟩ := List.mem_map.1 hp
  have := ax u (List.mem_of_mem_take hu)
  exact ⟨rfl,rfl,rfl,rfl,Nh aF (by omega) this.2,this.1⟩
 have hu : ∀ b : Nat,(b : Int) < l.blocks → dZ l (dw (mZ l)) b = false := fun b aJ => by
  unfold mZ
  rw [akD aF (by rw [yA]; omega) (fun u hu => by cases hu) (by omega)]; rfl
 obtain ⟨S,aN⟩ := ZT aF fz (k := l.threads) (ws := mZ l) (by rw [s4]; omega) vt (by omega) (kl l rows) (fun p hp => by obtain ⟨a,b,c,d,e,_⟩ := lN p hp; exact ⟨a,b,c,d,e⟩) (List.replicate (kl l rows).length false) hu
 have Pc : (kl l rows).length ≤ l.threads.toNat := by unfold kl; rw [List.length_map,List.length_take]; omega
 have mM : jh (wc l rows) 1 := by
  refine ⟨Qa l.threads (mZ l),?_,by simp [wc],fun t aO => ?_⟩
  ·show ((kl l rows).map (nf (C := fR))).length ≤ (j5 l.threads (mZ l)).1.mem.views.length
   rw [cw,List.length_map]; exact Pc
  ·obtain ⟨p,hp,rfl⟩ := List.mem_map.1 aO
   obtain ⟨a,b,c,d,e,_⟩ := lN p hp
   exact T1 (C := fR) (n := 0) ⟨e,by rw [a]; exact fz⟩
 have acZ : wq (wc l rows) 30 := by
  intro y a1 s L az
  obtain ⟨p,hp,rfl⟩ := List.mem_map.1 a1
  obtain ⟨_,_,_,_,_,amI⟩ := lN p hp
  have af := (FN (C := fR) (uN fR) ((dN p.1 e4).1,p.2) (dN p.1 e4).2.1 (dN p.1 e4).2.2).1
  have e : ((dN p.1 e4).1,p.2) = (s,L) := Option.some.inj (af.symm.trans az)
  have aj := Qo p.1 e4
  rw [← (Prod.mk.inj e).1]; omega
 refine ⟨(mZ l).length,by rw [s4]; omega,by rw [s4]; omega,fun w' he => ?_⟩
 have aY : ld (mZ l).length l (dw (mZ l)) w' 1 := ld.fL ⟨⟨S,aN⟩,mM,acZ⟩ he
 obtain ⟨S',af,aj,aw,aV,bF,bH,cA,dY,ch,_⟩ := aY.W
 refine ⟨⟨⟨S',af,aj,aw,aV,bF,bH,cA,dY,ch,fun q _ _ => ⟨rfl,rfl,.inl rfl⟩⟩,aY.ok,aY.mx⟩,fun m => ?_,?_⟩
 ·rw [Cv he]
  unfold jf wc
  simp only
  rw [List.getElem?_replicate]
  split <;> rfl
 ·rw [qO he]
  simp [wc]
end Go.Proofs.YtkmbcjnaaokilaaGreatDoor
namespace Go.Proofs.YtkmbcjnaaokilaaGreatDoor
open Go.RowKit

end Go.Proofs.YtkmbcjnaaokilaaGreatDoor
namespace Go.Proofs.YtkmbcjnaaokilaaGreatDoor
set_option linter.unusedSimpArgs false
set_option linter.unusedVariables false
open Go.RowKit Go.Maps
theorem abJ {rows : List (List fi)} {m : Nat} (h : rF rows m = false) : rows.length ≤ 4 ∧ m ≤ 250 ∧ ∀ r ∈ rows,r.length ≤ 30 := by
 unfold rF at h
 simp only [Bool.or_eq_false_iff,decide_eq_false_iff_not,List.any_eq_false,decide_eq_true_eq] at h
 obtain ⟨af,aj,aw⟩ := h
 refine ⟨by omega,by omega,fun r ax => ?_⟩
 have := af r (by rw [List.take_of_length_le (by omega)]; exact ax)
 omega
theorem ahb {t b : Int} (aO : 0 ≤ t) : 1 ≤ (vR t b).threads ∧ (vR t b).threads ≤ 4 := by
 show 1 ≤ 1 + t % 4 ∧ 1 + t % 4 ≤ 4; omega
structure uO (l : cc) (w : cM fR) (J : bg → Env → Prop) (n b : Nat) (c1 : List (Nat × bl)) (bM : Nat) : Prop where
 own : jw hG w c1 bM
 fC : al c1 n = some (.cq J)
 bQ : al c1 (n + 2) = some (.box 25 (fe l))
 rD : al c1 b = some (.box 63 (sG w))
 lK : ∀ e ∈ hP hG w,n + 3 ≤ e ∧ e ≠ b
 c4 : n + 3 ≤ b
 dm : b < bM
structure ak7 (l : cc) (w : cM fR) (J : bg → Env → Prop) (n b : Nat) (c1 : List (Nat × bl)) (bM : Nat) : Prop where
 fC : al c1 n = some (.cq J)
 bQ : al c1 (n + 2) = some (.box 25 (fe l))
 rD : al c1 b = some (.box 63 (sG w))
 c4 : n + 3 ≤ b
 dm : b < bM

def ag0 (l : List cl) : Bool := l.any fun g => match g.op with
 | .call f _ => f == 22
 | _ => false
def L2 (P : Program) (bV : P = Tryz.prog) (N : Nat) : (c : Code) → Option {g5 : bU // kp N c g5}
 | .region id ops true => match Cz P bV N ops ops.toList with
  | some cf => if ag0 cf.1 = true then (if h : (Region.noSelect ops && zA ops) = true then some ⟨.np (ops.toList.map wl) cf.1,by
     simp only [Bool.and_eq_true] at h
     exact .np cf.2 h.1 h.2⟩ else none) else sv P bV N (.region id ops true)
  | none => none
 | .seq a b => match L2 P bV N a,L2 P bV N b with
  | some x,some y => some ⟨.seq x.1 y.1,.seq x.2 y.2⟩
  | _,_ => none
 | c => sv P bV N c
def L3 (P : Program) (bV : P = Tryz.prog) (fn : Func) : Option (bU × List b3) :=
 match fn.body with
 | none => none
 | some c => match L2 P bV fn.ntmps c,F9 P bV fn.results.toList with
  | some x,some y => some (x.1,y.1)
  | _,_ => none
theorem afG {f : FuncId} {fn : Func} {g5 : bU} {ew : List b3} {args : List av} {O : List (Nat × bl)} {n : Nat} {P : (bg → Env → Prop) → av → List (Nat × bl) → Nat → Prop} (aW : Tryz.prog.funcs[f]? = some fn) (aO : L3 Tryz.prog rfl fn = some (g5,ew)) (a7 : Nat.ble args.length fn.ntmps = true)
  (h : ∀ J,hd g5 ⟨o8 0 args,(n,.cq J) :: O,n + 1⟩ (wK ew n J P)) : fv f args O n P := by
 unfold L3 at aO
 split at aO
 ·cases aO
 ·rename_i c aJ
  split at aO
  ·rename_i x y _ _
   cases aO
   exact J7 aW aJ mixed x.2 y.2 (Nat.le_of_ble_eq_true a7) h
  ·cases aO
end Go.Proofs.YtkmbcjnaaokilaaGreatDoor
namespace Go.Proofs.YtkmbcjnaaokilaaGreatDoor
open Go.RowKit

def FO : bU := (.seq (.ops [ab 3 (.box 46 (aa 0)),ab 6 (.ah (a6 false))]) (.seq (.seq (.ops [ab 19 (.ah (aa 1)),ab 20 (.ah (aa 2)),ab 21 (.call 21 [.tmp 19,.tmp 20]),ab 22 (.ah (aa 21)),a9 23 22 false (.ah (aa 1)),a9 24 22 false (.len (aa 23)),a9 25 22 false (.bin .eql (aa 24) (aA 0)),ab 26 (.pick (aa 22) (a6 true) (aa 25))]) (.cond (aa 26) (.seq (.ops [ab 27 (.call 8 []),ab 6 (.ah (aa 27))]) .ret) .skip)) (.seq (.ops [ab 28 (.mi (aa 3) (aA 0) 1 2),ab 29 (.aC (aa 28) none),ab 30 (.mi (aa 3) (aA 1) 1 2),ab 31 (.aC (aa 30) none),ab 32 (.call 9 [.tmp 29,.tmp 31]),ab 7 (.cm 25 [.int .i64,.int .i64,.int .i64]),aR (.st 3 (aa 7) (aa 32))]) (.seq (.np [[],[],[],[2],[3],[4],[1,5],[],[7],[6,8,6],[0,9,9],[10],[11],[11],[],[14,12,10,0,1,2,3,4,5,6,7,8,9,10,11,12,14],[13,15,0,1,2,3,4,5,6,7,8,9,10,11,12,13,14,15]] [ab 34 (.aC (aa 7) (some 3)),ab 35 (.g2 1 []),ab 36 (.ah (aa 1)),ab 37 (.dU (aa 36) (aA 0) 1),ab 38 (.aC (aa 37) none),ab 39 (.g2 1 [.tmp 38,(.const (.slice none 0 0))]),ab 40 (.app (aa 35) (aa 39) 22 1 24),ab 41 (.ah (aa 1)),ab 42 (.kk 1 (aa 41) (some (aA 1)) none none),ab 43 (.app (aa 40) (aa 42) 22 1 24),ab 44 (.call 22 [.tmp 34,.tmp 43,(.const (.slice none 0 0))]),ab 33 (.ah (aa 44)),ab 45 (.ext (aa 33) 0),ab 46 (.ext (aa 33) 1),ab 8 (.cm 63 [.au 1,.au 1,.au 3,.au 2,.mp 3,.au 1,.int .i64,.au 11,.au 1]),aR (.st 9 (aa 8) (aa 45)),ab 9 (.ah (aa 46))]) (.seq (.seq (.ops [ab 47 (.ah (aa 9)),ab 48 (.not (aa 47)),ab 49 (.ah (aa 48)),a9 50 49 false (.a3 (aa 8) 7),a9 51 49 false (.aC (aa 50) none),a9 52 49 false (.len (aa 51)),a9 53 49 false (.bin .eql (aa 52) (aA 0)),ab 54 (.pick (aa 49) (a6 true) (aa 53))]) (.cond (aa 54) (.seq (.ops [ab 6 (.ah (a6 false))]) .ret) .skip)) (.seq (.seq (.ops [ab 10 (.ah (aA 0))]) (.block 0 (.loop (.seq (.seq (.ops [ab 55 (.ah (aa 10)),ab 56 (.ah (aa 2)),ab 57 (.len (aa 56)),ab 58 (.bin .lss (aa 55) (aa 57))]) (.cond (aa 58) .skip (.exit 0))) (.seq (.block 1 (.seq (.ops [ab 61 (.ah (aa 2)),ab 62 (.ah (aa 10)),ab 63 (.dU (aa 61) (aa 62) 3),ab 64 (.aC (aa 63) (some 3)),ab 11 (.cm 67 [.int .i64,.int .i64,.int .i64]),aR (.st 3 (aa 11) (aa 64))]) (.seq (.seq (.ops [ab 65 (.a3 (aa 11) 0),ab 66 (.aC (aa 65) none),ab 67 (.bin .eql (aa 66) (aA 2)),ab 68 (.ah (aa 67)),a9 69 68 false (.a3 (aa 11) 0),a9 70 68 false (.aC (aa 69) none),a9 71 68 false (.bin .eql (aa 70) (aA 1)),a9 72 68 false (.ah (aa 71)),a9 73 72 true (.a3 (aa 11) 1),a9 74 72 true (.aC (aa 73) none),a9 75 72 true (.bin .eql (aa 74) (aA 1)),a9 76 68 false (.pick (aa 72) (aa 75) (a6 false)),ab 77 (.pick (aa 68) (a6 true) (aa 76))]) (.cond (aa 77) (.exit 1) .skip)) (.seq (.ops [ab 79 (.aC (aa 8) (some 9)),ab 80 (.aC (aa 11) (some 3)),ab 81 (.call 24 [.tmp 79,.tmp 80]),ab 78 (.ah (aa 81)),ab 82 (.ext (aa 78) 0),ab 83 (.ext (aa 78) 1),ab 12 (.cm 63 [.au 1,.au 1,.au 3,.au 2,.mp 3,.au 1,.int .i64,.au 11,.au 1]),aR (.st 9 (aa 12) (aa 82)),ab 13 (.ah (aa 83))]) (.ops [ab 84 (.aC (aa 12) (some 9)),aR (.st 9 (aa 8) (aa 84))]))))) (.ops [ab 59 (.ah (aa 10)),ab 60 (.bin .add (aa 59) (aA 1)),ab 10 (.ah (aa 60))])))))) (.seq (.ops [ab 86 (.a3 (aa 8) 7),ab 87 (.aC (aa 86) none),ab 88 (.dU (aa 87) (aA 0) 11),ab 89 (.aC (aa 88) (some 11)),ab 90 (.call 27 [.tmp 89]),ab 85 (.ah (aa 90)),ab 91 (.ext (aa 85) 0),ab 92 (.ext (aa 85) 1),ab 14 (.cm 72 [.int .i64,.int .i64,.int .i64,.au 2,.nilIface,.au 1,.au 1,.au 1,.bool]),aR (.st 9 (aa 14) (aa 91)),ab 15 (.ah (aa 92))]) (.seq (.ops [ab 93 (.a3 (aa 7) 2),ab 94 (.aC (aa 93) none),ab 95 (.bin .add (aa 94) (aA 31)),ab 96 (.bin .quo (aa 95) (aA 32)),ab 97 (.bin .add (aa 96) (aA 3)),ab 16 (.ah (aa 97))]) (.seq (.ops [ab 99 (.aC (aa 8) (some 9)),ab 100 (.ah (aa 16)),ab 101 (.a3 (aa 14) 3),ab 102 (.aC (aa 101) none),ab 103 (.len (aa 102)),ab 104 (.bin .add (aa 103) (aA 1)),ab 105 (.bin .mul (aa 100) (aa 104)),ab 106 (.call 26 [.tmp 99,(aA 1),.tmp 105]),ab 98 (.ah (aa 106)),ab 107 (.ext (aa 98) 0),ab 108 (.ext (aa 98) 1),ab 17 (.cm 63 [.au 1,.au 1,.au 3,.au 2,.mp 3,.au 1,.int .i64,.au 11,.au 1]),aR (.st 9 (aa 17) (aa 107)),ab 18 (.ah (aa 108))]) (.seq (.ops [ab 109 (.ah (aa 15)),ab 110 (.ah (aa 109)),a9 111 110 true (.ah (aa 18)),ab 112 (.pick (aa 110) (aa 111) (a6 false)),ab 113 (.ah (aa 112)),a9 114 113 true (.call 8 []),ab 115 (.pick (aa 113) (aa 114) (a6 false)),ab 6 (.ah (aa 115))]) .ret))))))))))
def FE : List b3 := [.tmp 6]
theorem aiR : L3 Tryz.prog rfl Tryz.f5 = some (FO,FE) := by kernel_rfl
end Go.Proofs.YtkmbcjnaaokilaaGreatDoor
