/-
  ArenaStops by shadows.
-/
import Derived.Test.YtkmbcjnaaokilaaGreatDoorK12zh
namespace Go.Proofs.YtkmbcjnaaokilaaGreatDoor
set_option linter.unusedSimpArgs false
set_option linter.unusedVariables false
open Go.RowKit Go.Maps
def US (N T : Nat) (l : cc) (ps : List kO) (J : bg → Env → Prop) (n b : Nat) (k : Nat) (S : ak) : Prop :=
 ∃ (i : Nat) (w : cM fR) (f0 : Int → bq) (c1 : List (Nat × bl)) (bM : Nat),i ≤ ps.length ∧ k = ps.length - i ∧ ld N l f0 w (1 + i) ∧ jf w 0 = false ∧ w.tasks.length = T ∧ uO l w J n b c1 bM ∧
  S = ⟨[(2,.au 3 2 (ps.map sN)),(7,.ptr (n + 2) 0 0),(8,.ptr b 0 0),(10,aI i)],c1,bM⟩
set_option maxHeartbeats 16000000 in
set_option maxRecDepth 20000 in
theorem afy {t b : Int} (aO : 0 ≤ t ∧ t ≤ 255) (aJ : 0 ≤ b ∧ b ≤ 255) (rows : List (List fi)) (Ez : ∀ r ∈ rows,∀ o ∈ r,wv o) (ps : List kO) (O : List (Nat × bl)) (n : Nat) : fv 5 [.agg [.v (.int .u8 t),.v (.int .u8 b)],.au 1 2 (rows.map nZ),.au 3 2 (ps.map sN)] O n (fun _ r _ _ => r = dH true) := by
 refine afG Tryz.func5 aiR rfl fun J => ?_
 have hid := fE n
 have abT := oY fR
 have pr := age 2 2 rows ps
 cases AX : rF rows ps.length
 case true =>
  rw [AX] at pr
  unfold FO FE;delta ab aR a9 aa aA a6
  have ad := @hid
  refine ae fun bz aK b6 cb => ai fun b7 aG => ?_;refine an ad ?_;refine aG _ (aK (some ([1,2,3],none)) _ (ae fun b8 aQ bt b5 => ae fun b9 bG c7 dF => ai fun cD bZ => ?_));refine aL 2 ad ?_;refine aL 1 ad ?_;refine Or.inl (Or.inl ⟨_,pr,?_⟩);refine aL 3 ad ?_;refine ag 1 ad ?_;refine an ad ?_;refine bZ _ (bG (some ([1,2,3,26],none)) _ (bY (ae fun cv bp cY dk => ai fun cC bD => ?_)));refine aL 1 ad ?_;refine Or.inl (Or.inl ⟨_,Ka,?_⟩);refine an ad ?_;refine bD _ (bp (some ([6],none)) _ (bt _ ?_))
  first | refine gd (aE ad) (aE ad) (aE ad) ?_ | refine gb (aE ad) (aE ad) (aE ad) ?_
  try dsimp only
  rfl
 rw [AX] at pr
 obtain ⟨c7,ani,Ex⟩ := abJ AX
 cases rows with
 | nil =>
  unfold FO FE;delta ab aR a9 aa aA a6
  have ad := @hid
  refine ae fun bz aK b6 cb => ai fun b7 aG => ?_;refine an ad ?_;refine aG _ (aK (some ([1,2,3],none)) _ (ae fun b8 aQ bt b5 => ae fun b9 bG c7 dF => ai fun cD bZ => ?_));refine aL 2 ad ?_;refine aL 1 ad ?_;refine Or.inl (Or.inl ⟨_,pr,?_⟩);refine aL 3 ad ?_;refine ag 1 ad ?_;refine an ad ?_;refine bZ _ (bG (some ([1,2,3,26],none)) _ (bY (ae fun cv bp cY dk => ai fun cC bD => ?_)));refine aL 1 ad ?_;refine Or.inl (Or.inl ⟨_,Ka,?_⟩);refine an ad ?_;refine bD _ (bp (some ([6],none)) _ (bt _ ?_))
  first | refine gd (aE ad) (aE ad) (aE ad) ?_ | refine gb (aE ad) (aE ad) (aE ad) ?_
  try dsimp only
  rfl
 | cons fp rs =>
  have hf := agf (t := t) (b := b) aO aJ
  have aF := aha (t := t) (b := b) aO.1 aJ.1
  have BC := ahb (t := t) (b := b) aO.1
  have wU : 1 ≤ (vR t b).blocks := by show 1 ≤ 1 + b % 64; omega
  have Il : (vR t b).blocks ≤ 64 := by show 1 + b % 64 ≤ 64; omega
  generalize vR t b = l at hf aF BC wU Il
  have vx : ∀ r ∈ fp :: [] :: rs,r.length ≤ 30 ∧ ∀ o ∈ r,wv o := fun r ax => by
   simp only [List.mem_cons] at ax
   rcases ax with rfl | rfl | ax
   ·exact ⟨Ex _ (List.mem_cons_self ..),Ez _ (List.mem_cons_self ..)⟩
   ·exact ⟨Nat.zero_le _,fun o ay => by cases ay⟩
   ·exact ⟨Ex _ (List.mem_cons_of_mem _ ax),Ez _ (List.mem_cons_of_mem _ ax)⟩
  have adN : rs.length ≤ 3 := by simp at c7; omega
  have aex := fun X M => afF aF ⟨BC.1,by omega⟩ (by omega) 0 (fp :: [] :: rs) (fun r ax => ⟨by have := (vx r ax).1; omega,(vx r ax).2⟩) (by simp; omega) X M
  obtain ⟨N,dS,amR,PG⟩ := ld.start aF ⟨BC.1,by omega⟩ (by omega) vx
  have abZ : 1 ≤ (kl l (fp :: [] :: rs)).length := by unfold kl; rw [List.length_map,List.length_take]; simp; omega
  have OX : ∀ X M J r Dq qB,GR l (fp :: [] :: rs) X M J r Dq qB → ∃ w',(ld N l (eg w'.m) w' 1 ∧ (∀ m,jf w' m = false) ∧ w'.tasks.length = (kl l (fp :: [] :: rs)).length) ∧ r = .bR [lI w',dH true] ∧ jw hG w' Dq qB ∧ jQ [] (hP hG w') X M Dq qB := by
   rintro X M J r Dq qB ⟨w',af,aj,aw,aV⟩
   exact ⟨w',PG w' af,aj,aw,aV⟩
  clear PG
  generalize amU : (kl l (fp :: [] :: rs)).length = T at abZ OX
  have anL : (0 : Int) < ((rs.length + 1 : Nat) : Int) := by omega
  have akO : (((rs.length + 1 : Nat) : Int) == 0) = false := by simp; omega
  have akM : 2 + rs.length ≤ 140737488355328 := by omega
  have akN : (2 + rs.length) * 24 ≤ 140737488355328 := by omega
  unfold FO FE;delta ab aR a9 aa aA a6
  have ad := And.intro @hid (And.intro @abT @akO)
  refine ae fun bz aK b6 cb => ai fun b7 aG => ?_;refine an ad ?_;refine aG _ (aK (some ([1,2,3],none)) _ (ae fun b8 aQ bt b5 => ae fun b9 bG c7 dF => ai fun cD bZ => ?_));refine aL 2 ad ?_;refine aL 1 ad ?_;refine Or.inl (Or.inl ⟨_,pr,?_⟩);refine aL 3 ad ?_;refine ag 1 ad ?_;refine an ad ?_;refine bZ _ (bG (some ([1,2,3,26],none)) _ (bB (aQ (some ([1,2,3],none)) _ (ae fun cv bp cY dk => ai fun cC bD => ?_))));refine ag 1 ad ?_;refine ag 1 ad ?_;refine ag 1 ad ?_;refine ag 1 ad ?_;refine aL 1 ad ?_;refine Or.inl (Or.inl ⟨_,hf,?_⟩);refine aU ad ?_;refine bD _ (bp (some ([1,2,7],none)) _ (ae fun _ ck _ _ => ?_));refine sM ([]) (fun done S => o3 T0 done ∧ ∃ x,wy (ahZ n (fp :: rs) ps) (qs l fp rs x) done S.T ∧ mv (fun w => ld N l (eg w.m) w 1 ∧ (∀ m,jf w m = false) ∧ w.tasks.length = T) J n l fp rs x done S) (fun S => ∃ w b c1 bM,S = ⟨[(2,.au 3 2 (ps.map sN)),(7,.ptr (n + 2) 0 0),(8,.ptr b 0 0),(9,dH true)],c1,bM⟩ ∧ uO l w J n b c1 bM ∧ (ld N l (eg w.m) w 1 ∧ (∀ m,jf w m = false) ∧ w.tasks.length = T)) ?_ ?_ ?_ ?_
  ·skip
   refine ⟨sK _,⟨0,0,0,⟨⟨⟨[],[]⟩,⟨[],[],fun _ => none⟩,[],0⟩,[],[]⟩⟩,⟨fun t v h => ?_,fun _ _ _ _ h => by simp at h⟩,⟨by show n + 3 ≤ n + 3; omega,?_,?_,fun h => by simp at h,fun h => by simp at h,fun h => by simp at h,fun h => by simp at h⟩⟩
   ·simp only [al] at h
    simp only [ak.gw,ak.eH,en,al,reduceIte,Nat.reduceEqDiff]
    repeat' split at h
    all_goals first | (rename_i gH; subst gH; exact h) | cases h
   ·exact aE ad
   ·exact aE ad
  ·skip
   intro done S i0 ⟨az,x,e9,bk⟩ ax
   have j9 := tc ax
   have gk := td ax
   have c4 := e9.base 1 _ rfl
   have ZG := e9.base 7 _ rfl
   have cr := fun t j v h aj => e9.jz t j v h aj
   have Bu : ∀ (j : Nat) (yZ : List Nat),T0[j]? = some yZ → yZ.contains i0 = true → done.contains j = false := fun j yZ aF bH => by
    cases aS : done.contains j with
    | false => rfl
    | true => rw [az j yZ aS aF i0 bH] at gk; cases gk
   have eF : i0 = 0 ∨ i0 = 1 ∨ i0 = 2 ∨ i0 = 3 ∨ i0 = 4 ∨ i0 = 5 ∨ i0 = 6 ∨ i0 = 7 ∨ i0 = 8 ∨ i0 = 9 ∨ i0 = 10 ∨ i0 = 11 ∨ i0 = 12 ∨ i0 = 13 ∨ i0 = 14 ∨ i0 = 15 ∨ i0 = 16 := by simp at j9; omega
   rcases eF with rfl | rfl | rfl | rfl | rfl | rfl | rfl | rfl | rfl | rfl | rfl | rfl | rfl | rfl | rfl | rfl | rfl
   ·skip
    have a5 := And.intro ZG bk.bQ
    refine cn rfl fun bo aP => ?_;refine aT a5 ?_;refine bd ?_;refine aP _ ?_
    exact ⟨az.cons ax,x,e9.put (i := 0) (t := 34) (fun _ _ _ h _ _ => h) rfl rfl rfl,bk.pure 0 (by decide) rfl rfl⟩
   ·skip
    refine cn rfl fun bo aP => ?_;refine c5 ?_;refine bd ?_;refine aP _ ?_
    exact ⟨az.cons ax,x,e9.put (i := 1) (t := 35) (fun _ _ _ h _ _ => h) rfl rfl rfl,bk.pure 1 (by decide) rfl rfl⟩
   ·skip
    have a5 := c4
    refine cn rfl fun bo aP => ?_;refine aT a5 ?_;refine aP _ ?_
    exact ⟨az.cons ax,x,e9.put (i := 2) (t := 36) (fun _ _ _ h _ _ => h) rfl rfl rfl,bk.pure 2 (by decide) rfl rfl⟩
   ·skip
    have hw := dg ax rfl
    have a5 := cr 36 2 _ rfl (hw 2 rfl)
    refine cn rfl fun bo aP => ?_;refine aT a5 ?_;refine bd ?_;refine aP _ ?_
    exact ⟨az.cons ax,x,e9.put (i := 3) (t := 37) (fun _ _ _ h _ _ => h) rfl rfl rfl,bk.pure 3 (by decide) rfl rfl⟩
   ·skip
    have hw := dg ax rfl
    have a5 := cr 37 3 _ rfl (hw 3 rfl)
    refine cn rfl fun bo aP => ?_;refine aT a5 ?_;refine bd ?_;refine aP _ ?_
    exact ⟨az.cons ax,x,e9.put (i := 4) (t := 38) (fun _ _ _ h _ _ => h) rfl rfl rfl,bk.pure 4 (by decide) rfl rfl⟩
   ·skip
    have hw := dg ax rfl
    have a5 := cr 38 4 _ rfl (hw 4 rfl)
    refine cn rfl fun bo aP => ?_;refine aT a5 ?_;refine bd ?_;refine aP _ ?_
    exact ⟨az.cons ax,x,e9.put (i := 5) (t := 39) (fun _ _ _ h _ _ => h) rfl rfl rfl,bk.pure 5 (by decide) rfl rfl⟩
   ·skip
    have hw := dg ax rfl
    have a5 := And.intro (cr 35 1 _ rfl (hw 1 rfl)) (cr 39 5 _ rfl (hw 5 rfl))
    have ch := Bu 9 _ rfl rfl
    have n2 : done.contains 10 = false := by
     cases aS : done.contains 10 with
     | false => rfl
     | true => rw [az 10 _ aS rfl 9 rfl] at ch; cases ch
    refine cn rfl fun bo aP => ?_;refine aT a5 ?_;refine bd ?_;refine aP _ ?_
    exact ⟨az.cons ax,⟨S.n,x.ik,x.gn,x.w⟩,e9.put (i := 6) (t := 40) (fun _ _ _ h aM _ => wO aM ((qs l fp rs x).take 6) ((qs l fp rs x).drop 7) h) rfl rfl rfl,bk.E9 ch n2 rfl rfl⟩
   ·skip
    have a5 := c4
    refine cn rfl fun bo aP => ?_;refine aT a5 ?_;refine aP _ ?_
    exact ⟨az.cons ax,x,e9.put (i := 7) (t := 41) (fun _ _ _ h _ _ => h) rfl rfl rfl,bk.pure 7 (by decide) rfl rfl⟩
   ·skip
    have hw := dg ax rfl
    have a5 := cr 41 7 _ rfl (hw 7 rfl)
    refine cn rfl fun bo aP => ?_;refine aT a5 ?_;refine bd ?_;refine aP _ ?_
    exact ⟨az.cons ax,x,e9.put (i := 8) (t := 42) (fun _ _ _ h _ _ => h) rfl rfl rfl,bk.pure 8 (by decide) rfl rfl⟩
   ·skip
    have hw := dg ax rfl
    have n2 := Bu 10 _ rfl rfl
    have a5 := And.intro (cr 40 6 _ rfl (hw 6 rfl)) (And.intro (cr 42 8 _ rfl (hw 8 rfl)) (And.intro (bk.pt (hw 6 rfl) gk).1 (And.intro akM akN)))
    refine cn rfl fun bo aP => ?_;refine aT a5 ?_;refine bd ?_;refine aP _ ?_
    exact ⟨az.cons ax,⟨x.nM,S.n,x.gn,x.w⟩,e9.put (i := 9) (t := 43) (fun _ _ _ h aM _ => wO aM ((qs l fp rs x).take 9) ((qs l fp rs x).drop 10) h) rfl rfl rfl,bk.vN (hw 6 rfl) gk n2 rfl rfl⟩
   ·skip
    have hw := dg ax rfl
    have aa3 := cr 34 0 _ rfl (hw 0 rfl)
    have aa4 := cr 43 9 _ rfl (hw 9 rfl)
    have H4 := Bu 11 _ rfl rfl
    have wP : done.contains 12 = false := by
     cases aS : done.contains 12 with
     | false => rfl
     | true => rw [az 12 _ aS rfl 11 rfl] at H4; cases H4
    have rH := Bu 15 _ rfl rfl
    obtain ⟨Rr,_,ahg,_⟩ := bk.E1 (hw 9 rfl) gk
    have gH : al S.O x.ik = some (.row 22 1 (LS fp rs)) := Rr
    refine cn rfl fun bo aP => ?_;refine Or.inr (ia (l := [.agg (fe l),.own x.ik,.v (.slice none 0 0)]) (show fv 22 [.agg (fe l),.own x.ik,.v (.slice none 0 0)] _ _ _ from J5 (l0 := [.agg (fe l)]) (l1 := [.v (.slice none 0 0)]) ahg Rr (afz (fun H E vs bj => KB (fun u => ahm) [.agg (fe l)] bj) (aex _ _))) (by simp only [ak.kj,ak.bf,aa3,aa4,ak.res,gH,Option.map_some,Option.bind_some]; rfl) fun tp ik jv jJ mC => ?_)
    obtain ⟨fh,jB,rfl,kV,jV⟩ := OX _ _ _ _ _ _ mC
    refine aP _ ?_;refine ⟨az.cons ax,⟨x.nM,x.ik,x.gn,fh⟩,e9.put (i := 10) (t := 44) (fun u j v h aM aX => ?_) rfl rfl rfl,bk.afq (hw 9 rfl) gk rH jB kV jV rfl rfl⟩
    have aem : j ≠ 11 := fun e => by subst e; rw [H4] at aX; cases aX
    have aen : j ≠ 12 := fun e => by subst e; rw [wP] at aX; cases aX
    exact wO (s := .bR [lI x.w,dH true]) aM ((qs l fp rs x).take 10) ((qs l fp rs x).drop 11) (wO (s := .bR [lI x.w,dH true]) aem ((qs l fp rs ⟨x.nM,x.ik,x.gn,fh⟩).take 11) ((qs l fp rs x).drop 12) (wO (s := lI x.w) aen ((qs l fp rs ⟨x.nM,x.ik,x.gn,fh⟩).take 12) ((qs l fp rs x).drop 13) h))
   ·skip
    have hw := dg ax rfl
    have a5 := cr 44 10 _ rfl (hw 10 rfl)
    refine cn rfl fun bo aP => ?_;refine aT a5 ?_;refine aP _ ?_
    exact ⟨az.cons ax,x,e9.put (i := 11) (t := 33) (fun _ _ _ h _ _ => h) rfl rfl rfl,bk.pure 11 (by decide) rfl rfl⟩
   ·skip
    have hw := dg ax rfl
    have a5 := cr 33 11 _ rfl (hw 11 rfl)
    refine cn rfl fun bo aP => ?_;refine aT a5 ?_;refine aP _ ?_
    exact ⟨az.cons ax,x,e9.put (i := 12) (t := 45) (fun _ _ _ h _ _ => h) rfl rfl rfl,bk.pure 12 (by decide) rfl rfl⟩
   ·skip
    have hw := dg ax rfl
    have a5 := cr 33 11 _ rfl (hw 11 rfl)
    refine cn rfl fun bo aP => ?_;refine aT a5 ?_;refine aP _ ?_
    exact ⟨az.cons ax,x,e9.put (i := 13) (t := 46) (fun _ _ _ h _ _ => h) rfl rfl rfl,bk.pure 13 (by decide) rfl rfl⟩
   ·skip
    have rH := Bu 15 _ rfl rfl
    refine cn rfl fun bo aP => ?_;refine c5 ?_;refine aP _ ?_
    exact ⟨az.cons ax,⟨x.nM,x.ik,S.n,x.w⟩,e9.put (i := 14) (t := 8) (fun _ _ _ h aM _ => wO aM ((qs l fp rs x).take 14) ((qs l fp rs x).drop 15) h) rfl rfl rfl,bk.afr rH rfl rfl⟩
   ·skip
    have hw := dg ax rfl
    have Ps := (bk.s8 (hw 14 rfl)).2.2
    rw [gk,if_neg (by simp)] at Ps
    have a5 := And.intro (cr 8 14 _ rfl (hw 14 rfl)) (And.intro (cr 45 12 _ rfl (hw 12 rfl)) Ps)
    refine cn rfl fun bo aP => ?_;refine aT a5 ?_;refine bd ?_;refine aP _ ?_
    exact ⟨az.cons ax,x,e9.no rfl,bk.afs (hw 9 rfl) (hw 10 rfl) (hw 14 rfl) rfl rfl⟩
   ·skip
    have hw := dg ax rfl
    have a5 := cr 46 13 _ rfl (hw 13 rfl)
    refine cn rfl fun bo aP => ?_;refine aT a5 ?_;refine aP _ ?_
    exact ⟨az.cons ax,x,e9.put (i := 16) (t := 9) (fun _ _ _ h _ _ => h) rfl rfl rfl,bk.pure 16 (by decide) rfl rfl⟩
  ·skip
   rintro done S ⟨gz,x,e9,bk⟩ dM
   have t2 := e9.base 2 _ rfl
   have t7 := e9.base 7 _ rfl
   have t8 := e9.jz 8 14 _ rfl (dM 14 (by decide))
   have t9 := e9.jz 9 16 _ rfl (dM 16 (by decide))
   obtain ⟨cw,c2,eE⟩ := bk.E6 (dM 10 (by decide))
   obtain ⟨d1,d2,d3⟩ := bk.s8 (dM 14 (by decide))
   rw [dM 15 (by decide),if_pos rfl] at d3
   have iY : ∀ e,al (je S.O) e = al S.O e := fun e => me _ _
   refine ⟨some ([2,7,8,9],none),x.w,x.gn,je S.O,S.n,?_,⟨kn c2 (Nat.le_refl _) fun e _ => iY e,(iY _).trans bk.fC,(iY _).trans bk.bQ,(iY _).trans d3,fun e he => ⟨(eE e he).1,(eE e he).2 (dM 14 (by decide))⟩,d1,d2⟩,cw⟩
   show ak.mk (en S.T [2,7,8,9]) _ _ = _
   simp only [ak.eH,en,t2,t7,t8,t9]
  rintro b0 ⟨w0,gn,Wj,pw,rfl,yG,H9,adS,OW⟩
  have ib := yG.c4
  have iH := yG.dm
  have acx := fE pw
  have y4 := c3 (n := pw) (d := n) (by omega)
  have fu := c3 (n := pw) (d := n + 2) (by omega)
  have ag3 := c3 (n := pw) (d := gn) (by omega)
  have Fv := yG.fC
  have cd := yG.bQ
  have ahf := yG.rD
  have akW : ((w0.tasks.length : Int) == 0) = false := by rw [OW]; simp; omega
  have aD := And.intro ad (And.intro @acx (And.intro @y4 (And.intro @fu (And.intro @ag3 (And.intro @Fv (And.intro @cd (And.intro @ahf @akW)))))))
  refine ck (some ([2,7,8,9],none)) _ (ae fun bo cN _ _ => ae fun _ ee _ _ => ai fun _ eU => ?_);refine aL 3 aD ?_;refine ag 2 aD ?_;refine ag 2 aD ?_;refine an aD ?_;refine eU _ (ee (some ([2,7,8,54],none)) _ (bB (cN (some ([2,7,8],none)) _ (ae fun _ eW _ _ => ae fun _ dJ _ _ => ai fun _ dt => ?_))));refine an aD ?_;refine dt _ (dJ (some ([2,7,8,10],none)) _ (cx fun _ _ ad1 _ _ => ?_));refine jS (US N T l ps J n gn) (ps.length) (some ([2,7,8,10],none)) ([]) ?_ ?_
  ·try refine eC ?_
   refine ⟨0,w0,_,Wj,pw,by omega,rfl,H9,adS 0,OW,yG,rfl⟩
  ·intro k b0 aY
   obtain ⟨i,w,f0,c1,bM,aq,rfl,qS,ie,eP,fD,rfl⟩ := aY
   have ib := fD.c4
   have iH := fD.dm
   have iP := fE bM
   have d0 := c3 (n := bM) (d := n) (by omega)
   have d2 := c3 (n := bM) (d := n + 2) (by omega)
   have Ag := c3 (n := bM) (d := gn) (by omega)
   have BX := BY (a := n) (b := gn) (by omega)
   have vO := BY (a := n + 2) (b := gn) (by omega)
   have fC := fD.fC
   have bQ := fD.bQ
   have rD := fD.rD
   have mf : ∀ e ∈ hP hG w,n + 3 ≤ e ∧ e ≠ gn ∧ e < bM := fun e he => ⟨(fD.lK e he).1,(fD.lK e he).2,rh fD.own he⟩
   have eF : i = ps.length ∨ ∃ p,i < ps.length ∧ ps[i]? = some p ∧ ((p.kind = 2) ∨ (p.kind = 1 ∧ p.iC = 1) ∨ (p.kind = 1 ∧ p.iC ≠ 1) ∨ (p.kind ≠ 2 ∧ p.kind ≠ 1)) := by
    rcases Nat.lt_or_ge i ps.length with h | h
    ·refine .inr ⟨_,h,List.getElem?_eq_getElem h,?_⟩
     generalize ps[i] = p
     omega
    ·exact .inl (by omega)
   intro _ fy _ qV
   rcases eF with dT | ⟨p,dT,hp,aB | ⟨aB,EE⟩ | ⟨aB,EE⟩ | ⟨aB,p5⟩⟩
   ·skip
    have cE : ¬ (i : Int) < (ps.length : Int) := by omega
    obtain ⟨C,hC⟩ := qS.W
    have qc : 0 < w.tasks.length := by omega
    obtain ⟨y,a1⟩ : ∃ y,w.tasks[0]? = some y := ⟨_,List.getElem?_eq_getElem qc⟩
    obtain ⟨s,ao,ab0⟩ := hC.get a1
    obtain ⟨L,az⟩ := ab0.code
    have JD := agd y az
    have anj := qS.mx y (List.mem_of_getElem? a1) s L az
    have hO : IntKind.i64.wrap (l.blocks + 31) = l.blocks + 31 := by rw [IntKind.wrap_i64]; omega
    have l7 : IntKind.i64.wrap ((l.blocks + 31).tdiv 32) = (((l.blocks.toNat + 31) / 32 : Nat) : Int) := by rw [Int.tdiv_eq_ediv_of_nonneg (by omega),IntKind.wrap_i64]; omega
    have adq : h7 l + 2 = (l.blocks.toNat + 31) / 32 + 3 := by unfold h7; omega
    have jt : IntKind.i64.wrap ((((l.blocks.toNat + 31) / 32 : Nat) : Int) + 3) = ((h7 l + 2 : Nat) : Int) := by rw [adq,IntKind.wrap_i64]; omega
    have qw : IntKind.i64.wrap ((s.ops.length : Int) + 1) = ((s.ops.length + 1 : Nat) : Int) := by rw [IntKind.wrap_i64]; omega
    have yI : (h7 l + 2) * (s.ops.length + 1) ≤ 5 * 31 := Nat.mul_le_mul (by have := afn Il; omega) (by omega)
    have mX : IntKind.i64.wrap (((h7 l + 2 : Nat) : Int) * ((s.ops.length + 1 : Nat) : Int)) = (((h7 l + 2) * (s.ops.length + 1) : Nat) : Int) := by rw [← Int.natCast_mul,IntKind.wrap_i64]; omega
    have OU : (h7 l + 1) * s.ops.length ≤ (h7 l + 2) * (s.ops.length + 1) := Nat.mul_le_mul (by omega) (by omega)
    generalize (h7 l + 2) * (s.ops.length + 1) = M at yI mX OU
    obtain ⟨oE,sR,p0,amL,amM,amN⟩ := qS.alone Il (m := 0) qc ie (n := M) (.inr fun Gg dv du PM O2 => by rw [a1] at PM; cases PM; rw [az] at O2; cases O2; exact OU)
    have aet : ∀ X M2,jw hG w X M2 → fv 26 [lI w,aI 1,aI M] X M2 (Mn w X M2 hG (eT w 1 M,true)) := fun X M2 cU => by
     have := QD (W := hG) w 0 M qS.ok M (.inl (by omega)) (by omega) qc ie X M2 cU
     have cg : kh (eT w (((0 : Nat) : Int) + 1) ((M : Int).toNat)) 0 = false := sR
     rw [cg] at this
     exact this
    have qh : ∀ a Z,(∀ e,e < bM → al Z e = al c1 e) → jw hG w ((bM,a) :: Z) (bM + 1) := fun a Z m8 => kn fD.own (by omega) fun e he => by
     have := mf e he
     simp only [al]; rw [if_neg (by omega)]; exact m8 e this.2.2
    have bm := And.intro aD (And.intro @iP (And.intro @d0 (And.intro @d2 (And.intro @Ag (And.intro @BX (And.intro @vO (And.intro @fC (And.intro @bQ (And.intro @rD (And.intro @cE (And.intro @hO (And.intro @l7 (And.intro @jt (And.intro @qw (And.intro @mX (And.intro @a1 @qc))))))))))))))))
    refine ae fun _ _ _ tU => ae fun _ ic _ _ => ai fun _ hz => ?_;refine aL 3 bm ?_;refine aU bm ?_;refine hz _ (ic (some ([2,7,8,10,58],none)) _ (bB (tU 0 _ (qV 0 _ (ad1 _ (eW (some ([7,8],none)) _ (ae fun _ ix _ _ => ai fun _ ht => ?_)))))));refine ag 2 bm ?_;refine ag 1 bm ?_;refine ag 1 bm ?_;refine aL 1 bm ?_;refine Or.inl (Or.inl ⟨_,JD,?_⟩);refine aL 3 bm ?_;refine ag 2 bm ?_;refine an bm ?_;refine ht _ (ix (some ([7,8,14,15],none)) _ (ae fun _ lS _ _ => ai fun _ hK => ?_));refine ag 2 bm ?_;refine ag 1 bm ?_;refine ag 1 bm ?_;refine ag 1 bm ?_;refine an bm ?_;refine hK _ (lS (some ([8,14,15,16],none)) _ (ae fun _ iX _ _ => ai fun _ gu => ?_));refine ag 1 bm ?_;refine ag 3 bm ?_;refine ag 2 bm ?_;refine ag 1 bm ?_
    refine aL 1 bm ?_;refine Or.inr (ia (aet _ _ (qh _ _ fun e ch => by simp only [bn]; repeat rw [if_neg (by omega)])) (aE bm) (fun alg anB alh Qu abX => ?_))
    obtain ⟨fh,mP,rfl,kV,jV⟩ := abX
    dsimp only at kV jV mP
    have yN := jV.le
    have ha := jV.at (e := n) (X := .cq J) (by omega) (fun hm => absurd (mf _ hm).1 (by omega)) (aE bm)
    have iQ := fE Qu
    have dn := c3 (n := Qu) (d := n) (by omega)
    have bx := And.intro bm (And.intro @iQ (And.intro @dn @ha))
    refine aL 3 bx ?_;refine ag 2 bx ?_;refine an bx ?_;refine gu _ (iX (some ([15,18],none)) _ (ae fun _ kY _ _ => ai fun _ iU => ?_));refine aL 3 bx ?_;refine aL 2 bx ?_;refine aL 1 bx ?_;refine Or.inl (Or.inl ⟨_,Ka,?_⟩);refine an bx ?_;refine iU _ (kY (some ([6],none)) _ ?_)
    first | refine gd (aE bx) (aE bx) (aE bx) ?_ | refine gb (aE bx) (aE bx) (aE bx) ?_
    try dsimp only
    rfl
   ·skip
    have cE : (i : Int) < (ps.length : Int) := by omega
    have dQ : IntKind.i64.wrap ((i : Int) + 1) = ((i + 1 : Nat) : Int) := by rw [IntKind.wrap_i64]; omega
    have k2 : (p.kind == 2) = true := by simp [aB]
    have bS := And.intro aD (And.intro @iP (And.intro @d0 (And.intro @d2 (And.intro @Ag (And.intro @BX (And.intro @vO (And.intro @fC (And.intro @bQ (And.intro @rD (And.intro @cE (And.intro @dQ (And.intro @dT (And.intro @hp @k2)))))))))))))
    refine ae fun _ mL _ _ => ae fun _ rV _ _ => ai fun _ kb => ?_;refine aL 3 bS ?_;refine aU bS ?_;refine kb _ (rV (some ([2,7,8,10,58],none)) _ (bY (mL (some ([2,7,8,10],none)) _ (ae fun _ nC _ _ => cx fun _ _ ad6 _ _ => ae fun _ kZ _ _ => ai fun _ lR => ?_))));refine ag 3 bS ?_;refine ag 1 bS ?_;refine aU bS ?_;refine lR _ (kZ (some ([2,7,8,10,11],none)) _ (ae fun _ _ _ aci => ae fun _ oM _ _ => ai fun _ mH => ?_));refine ag 2 bS ?_;refine ag 1 bS ?_;refine ag 3 bS ?_;refine ag 1 bS ?_;refine ag 3 bS ?_;refine ag 1 bS ?_;refine an bS ?_;refine mH _ (oM (some ([2,7,8,10,11,77],none)) _ (bY (aci 1 _ (ad6 _ (nC (some ([2,7,8,10],none)) _ (ai fun _ oJ => ?_))))));refine ag 2 bS ?_
    refine an bS ?_;refine oJ _ ?_;refine fy (ps.length - (i + 1)) (some ([2,7,8,10],none)) _ ?_ ?_
    all_goals try refine eC ?_
    ·omega
    ·have rI := qS.up
     refine ⟨i + 1,w,f0,_,_,by omega,rfl,rI,ie,eP,⟨kn fD.own (by omega) fun e he => ?_,?_,?_,?_,fD.lK,by omega,by omega⟩,rfl⟩
     ·have := mf e he
      simp only [al,bn]; repeat rw [if_neg (by omega)]
     ·simp only [al,bn]; (repeat rw [if_neg (by omega)]); exact fC
     ·simp only [al,bn]; (repeat rw [if_neg (by omega)]); exact bQ
     ·simp only [al,bn]; (repeat rw [if_neg (by omega)]); exact rD
   ·skip
    have cE : (i : Int) < (ps.length : Int) := by omega
    have dQ : IntKind.i64.wrap ((i : Int) + 1) = ((i + 1 : Nat) : Int) := by rw [IntKind.wrap_i64]; omega
    have k2 : (p.kind == 2) = false := by simp [aB]
    have cy : (p.kind == 1) = true := by simp [aB]
    have nb : (p.iC == 1) = true := by simp [EE]
    have eb := And.intro aD (And.intro @iP (And.intro @d0 (And.intro @d2 (And.intro @Ag (And.intro @BX (And.intro @vO (And.intro @fC (And.intro @bQ (And.intro @rD (And.intro @cE (And.intro @dQ (And.intro @dT (And.intro @hp (And.intro @k2 (And.intro @cy @nb)))))))))))))))
    refine ae fun _ I1 _ _ => ae fun _ rY _ _ => ai fun _ mI => ?_;refine aL 3 eb ?_;refine aU eb ?_;refine mI _ (rY (some ([2,7,8,10,58],none)) _ (bY (I1 (some ([2,7,8,10],none)) _ (ae fun _ w9 _ _ => cx fun _ _ ad7 _ _ => ae fun _ xa _ _ => ai fun _ p6 => ?_))));refine ag 3 eb ?_;refine ag 1 eb ?_;refine aU eb ?_;refine p6 _ (xa (some ([2,7,8,10,11],none)) _ (ae fun _ _ _ acj => ae fun _ xb _ _ => ai fun _ p7 => ?_));refine ag 2 eb ?_;refine ag 1 eb ?_;refine ag 3 eb ?_;refine ag 1 eb ?_;refine ag 3 eb ?_;refine ag 1 eb ?_;refine an eb ?_;refine p7 _ (xb (some ([2,7,8,10,11,77],none)) _ (bY (acj 1 _ (ad7 _ (w9 (some ([2,7,8,10],none)) _ (ai fun _ rP => ?_))))));refine ag 2 eb ?_
    refine an eb ?_;refine rP _ ?_;refine fy (ps.length - (i + 1)) (some ([2,7,8,10],none)) _ ?_ ?_
    all_goals try refine eC ?_
    ·omega
    ·have rI := qS.up
     refine ⟨i + 1,w,f0,_,_,by omega,rfl,rI,ie,eP,⟨kn fD.own (by omega) fun e he => ?_,?_,?_,?_,fD.lK,by omega,by omega⟩,rfl⟩
     ·have := mf e he
      simp only [al,bn]; repeat rw [if_neg (by omega)]
     ·simp only [al,bn]; (repeat rw [if_neg (by omega)]); exact fC
     ·simp only [al,bn]; (repeat rw [if_neg (by omega)]); exact bQ
     ·simp only [al,bn]; (repeat rw [if_neg (by omega)]); exact rD
   ·skip
    have cE : (i : Int) < (ps.length : Int) := by omega
    have dQ : IntKind.i64.wrap ((i : Int) + 1) = ((i + 1 : Nat) : Int) := by rw [IntKind.wrap_i64]; omega
    have k2 : (p.kind == 2) = false := by simp [aB]
    have cy : (p.kind == 1) = true := by simp [aB]
    have nb : (p.iC == 1) = false := by simpa using EE
    have s6 := fun X M cU => Fe (W := hG) w p qS.ok (by omega) X M cU
    have qh : ∀ a Z,(∀ e,e < bM → al Z e = al c1 e) → jw hG w ((bM,a) :: Z) (bM + 1) := fun a Z m8 => kn fD.own (by omega) fun e he => by
     have := mf e he
     simp only [al]; rw [if_neg (by omega)]; exact m8 e this.2.2
    obtain ⟨rI,Be⟩ := qS.step p (by omega)
    have vy := T3 qS p (by omega) 0 ie (fun _ => by simpa using EE)
    have di := And.intro aD (And.intro @iP (And.intro @d0 (And.intro @d2 (And.intro @Ag (And.intro @BX (And.intro @vO (And.intro @fC (And.intro @bQ (And.intro @rD (And.intro @cE (And.intro @dQ (And.intro @dT (And.intro @hp (And.intro @k2 (And.intro @cy @nb)))))))))))))))
    refine ae fun _ xc _ _ => ae fun _ I2 _ _ => ai fun _ rR => ?_;refine aL 3 di ?_;refine aU di ?_;refine rR _ (I2 (some ([2,7,8,10,58],none)) _ (bY (xc (some ([2,7,8,10],none)) _ (ae fun _ ud _ _ => cx fun _ Bn _ _ _ => ae fun _ ac0 _ _ => ai fun _ tZ => ?_))));refine ag 3 di ?_;refine ag 1 di ?_;refine aU di ?_;refine tZ _ (ac0 (some ([2,7,8,10,11],none)) _ (ae fun _ Bo _ _ => ae fun _ xe _ _ => ai fun _ rT => ?_));refine ag 2 di ?_;refine ag 1 di ?_;refine ag 3 di ?_;refine ag 1 di ?_;refine ag 3 di ?_;refine ag 1 di ?_;refine an di ?_;refine rT _ (xe (some ([2,7,8,10,11,77],none)) _ (bB (Bo (some ([2,7,8,10,11],none)) _ (ae fun _ Bp _ _ => ai fun _ w2 => ?_))));refine ag 1 di ?_
    refine ag 1 di ?_;refine aL 1 di ?_;refine Or.inr (ia (s6 _ _ (qh _ _ fun e ch => by simp only [bn]; repeat rw [if_neg (by omega)])) (aE di) (fun Vu ahr Wt se Ig => ?_))
    obtain ⟨fh,mP,rfl,kV,jV,_⟩ := Ig
    dsimp only at kV jV mP
    have yN := jV.le
    have ha := jV.at (e := n) (X := .cq J) (by omega) (fun hm => absurd (mf _ hm).1 (by omega)) (aE di)
    have dm := jV.at (e := n + 2) (X := .box 25 (fe l)) (by omega) (fun hm => absurd (mf _ hm).1 (by omega)) (aE di)
    have ev := jV.at (e := gn) (X := .box 63 (sG w)) (by omega) (fun hm => (mf _ hm).2.1 rfl) (aE di)
    have iQ := fE se
    have dn := c3 (n := se) (d := n) (by omega)
    have c2 := c3 (n := se) (d := n + 2) (by omega)
    have Hf := c3 (n := se) (d := gn) (by omega)
    have rI := rI.fL mP
    have Jo : jf fh 0 = false := by rw [Cv mP]; exact vy
    have Ih : fh.tasks.length = T := by rw [qO mP,Be,eP]
    have gF := And.intro di (And.intro @iQ (And.intro @dn (And.intro @c2 (And.intro @Hf (And.intro @ha (And.intro @dm @ev))))))
    refine aL 3 gF ?_;refine ag 2 gF ?_;refine an gF ?_;refine w2 _ (Bp (some ([2,7,8,10,12],none)) _ (ai fun _ A4 => ?_));refine ag 1 gF ?_;refine aU gF ?_;refine A4 _ (Bn _ (ud (some ([2,7,8,10],none)) _ (ai fun _ w3 => ?_)));refine ag 2 gF ?_;refine an gF ?_;refine w3 _ ?_;refine fy (ps.length - (i + 1)) (some ([2,7,8,10],none)) _ ?_ ?_
    all_goals try refine eC ?_
    ·omega
    ·have qg : ∀ e ∈ hP hG fh,n + 3 ≤ e ∧ e ≠ gn ∧ e < se ∧ e ≠ bM ∧ e ≠ bM + 1 := fun e he => by
      have aj := rh kV he
      rcases jV.new e he with h | h
      ·have := mf e h; omega
      ·omega
     refine ⟨i + 1,fh,f0,_,_,by omega,rfl,rI,Jo,Ih,⟨kn kV (by omega) fun e he => ?_,?_,?_,?_,fun e he => ?_,by omega,by omega⟩,rfl⟩
     ·have := qg e he
      simp only [al,bn]; repeat rw [if_neg (by omega)]
     ·simp only [al,bn]; (repeat rw [if_neg (by omega)]); exact ha
     ·simp only [al,bn]; (repeat rw [if_neg (by omega)]); exact dm
     ·simp only [al,if_true]
     ·have := qg e he
      exact ⟨this.1,this.2.1⟩
   ·skip
    have cE : (i : Int) < (ps.length : Int) := by omega
    have dQ : IntKind.i64.wrap ((i : Int) + 1) = ((i + 1 : Nat) : Int) := by rw [IntKind.wrap_i64]; omega
    have k2 : (p.kind == 2) = false := by simpa using aB
    have cy : (p.kind == 1) = false := by simpa using p5
    have s6 := fun X M cU => Fe (W := hG) w p qS.ok (by omega) X M cU
    have qh : ∀ a Z,(∀ e,e < bM → al Z e = al c1 e) → jw hG w ((bM,a) :: Z) (bM + 1) := fun a Z m8 => kn fD.own (by omega) fun e he => by
     have := mf e he
     simp only [al]; rw [if_neg (by omega)]; exact m8 e this.2.2
    obtain ⟨rI,Be⟩ := qS.step p aB
    have vy := T3 qS p aB 0 ie (fun h => absurd h p5)
    have a5 := And.intro aD (And.intro @iP (And.intro @d0 (And.intro @d2 (And.intro @Ag (And.intro @BX (And.intro @vO (And.intro @fC (And.intro @bQ (And.intro @rD (And.intro @cE (And.intro @dQ (And.intro @dT (And.intro @hp (And.intro @k2 @cy))))))))))))))
    refine ae fun _ Bq _ _ => ae fun _ I6 _ _ => ai fun _ w4 => ?_;refine aL 3 a5 ?_;refine aU a5 ?_;refine w4 _ (I6 (some ([2,7,8,10,58],none)) _ (bY (Bq (some ([2,7,8,10],none)) _ (ae fun _ Br _ _ => cx fun _ I7 _ _ _ => ae fun _ ac3 _ _ => ai fun _ A6 => ?_))));refine ag 3 a5 ?_;refine ag 1 a5 ?_;refine aU a5 ?_;refine A6 _ (ac3 (some ([2,7,8,10,11],none)) _ (ae fun _ ac5 _ _ => ae fun _ Bs _ _ => ai fun _ A8 => ?_));refine ag 2 a5 ?_;refine ag 1 a5 ?_;refine ag 3 a5 ?_;refine ag 1 a5 ?_;refine ag 3 a5 ?_;refine ag 1 a5 ?_;refine an a5 ?_;refine A8 _ (Bs (some ([2,7,8,10,11,77],none)) _ (bB (ac5 (some ([2,7,8,10,11],none)) _ (ae fun _ I8 _ _ => ai fun _ A9 => ?_))));refine ag 1 a5 ?_
    refine ag 1 a5 ?_;refine aL 1 a5 ?_;refine Or.inr (ia (s6 _ _ (qh _ _ fun e ch => by simp only [bn]; repeat rw [if_neg (by omega)])) (aE a5) (fun Vu ahr Wt se Ig => ?_))
    obtain ⟨fh,mP,rfl,kV,jV,_⟩ := Ig
    dsimp only at kV jV mP
    have yN := jV.le
    have ha := jV.at (e := n) (X := .cq J) (by omega) (fun hm => absurd (mf _ hm).1 (by omega)) (aE a5)
    have dm := jV.at (e := n + 2) (X := .box 25 (fe l)) (by omega) (fun hm => absurd (mf _ hm).1 (by omega)) (aE a5)
    have ev := jV.at (e := gn) (X := .box 63 (sG w)) (by omega) (fun hm => (mf _ hm).2.1 rfl) (aE a5)
    have iQ := fE se
    have dn := c3 (n := se) (d := n) (by omega)
    have c2 := c3 (n := se) (d := n + 2) (by omega)
    have Hf := c3 (n := se) (d := gn) (by omega)
    have rI := rI.fL mP
    have Jo : jf fh 0 = false := by rw [Cv mP]; exact vy
    have Ih : fh.tasks.length = T := by rw [qO mP,Be,eP]
    have rk := And.intro a5 (And.intro @iQ (And.intro @dn (And.intro @c2 (And.intro @Hf (And.intro @ha (And.intro @dm @ev))))))
    refine aL 3 rk ?_;refine ag 2 rk ?_;refine an rk ?_;refine A9 _ (I8 (some ([2,7,8,10,12],none)) _ (ai fun _ IS => ?_));refine ag 1 rk ?_;refine aU rk ?_;refine IS _ (I7 _ (Br (some ([2,7,8,10],none)) _ (ai fun _ Ba => ?_)));refine ag 2 rk ?_;refine an rk ?_;refine Ba _ ?_;refine fy (ps.length - (i + 1)) (some ([2,7,8,10],none)) _ ?_ ?_
    all_goals try refine eC ?_
    ·omega
    ·have qg : ∀ e ∈ hP hG fh,n + 3 ≤ e ∧ e ≠ gn ∧ e < se ∧ e ≠ bM ∧ e ≠ bM + 1 := fun e he => by
      have aj := rh kV he
      rcases jV.new e he with h | h
      ·have := mf e h; omega
      ·omega
     refine ⟨i + 1,fh,f0,_,_,by omega,rfl,rI,Jo,Ih,⟨kn kV (by omega) fun e he => ?_,?_,?_,?_,fun e he => ?_,by omega,by omega⟩,rfl⟩
     ·have := qg e he
      simp only [al,bn]; repeat rw [if_neg (by omega)]
     ·simp only [al,bn]; (repeat rw [if_neg (by omega)]); exact ha
     ·simp only [al,bn]; (repeat rw [if_neg (by omega)]); exact dm
     ·simp only [al,if_true]
     ·have := qg e he
      exact ⟨this.1,this.2.1⟩
theorem afH {t b : Int} (aO : 0 ≤ t ∧ t ≤ 255) (aJ : 0 ≤ b ∧ b ≤ 255) (rows : List (List fi)) (Ez : ∀ r ∈ rows,∀ o ∈ r,wv o) (ps : List kO) : cu 5 [.agg [.v (.int .u8 t),.v (.int .u8 b)],.au 1 2 (rows.map nZ),.au 3 2 (ps.map sN)] (dH true) := Q2 (afy aO aJ rows Ez ps [] 0) rfl
end Go.Proofs.YtkmbcjnaaokilaaGreatDoor
