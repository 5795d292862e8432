/-
  Layer 12: a code of the arena alone (plain); the law's helper that runs it.
-/
import Derived.Test.YtkmbcjnaaokilaaGreatDoorMK23
namespace Go.Proofs.YtkmbcjnaaokilaaGreatDoor
set_option linter.unusedSimpArgs false
set_option linter.unusedVariables false
open Go.RowKit Go.Maps
theorem tB {l : cc} (aF : fj l = 0) {i : Nat} (aq : (i : Int) < l.blocks) : bA l i < dp l 7 := by
 obtain ⟨ax,_⟩ := ku aF
 have aJ := ax.2.2
 have lH : dp l 6 = dp l 5 + e2 l 5 := rfl
 have nY : dp l 7 = dp l 6 + e2 l 6 := rfl
 have bF : e2 l 5 = 8 := by
  unfold e2
  rw [if_pos ⟨rfl,by show 0 < l.blocks; omega⟩]; rfl
 have bH := (lo ax 6).1
 unfold bA
 omega
structure nU where
 s : e5
 a : dB
 live : Bool
 f : Int → bq
def km (R : e5 × dB × Bool) (f : Int → bq) : nU := ⟨R.1,if R.2.2 = true then hi else R.2.1,!R.2.2,f⟩
def oZ (x : nU) : nU := km (cI x.s (cQ x.f x.a)) (iA x.f x.a)
def jd : Nat → nU → nU
 | 0,x => x
 | k + 1,x => if x.live = true then jd k (oZ x) else x
def nO (s : e5) (f : Int → bq) : nU := km (cI s e4) f
theorem Cu {x : nU} (h : x.live = false) : ∀ k,jd k x = x
 | 0 => rfl
 | k + 1 => by unfold jd; rw [if_neg (by rw [h]; simp)]
theorem SD (t : ds lC) (s : e5) (L : fF) (g : dW) (f : Int → bq) : jr t (lC.next (s,L) g).1 (lC.next (s,L) g).2.1 (lC.next (s,L) g).2.2 = ⟨some ((km (cI s g) f).s,L),(km (cI s g) f).live,(km (cI s g) f).a,t.e8⟩ := by
 show jr t ((cI s g).1,L) (cI s g).2.1 (cI s g).2.2 = _
 generalize cI s g = R
 obtain ⟨la,lb,qD⟩ := R
 cases qD <;> rfl
structure o6 (N : Nat) (l : cc) (w : cM lC) (n : Nat) (x : nU) : Prop where
 ok : jh w n
 v : 0 < w.m.mem.views.length
 task : ∃ L e8,w.tasks = [⟨some (x.s,L),x.live,x.a,e8⟩]
 stop : w.hY = [false]
 pl : w.m.mem.places.length = N
 wd : ∀ q : Int,0 ≤ q → q < N → eg w.m q = x.f q
 size : dp l 7 ≤ (N : Int)
 lay : fj l = 0
 afx : oT x.s
 aeH : ln x.s = l
 ask : x.live = true → sz l x.a
 fin : x.live = false → yz x.s = true
theorem o6.GS {N : Nat} {l : cc} {w : cM lC} {n : Nat} {x : nU} (h : o6 N l w n x) (aF : x.live = true) : GN w.m x.a ∧ 0 ≤ x.a.place ∧ x.a.place < N := by
 obtain ⟨af,i,aj,aw⟩ := h.ask aF
 have bE := qG h.lay i
 have bP := tB h.lay aj
 have cK := h.size
 have hp := h.pl
 refine ⟨⟨by omega,?_⟩,by omega,by omega⟩
 unfold fq
 omega
theorem o6.step {N : Nat} {l : cc} {w : cM lC} {n : Nat} {x : nU} (h : o6 N l w n x) (aF : x.live = true) : (eL w ⟨0,1,0⟩).2 = true ∧ o6 N l (eL w ⟨0,1,0⟩).1 (n + 1) (oZ x) := by
 obtain ⟨L,e8,aO⟩ := h.task
 obtain ⟨aZ,Es,Py⟩ := h.GS aF
 have EA : GO w n := ⟨h.ok,h.v,fun y a1 acX => by
  rw [aO,List.mem_singleton] at a1
  subst a1; exact aZ⟩
 have vB : kJ w 1 = true := by
  unfold kJ jf kh
  rw [aO,h.stop,aF]; rfl
 have g4 := LF h.ok ⟨0,1,0⟩ (by decide)
 rcases TK EA ⟨0,1,0⟩ (by decide) with ⟨_,e⟩ | ⟨m,y,_,hm,a1,acX,_,aJ,PH,ie,EJ⟩ | ⟨m,y,e,_⟩
 ·have := e rfl
  rw [show (⟨0,1,0⟩ : kO).iC = 1 from rfl,vB] at this; cases this
 ·have qc : m = 0 := by simp only at hm; omega
  subst qc
  rw [aO] at a1
  cases a1
  have aH : cQ (eg w.m) x.a = cQ x.f x.a := by unfold cQ; rw [h.wd _ Es Py]
  have a7 := xA h.afx (cQ x.f x.a)
  rw [h.aeH] at a7
  refine ⟨aJ,F3 h.ok _,by rw [g4.1]; exact h.v,⟨L,e8 ++ [cQ x.f x.a],?_⟩,by rw [ie,h.stop],by rw [g4.2.1]; exact h.pl,fun q bb af => ?_,h.size,h.lay,a7.1,a7.2.1,fun kc => ?_,fun kc => ?_⟩
  ·rw [PH,aO,aH]
   show [iO _ _] = _
   unfold iO oZ
   rw [if_pos aF]
   exact congrArg (fun z => [z]) (SD _ _ _ _ _)
  ·rw [EJ]
   show iA _ _ _ = iA _ _ _
   unfold iA uD
   rw [h.wd _ Es Py,h.wd q bb af]
  ·have aX : (cI x.s (cQ x.f x.a)).2.2 = false := by simpa [oZ,km] using kc
   show sz l (if (cI x.s (cQ x.f x.a)).2.2 = true then _ else _)
   rw [if_neg (by rw [aX]; simp)]
   exact a7.2.2.1 aX
  ·have aX : (cI x.s (cQ x.f x.a)).2.2 = true := by simpa [oZ,km] using kc
   exact a7.2.2.2 aX
 ·cases e
theorem o6.goes {N : Nat} {l : cc} : ∀ (k : Nat) {w : cM lC} {n : Nat} {x : nU},o6 N l w n x → ∃ bI,bI ≤ n + k ∧ o6 N l (eT w 1 k) bI (jd k x)
 | 0,_,n,_,h => ⟨n,by omega,h⟩
 | k + 1,w,n,x,h => by
  by_cases aF : x.live = true
  ·obtain ⟨af,aj⟩ := h.step aF
   unfold eT jd
   rw [if_pos af,if_pos aF]
   obtain ⟨bI,aw,aV⟩ := o6.goes k aj
   exact ⟨bI,by omega,aV⟩
  ·have vr : x.live = false := by simpa using aF
   rw [Cu vr]
   obtain ⟨L,e8,aO⟩ := h.task
   rw [Ou (m := 0) rfl (by unfold kh; rw [aO,vr]; rfl)]
   exact ⟨n,by omega,h⟩
def dw (ws : List bq) (q : Int) : bq := (ws[q.toNat]?).getD gv
theorem o6.start {l : cc} {ws : List bq} {s : e5} {L : fF} (aF : fj l = 0) (ao : oT s) (qb : ln s = l) (hw : dp l 7 ≤ (ws.length : Int)) (a7 : (gC 1 ws).2 = 0) :
  o6 ws.length l ⟨(j5 1 ws).1,[nf (C := lC) (s,L)],[false]⟩ 1 (nO s (dw ws)) := by
 obtain ⟨af,aj,aw⟩ := Ae a7
 have k0 := xA ao e4
 rw [qb] at k0
 refine ⟨⟨Qa 1 ws,by rw [af]; exact Nat.le_refl 1,rfl,fun t aO => ?_⟩,by rw [af]; decide,⟨L,[],?_⟩,rfl,aj,fun q bb af => ?_,hw,aF,k0.1,k0.2.1,fun kc => ?_,fun kc => ?_⟩
 ·rw [List.mem_singleton] at aO
  subst aO
  exact T1 (C := lC) (n := 0) (s := (s,L)) ao
 ·exact congrArg (fun z => [z]) (SD _ _ _ _ _)
 ·obtain ⟨p,rfl⟩ := Int.eq_ofNat_of_zero_le bb
  have hp : p < ws.length := by omega
  rw [Uv a7 (List.getElem?_eq_getElem hp)]
  show _ = ((ws[(p : Int).toNat]?).getD gv)
  rw [Int.toNat_natCast,List.getElem?_eq_getElem hp]; rfl
 ·have aX : (cI s e4).2.2 = false := by simpa [nO,km] using kc
  show sz l (if (cI s e4).2.2 = true then _ else _)
  rw [if_neg (by rw [aX]; simp)]
  exact k0.2.2.1 aX
 ·have aX : (cI s e4).2.2 = true := by simpa [nO,km] using kc
  exact k0.2.2.2 aX
def ou (N : Nat) (f : Int → bq) : List bq := (List.range N).map fun (p : Nat) => f p
theorem o6.words {N : Nat} {l : cc} {w : cM lC} {n : Nat} {x : nU} (h : o6 N l w n x) : pE w.m = ou N x.f := by
 unfold pE ou
 rw [h.pl]
 refine List.map_congr_left fun p hp => ?_
 have := List.mem_range.1 hp
 exact h.wd p (by omega) (by omega)
def Ws (ids : List Nat) (O : List (Nat × bl)) (n : Nat) (ws : List bq) (R : Int × Int × Bool) (_ : bg → Env → Prop) (r : av) (O' : List (Nat × bl)) (bI : Nat) : Prop :=
 r = .bR [.au 3 0 (ws.map dj),aI R.1,aI R.2.1,dH R.2.2] ∧ n ≤ bI ∧ ∀ e,e < n → e ∉ ids → al O' e = al O e
set_option maxHeartbeats 8000000 in
set_option maxRecDepth 20000 in
theorem J6 {l : cc} (aF : fj l = 0) (g : Nat) (ws : List bq) (hw : dp l 7 ≤ (ws.length : Int)) (EI : ws.length ≤ 4096) (s : e5) (ao : oT s) (qb : ln s = l) (aX : (jd 100 (nO s (dw ws))).live = false) {L : fF} (O : List (Nat × bl)) (n : Nat) (br : ko s L O n) :
  fv 17 [.agg (fe l),.au 3 g (ws.map dj),jk s L] O n (Ws [L.i,L.g] O n (ou ws.length (jd 100 (nO s (dw ws))).f) (fc (jd 100 (nO s (dw ws))).s)) := by
 refine nJ Tryz.func17 ajR rfl fun J => ?_
 have hid := fE n
 have fU := oY lC
 have adx := gO (jq s L)
 have ann : 0 < ws.length := by
  obtain ⟨ax,_⟩ := ku aF
  have bb : dp l 7 = dp l 1 + (e2 l 1 + e2 l 2 + e2 l 3 + e2 l 4 + e2 l 5 + e2 l 6) := by
   show dp l 1 + e2 l 1 + e2 l 2 + e2 l 3 + e2 l 4 + e2 l 5 + e2 l 6 = _; omega
  have af : dp l 1 = 8 := rfl
  have := (lo ax 1).1; have := (lo ax 2).1; have := (lo ax 3).1; have := (lo ax 4).1; have := (lo ax 5).1; have := (lo ax 6).1
  omega
 have vt : (gC 1 ws).2 = 0 := by
  unfold gC
  rw [if_neg (by omega),if_neg (by omega),if_neg (by omega)]
 have b2 := J9 1 g ws
 obtain ⟨cw,c2,eE⟩ := Ae vt
 rw [eE] at b2
 have n3 := o6.start (L := L) aF ao qb hw vt
 obtain ⟨anu,anb,AJ⟩ := n3.goes 100
 have bN : ∀ e ∈ tG kP [(s,L)],e < n := fun e he => by
  have he : e ∈ [L.i,L.g] := by simpa [tG,kP] using he
  simp only [List.mem_cons,List.not_mem_nil,or_false] at he
  rcases he with rfl | rfl
  ·exact br.i
  ·exact br.g
 have vH := fun X N cU => QE (W := kP) (j5 1 ws).1 0 [(s,L)] (by rw [cw]; decide) (k := 0) (fun p hp => by rw [List.mem_singleton] at hp; subst hp; exact ao) (by decide) (by rw [cw]; exact Nat.le_refl 1) X N cU
 generalize cU : jd 100 (nO s (dw ws)) = X at aX AJ ⊢
 generalize (j5 1 ws).1 = zV at b2 n3 AJ vH cw c2
 have qh : ∀ a b Z,(∀ e,e < n → al Z e = al O e) → Gr kP [(s,L)] ((n + 2,a) :: (n + 1,b) :: (n,.cq J) :: Z) (n + 3) := fun a b Z m8 => by
  refine ⟨fun p hp => ?_,fun i j a b iw aq aM => ?_⟩
  ·rw [List.mem_singleton] at hp
   subst hp
   refine ko.to br (by omega) ?_ ?_
   ·have := br.i; simp only [al]; (repeat rw [if_neg (by omega)]); exact m8 _ this
   ·have := br.g; simp only [al]; (repeat rw [if_neg (by omega)]); exact m8 _ this
  ·have af := (List.getElem?_eq_some_iff.1 aq).1
   have aj := (List.getElem?_eq_some_iff.1 aM).1
   simp at af aj; omega
 have aer := fun (w' : cM lC) (xn : ff kP w' = ff kP ⟨zV,[nf (s,L)],[false]⟩) X N (cU : jw kP w' X N) => QD (W := kP) w' 0 100 (Mg xn.symm n3.ok) 100 (.inl (Nat.le_refl _)) (by decide) (by rw [qO xn]; exact Nat.zero_lt_one) (by rw [Cv xn]; rfl) X N cU
 have pr := fun (w' : cM lC) (xn : ff kP w' = ff kP ⟨zV,[nf (s,L)],[false]⟩) => Ov (W := kP) 1 100 xn
 unfold Te R7;delta ab aR a9 aa aA a6
 have ad := And.intro @hid (And.intro @fU @adx)
 refine ae fun _ aK _ _ => ai fun _ aG => ?_;refine an ad ?_;refine aG _ (aK (some ([1,2],none)) _ (ae fun _ aQ _ _ => ai fun _ bh => ?_));refine aL 1 ad ?_;refine aL 1 ad ?_;refine Or.inl (Or.inl ⟨_,b2,?_⟩);refine ag 5 ad ?_;refine an ad ?_;refine bh _ (aQ (some ([1,2,10,11],none)) _ (ae fun _ bT _ _ => ai fun _ de => ?_));refine ag 1 ad ?_;refine ag 2 ad ?_;refine aL 1 ad ?_;refine Or.inr (ia (vH _ _ (qh _ _ _ fun e he => by rw [bn,if_neg (by omega)])) (aE ad) (fun GB KG Dh mS wQ => ?_))
 obtain ⟨fh,mP,rfl,kV,jV⟩ := wQ
 dsimp only at kV jV
 have yN := jV.le
 have fC := jV.at (e := n) (X := .cq J) (by omega) (fun hm => absurd (bN _ hm) (by omega)) (aE ad)
 have iP := fE mS
 have d0 := c3 (n := mS) (d := n) (by omega)
 have aes := aer fh mP
 have mf : ∀ e ∈ hP kP fh,(e < n ∨ n + 3 < e) ∧ e < mS := fun e he => by
  refine ⟨?_,rh kV he⟩
  rcases jV.new e he with h | h
  ·exact .inl (bN e h)
  ·exact .inr h
 have ads : ∀ a Z,(∀ e,e < mS → e ≠ n + 3 → al Z e = al Dh e) → jw kP fh ((mS,a) :: Z) (mS + 1) := fun a Z m8 => kn kV (by omega) fun e he => by
  obtain ⟨af,aj⟩ := mf e he
  simp only [al]
  rw [if_neg (by omega)]
  exact m8 e aj (by omega)
 have aD := And.intro ad (And.intro @iP (And.intro @d0 @fC))
 refine ag 5 aD ?_;refine an aD ?_;refine de _ (bT (some ([1,11,12,13],none)) _ (ae fun _ cp _ _ => ai fun _ c0 => ?_));refine ag 1 aD ?_;refine aL 1 aD ?_;refine Or.inr (ia (aes _ _ (ads _ _ fun e af aj => by simp only [bn]; repeat rw [if_neg (by omega)])) (aE aD) (fun MD Rq GJ sd AH => ?_))
 obtain ⟨cE,EI,rfl,OV,D6⟩ := AH
 dsimp only at OV D6 EI
 have ub := D6.le
 have bK : ff kP cE = ff kP (eT ⟨zV,[nf (s,L)],[false]⟩ 1 100) := EI.trans (pr fh mP)
 obtain ⟨De,e8,eP⟩ := AJ.task
 have Be : cE.tasks.length = 1 := by rw [qO bK,eP]; rfl
 have aJ : (!(kh (eT fh (((0 : Nat) : Int) + 1) (100 : Int).toNat) 0)) = true := by
  have af := EY (pr fh mP) 0
  have aj : kh (eT (C := lC) ⟨zV,[nf (s,L)],[false]⟩ 1 100) 0 = false := by
   unfold kh
   rw [eP]
   exact aX
  rw [aj] at af
  show (!(kh (eT fh 1 100) 0)) = true
  rw [af]; rfl
 rw [aJ]
 obtain ⟨wg,Ju,wV⟩ := yx (i := 0) bK.symm (by rw [eP]; rfl)
 obtain ⟨a2,_,_,_⟩ := wI wV
 obtain ⟨⟨s2,kr⟩,nx⟩ : ∃ p,wg.code = some p := by
  cases aS : wg.code with
  | none => rw [aS] at a2; cases a2
  | some p => exact ⟨p,rfl⟩
 rw [nx] at a2
 have a8 : s2 = X.s := (congrArg Prod.fst (Option.some.inj a2)).symm
 subst a8
 have adB : Plain kr.er := (OV.own wg (List.mem_of_getElem? Ju) _ nx).pl
 have JD : cu 45 [.agg (gS wg)] (jk X.s kr) := by have := QQ wg; rw [nx] at this; exact this
 have BJ := QG X.s adB
 have w7 : cE.m = (eT (C := lC) ⟨zV,[nf (s,L)],[false]⟩ 1 100).m := (wJ bK).1
 have JF : cu 23 [mA cE.m] (.au 3 0 ((ou ws.length X.f).map dj)) := by
  rw [w7,← AJ.words]
  exact afY _ AJ.ok.q5.mem (by omega)
 have v1 : ((cE.tasks.length : Int) != 1) = false := by rw [Be]; rfl
 have aa2 := D6.at (e := n) (X := .cq J) (by omega) (fun hm => by rcases mf _ hm with ⟨h | h,_⟩ <;> omega) (aE aD)
 have iQ := fE sd
 have dn := c3 (n := sd) (d := n) (by omega)
 have cw := c3 (n := sd) (d := mS) (by omega)
 have ady := gO (jq X.s kr)
 have bm := And.intro aD (And.intro @iQ (And.intro @dn (And.intro @cw (And.intro @ady (And.intro @aa2 (And.intro @Ju @v1))))))
 refine ag 5 bm ?_;refine an bm ?_;refine c0 _ (cp (some ([1,11,13,14,15],none)) _ (ae fun _ cN _ _ => ae fun _ ee _ _ => ai fun _ eU => ?_));refine ag 2 bm ?_;refine ag 3 bm ?_;refine ag 8 bm ?_;refine ag 2 bm ?_;refine an bm ?_;refine eU _ (ee (some ([1,14,51],none)) _ (bB (cN (some ([14],none)) _ (ae fun _ eW _ _ => ai fun _ ed => ?_))));refine ag 2 bm ?_;refine ag 1 bm ?_;refine ag 1 bm ?_;refine aL 1 bm ?_;refine Or.inl (Or.inl ⟨_,JD,?_⟩);refine aL 1 bm ?_;refine Or.inl (Or.inl ⟨_,BJ,?_⟩);refine an bm ?_;refine ed _ (eW (some ([14,16,17,18],none)) _ (ae fun _ fQ _ _ => ai fun _ eB => ?_));refine ag 2 bm ?_;refine aL 1 bm ?_;refine Or.inl (Or.inl ⟨_,JF,?_⟩);refine an bm ?_;refine eB _ (fQ (some ([6,7,8,9],none)) _ ?_)
 first | refine gd (aE bm) (aE bm) (aE bm) ?_ | refine gb (aE bm) (aE bm) (aE bm) ?_
 try dsimp only
 refine ⟨rfl,by omega,fun e he ar => ?_⟩
 have gB : e ∉ hP kP fh := fun hm => by
  rcases jV.new e hm with h | h
  ·exact ar (by simpa [tG,kP] using h)
  ·omega
 have xo : e ∉ tG kP [(s,L)] := fun hm => ar (by simpa [tG,kP] using hm)
 simp only [al,bn]; repeat rw [if_neg (by omega)]
 rw [D6.old e (by omega) gB]
 simp only [al,bn]; repeat rw [if_neg (by omega)]
 rw [jV.old e (by omega) xo]
 simp only [al,bn]; repeat rw [if_neg (by omega)]
end Go.Proofs.YtkmbcjnaaokilaaGreatDoor
