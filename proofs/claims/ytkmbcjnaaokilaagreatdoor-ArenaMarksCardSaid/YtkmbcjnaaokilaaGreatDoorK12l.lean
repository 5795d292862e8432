/-
  Layer 12: a code of the arena alone (plain); the law's helper that runs it.
-/
import Derived.Test.YtkmbcjnaaokilaaGreatDoorK12k
import Derived.Test.YtkmbcjnaaokilaaGreatDoorSc12l
namespace Go.Proofs.YtkmbcjnaaokilaaGreatDoor
set_option linter.unusedSimpArgs false
set_option linter.unusedVariables false
open Go.RowKit Go.Maps
theorem bitP_lt {l : LayV} (hl : checkL l = 0) {i : Nat} (hi : (i : Int) < l.blocks) : bitP l i < fromL l 7 := by
 obtain ⟨hr,_⟩ := checkL_zero hl
 have hb := hr.2.2
 have e6 : fromL l 6 = fromL l 5 + longL l 5 := rfl
 have e7 : fromL l 7 = fromL l 6 + longL l 6 := rfl
 have h5 : longL l 5 = 8 := by
  unfold longL
  rw [if_pos ⟨rfl,by show 0 < l.blocks; omega⟩]; rfl
 have h6 := (long_le hr 6).1
 unfold bitP
 omega
structure Sol where
 s : ArM
 a : ActM
 live : Bool
 f : Int → WordV
def told1 (R : ArM × ActM × Bool) (f : Int → WordV) : Sol := ⟨R.1,if R.2.2 = true then zAct else R.2.1,!R.2.2,f⟩
def solo1 (x : Sol) : Sol := told1 (nextA x.s (scGot x.f x.a)) (scSet x.f x.a)
def soloA : Nat → Sol → Sol
 | 0,x => x
 | k + 1,x => if x.live = true then soloA k (solo1 x) else x
def sol0 (s : ArM) (f : Int → WordV) : Sol := told1 (nextA s zGot) f
theorem soloA_done {x : Sol} (h : x.live = false) : ∀ k,soloA k x = x
 | 0 => rfl
 | k + 1 => by unfold soloA; rw [if_neg (by rw [h]; simp)]
theorem said_solo (t : TaskM arC) (s : ArM) (L : ArL) (g : GotV) (f : Int → WordV) : saidM t (arC.next (s,L) g).1 (arC.next (s,L) g).2.1 (arC.next (s,L) g).2.2 = ⟨some ((told1 (nextA s g) f).s,L),(told1 (nextA s g) f).live,(told1 (nextA s g) f).a,t.gots⟩ := by
 show saidM t ((nextA s g).1,L) (nextA s g).2.1 (nextA s g).2.2 = _
 generalize nextA s g = R
 obtain ⟨R1,R2,R3⟩ := R
 cases R3 <;> rfl
structure Solo (N : Nat) (l : LayV) (w : WorldM arC) (n : Nat) (x : Sol) : Prop where
 ok : WorldOk w n
 v : 0 < w.m.mem.views.length
 task : ∃ L gots,w.tasks = [⟨some (x.s,L),x.live,x.a,gots⟩]
 stop : w.stopped = [false]
 pl : w.m.mem.places.length = N
 wd : ∀ q : Int,0 ≤ q → q < N → Wd w.m q = x.f q
 size : fromL l 7 ≤ (N : Int)
 lay : checkL l = 0
 ok1 : okA x.s
 lay1 : layA x.s = l
 ask : x.live = true → AskA l x.a
 fin : x.live = false → finA x.s = true
theorem Solo.acts {N : Nat} {l : LayV} {w : WorldM arC} {n : Nat} {x : Sol} (h : Solo N l w n x) (hl : x.live = true) : ScAct w.m x.a ∧ 0 ≤ x.a.place ∧ x.a.place < N := by
 obtain ⟨h1,i,h2,h3⟩ := h.ask hl
 have a1 := bitP_ge h.lay i
 have a2 := bitP_lt h.lay h2
 have a3 := h.size
 have hp := h.pl
 refine ⟨⟨by omega,?_⟩,by omega,by omega⟩
 unfold PlcB
 omega
theorem Solo.step {N : Nat} {l : LayV} {w : WorldM arC} {n : Nat} {x : Sol} (h : Solo N l w n x) (hl : x.live = true) : (stepM w ⟨0,1,0⟩).2 = true ∧ Solo N l (stepM w ⟨0,1,0⟩).1 (n + 1) (solo1 x) := by
 obtain ⟨L,gots,ht⟩ := h.task
 obtain ⟨ha,hp0,hpN⟩ := h.acts hl
 have hsc : ScW w n := ⟨h.ok,h.v,fun y hy hly => by
  rw [ht,List.mem_singleton] at hy
  subst hy; exact ha⟩
 have htk : takesM w 1 = true := by
  unfold takesM stoppedM liveAt
  rw [ht,h.stop,hl]; rfl
 have hsz := sc_size h.ok ⟨0,1,0⟩ (by decide)
 rcases sc_step hsc ⟨0,1,0⟩ (by decide) with ⟨_,e⟩ | ⟨m,y,_,hm,hy,hly,_,hb,htl,hst,hwd⟩ | ⟨m,y,e,_⟩
 ·have := e rfl
  rw [show (⟨0,1,0⟩ : PickV).thread = 1 from rfl,htk] at this; cases this
 ·have hm0 : m = 0 := by simp only at hm; omega
  subst hm0
  rw [ht] at hy
  cases hy
  have hg : scGot (Wd w.m) x.a = scGot x.f x.a := by unfold scGot; rw [h.wd _ hp0 hpN]
  have hn := nextA_ok h.ok1 (scGot x.f x.a)
  rw [h.lay1] at hn
  refine ⟨hb,stepOk h.ok _,by rw [hsz.1]; exact h.v,⟨L,gots ++ [scGot x.f x.a],?_⟩,by rw [hst,h.stop],by rw [hsz.2.1]; exact h.pl,fun q h0 h1 => ?_,h.size,h.lay,hn.1,hn.2.1,fun hl2 => ?_,fun hl2 => ?_⟩
  ·rw [htl,ht,hg]
   show [giveM _ _] = _
   unfold giveM solo1
   rw [if_pos hl]
   exact congrArg (fun z => [z]) (said_solo _ _ _ _ _)
  ·rw [hwd]
   show scSet _ _ _ = scSet _ _ _
   unfold scSet scHits
   rw [h.wd _ hp0 hpN,h.wd q h0 h1]
  ·have hd : (nextA x.s (scGot x.f x.a)).2.2 = false := by simpa [solo1,told1] using hl2
   show AskA l (if (nextA x.s (scGot x.f x.a)).2.2 = true then _ else _)
   rw [if_neg (by rw [hd]; simp)]
   exact hn.2.2.1 hd
  ·have hd : (nextA x.s (scGot x.f x.a)).2.2 = true := by simpa [solo1,told1] using hl2
   exact hn.2.2.2 hd
 ·cases e
theorem Solo.goes {N : Nat} {l : LayV} : ∀ (k : Nat) {w : WorldM arC} {n : Nat} {x : Sol},Solo N l w n x → ∃ n',n' ≤ n + k ∧ Solo N l (goesM w 1 k) n' (soloA k x)
 | 0,_,n,_,h => ⟨n,by omega,h⟩
 | k + 1,w,n,x,h => by
  by_cases hl : x.live = true
  ·obtain ⟨h1,h2⟩ := h.step hl
   unfold goesM soloA
   rw [if_pos h1,if_pos hl]
   obtain ⟨n',h3,h4⟩ := Solo.goes k h2
   exact ⟨n',by omega,h4⟩
  ·have hl' : x.live = false := by simpa using hl
   rw [soloA_done hl']
   obtain ⟨L,gots,ht⟩ := h.task
   rw [goes_done (m := 0) rfl (by unfold liveAt; rw [ht,hl']; rfl)]
   exact ⟨n,by omega,h⟩
def wordF (ws : List WordV) (q : Int) : WordV := (ws[q.toNat]?).getD zWord
theorem Solo.start {l : LayV} {ws : List WordV} {s : ArM} {L : ArL} (hl : checkL l = 0) (hs : okA s) (hla : layA s = l) (hw : fromL l 7 ≤ (ws.length : Int)) (hn : (mnewM 1 ws).2 = 0) :
  Solo ws.length l ⟨(cnewM 1 ws).1,[startM (C := arC) (s,L)],[false]⟩ 1 (sol0 s (wordF ws)) := by
 obtain ⟨h1,h2,h3⟩ := cnew_sizes hn
 have hnx := nextA_ok hs zGot
 rw [hla] at hnx
 refine ⟨⟨machOk_new 1 ws,by rw [h1]; exact Nat.le_refl 1,rfl,fun t ht => ?_⟩,by rw [h1]; decide,⟨L,[],?_⟩,rfl,h2,fun q h0 h1 => ?_,hw,hl,hnx.1,hnx.2.1,fun hl2 => ?_,fun hl2 => ?_⟩
 ·rw [List.mem_singleton] at ht
  subst ht
  exact startOk (C := arC) (n := 0) (s := (s,L)) hs
 ·exact congrArg (fun z => [z]) (said_solo _ _ _ _ _)
 ·obtain ⟨p,rfl⟩ := Int.eq_ofNat_of_zero_le h0
  have hp : p < ws.length := by omega
  rw [wd_new hn (List.getElem?_eq_getElem hp)]
  show _ = ((ws[(p : Int).toNat]?).getD zWord)
  rw [Int.toNat_natCast,List.getElem?_eq_getElem hp]; rfl
 ·have hd : (nextA s zGot).2.2 = false := by simpa [sol0,told1] using hl2
  show AskA l (if (nextA s zGot).2.2 = true then _ else _)
  rw [if_neg (by rw [hd]; simp)]
  exact hnx.2.2.1 hd
 ·have hd : (nextA s zGot).2.2 = true := by simpa [sol0,told1] using hl2
  exact hnx.2.2.2 hd
def wordsA (N : Nat) (f : Int → WordV) : List WordV := (List.range N).map fun (p : Nat) => f p
theorem Solo.words {N : Nat} {l : LayV} {w : WorldM arC} {n : Nat} {x : Sol} (h : Solo N l w n x) : wordsM w.m = wordsA N x.f := by
 unfold wordsM wordsA
 rw [h.pl]
 refine List.map_congr_left fun p hp => ?_
 have := List.mem_range.1 hp
 exact h.wd p (by omega) (by omega)
def OnePost (ids : List Nat) (O : List (Nat × Ob)) (n : Nat) (ws : List WordV) (R : Int × Int × Bool) (_ : Hp → Env → Prop) (r : Sh) (O' : List (Nat × Ob)) (n' : Nat) : Prop :=
 r = .tup [.sl 3 0 (ws.map eWord),sI R.1,sI R.2.1,sB R.2.2] ∧ n ≤ n' ∧ ∀ e,e < n → e ∉ ids → getA O' e = getA O e
set_option maxHeartbeats 8000000 in
set_option maxRecDepth 20000 in
theorem okO_l12one {l : LayV} (hl : checkL l = 0) (g : Nat) (ws : List WordV) (hw : fromL l 7 ≤ (ws.length : Int)) (hw2 : ws.length ≤ 4096) (s : ArM) (hs : okA s) (hla : layA s = l) (hd : (soloA 100 (sol0 s (wordF ws))).live = false) {L : ArL} (O : List (Nat × Ob)) (n : Nat) (hA : ArO s L O n) :
  OkO 17 [.agg (eLay l),.sl 3 g (ws.map eWord),eAr s L] O n (OnePost [L.i,L.g] O n (wordsA ws.length (soloA 100 (sol0 s (wordF ws))).f) (blockA (soloA 100 (sol0 s (wordF ws))).s)) := by
 refine okO_of_trS Tryz.func17 tr_l12one rfl fun J => ?_
 have hid := oid n
 have hK := shK arC
 have hpA := plainF (plain_eAr s L)
 have hws : 0 < ws.length := by
  obtain ⟨hr,_⟩ := checkL_zero hl
  have h0 : fromL l 7 = fromL l 1 + (longL l 1 + longL l 2 + longL l 3 + longL l 4 + longL l 5 + longL l 6) := by
   show fromL l 1 + longL l 1 + longL l 2 + longL l 3 + longL l 4 + longL l 5 + longL l 6 = _; omega
  have h1 : fromL l 1 = 8 := rfl
  have := (long_le hr 1).1; have := (long_le hr 2).1; have := (long_le hr 3).1; have := (long_le hr 4).1; have := (long_le hr 5).1; have := (long_le hr 6).1
  omega
 have hmn : (mnewM 1 ws).2 = 0 := by
  unfold mnewM
  rw [if_neg (by omega),if_neg (by omega),if_neg (by omega)]
 have k0 := ok_cNew 1 g ws
 obtain ⟨c1,c2,c3⟩ := cnew_sizes hmn
 rw [c3] at k0
 have hS0 := Solo.start (L := L) hl hs hla hw hmn
 obtain ⟨nX,hnX,hSX⟩ := hS0.goes 100
 have hlt : ∀ e ∈ csIds arW [(s,L)],e < n := fun e he => by
  have he : e ∈ [L.i,L.g] := by simpa [csIds,arW] using he
  simp only [List.mem_cons,List.not_mem_nil,or_false] at he
  rcases he with rfl | rfl
  ·exact hA.i
  ·exact hA.g
 have kM := fun X N hX => okO_kMake (W := arW) (cnewM 1 ws).1 0 [(s,L)] (by rw [c1]; decide) (k := 0) (fun p hp => by rw [List.mem_singleton] at hp; subst hp; exact hs) (by decide) (by rw [c1]; exact Nat.le_refl 1) X N hX
 generalize hX : soloA 100 (sol0 s (wordF ws)) = X at hd hSX ⊢
 generalize (cnewM 1 ws).1 = M0 at k0 hS0 hSX kM c1 c2
 have hoX : ∀ a b Z,(∀ e,e < n → getA Z e = getA O e) → CsOwn arW [(s,L)] ((n + 2,a) :: (n + 1,b) :: (n,.gh J) :: Z) (n + 3) := fun a b Z hZ => by
  refine ⟨fun p hp => ?_,fun i j a b hij hi hj => ?_⟩
  ·rw [List.mem_singleton] at hp
   subst hp
   refine ArO.to hA (by omega) ?_ ?_
   ·have := hA.i; simp only [getA]; (repeat rw [if_neg (by omega)]); exact hZ _ this
   ·have := hA.g; simp only [getA]; (repeat rw [if_neg (by omega)]); exact hZ _ this
  ·have h1 := (List.getElem?_eq_some_iff.1 hi).1
   have h2 := (List.getElem?_eq_some_iff.1 hj).1
   simp at h1 h2; omega
 have kA := fun (w' : WorldM arC) (hw' : fgtW arW w' = fgtW arW ⟨M0,[startM (s,L)],[false]⟩) X N (hX : WOwn arW w' X N) => okO_kAlone (W := arW) w' 0 100 (worldOk_fgt hw'.symm hS0.ok) 100 (.inl (Nat.le_refl _)) (by decide) (by rw [fgtW_len hw']; exact Nat.zero_lt_one) (by rw [stopped_fgt hw']; rfl) X N hX
 have kG := fun (w' : WorldM arC) (hw' : fgtW arW w' = fgtW arW ⟨M0,[startM (s,L)],[false]⟩) => goes_fgt (W := arW) 1 100 hw'
 unfold sc_l12one rv_l12one
 have F1 := And.intro @hid (And.intro @hK @hpA)
 refine eS fun _ hn1 _ _ => ?_;refine eO fun _ hk2 => ?_;refine tL F1 ?_;refine hk2 _ ?_;refine hn1 (some ([1,2],none)) _ ?_;refine eS fun _ hn3 _ _ => ?_;refine eO fun _ hk4 => ?_;refine tS 1 F1 ?_;refine tS 1 F1 ?_;refine Or.inl (Or.inl ⟨_,k0,?_⟩);refine tC 5 F1 ?_;refine tL F1 ?_;refine hk4 _ ?_;refine hn3 (some ([1,2,10,11],none)) _ ?_;refine eS fun _ hn5 _ _ => ?_;refine eO fun _ hk6 => ?_;refine tC 1 F1 ?_;refine tC 2 F1 ?_;refine tS 1 F1 ?_;refine Or.inr (evCallO_mk (kM _ _ (hoX _ _ _ fun e he => by rw [getA_delO,if_neg (by omega)])) (sgE1 F1) (fun Jo1 ro1 Oo1 no1 hPo1 => ?_))
 obtain ⟨w1,hw1,rfl,hO1,hF1⟩ := hPo1
 dsimp only at hO1 hF1
 have hle1 := hF1.le
 have g0 := hF1.at (e := n) (X := .gh J) (by omega) (fun hm => absurd (hlt _ hm) (by omega)) (sgE1 F1)
 have hid1 := oid no1
 have d0 := odl (n := no1) (d := n) (by omega)
 have kA1 := kA w1 hw1
 have hlt1 : ∀ e ∈ wIds arW w1,(e < n ∨ n + 3 < e) ∧ e < no1 := fun e he => by
  refine ⟨?_,wOwn_lt hO1 he⟩
  rcases hF1.new e he with h | h
  ·exact .inl (hlt e h)
  ·exact .inr h
 have hoY : ∀ a Z,(∀ e,e < no1 → e ≠ n + 3 → getA Z e = getA Oo1 e) → WOwn arW w1 ((no1,a) :: Z) (no1 + 1) := fun a Z hZ => wOwn_to hO1 (by omega) fun e he => by
  obtain ⟨h1,h2⟩ := hlt1 e he
  simp only [getA]
  rw [if_neg (by omega)]
  exact hZ e h2 (by omega)
 have F2 := And.intro F1 (And.intro @hid1 (And.intro @d0 @g0))
 refine tC 5 F2 ?_;refine tL F2 ?_;refine hk6 _ ?_;refine hn5 (some ([1,11,12,13],none)) _ ?_;refine eS fun _ hn7 _ _ => ?_;refine eO fun _ hk8 => ?_;refine tC 1 F2 ?_;refine tS 1 F2 ?_;refine Or.inr (evCallO_mk (kA1 _ _ (hoY _ _ fun e h1 h2 => by simp only [getA_delO]; repeat rw [if_neg (by omega)])) (sgE1 F2) (fun Jo2 ro2 Oo2 no2 hPo2 => ?_))
 obtain ⟨w2,hw2,rfl,hO2,hF2⟩ := hPo2
 dsimp only at hO2 hF2 hw2
 have hle2 := hF2.le
 have hE : fgtW arW w2 = fgtW arW (goesM ⟨M0,[startM (s,L)],[false]⟩ 1 100) := hw2.trans (kG w1 hw1)
 obtain ⟨L3,gots,hT⟩ := hSX.task
 have hlen2 : w2.tasks.length = 1 := by rw [fgtW_len hE,hT]; rfl
 have hb : (!(liveAt (goesM w1 (((0 : Nat) : Int) + 1) (100 : Int).toNat) 0)) = true := by
  have h1 := live_fgt (kG w1 hw1) 0
  have h2 : liveAt (goesM (C := arC) ⟨M0,[startM (s,L)],[false]⟩ 1 100) 0 = false := by
   unfold liveAt
   rw [hT]
   exact hd
  rw [h2] at h1
  show (!(liveAt (goesM w1 1 100) 0)) = true
  rw [h1]; rfl
 rw [hb]
 obtain ⟨y2,hy2,hf2⟩ := fgtW_get (i := 0) hE.symm (by rw [hT]; rfl)
 obtain ⟨e1,_,_,_⟩ := fgtT_eq hf2
 obtain ⟨⟨s2,L2⟩,hc2⟩ : ∃ p,y2.code = some p := by
  cases hq : y2.code with
  | none => rw [hq] at e1; cases e1
  | some p => exact ⟨p,rfl⟩
 rw [hc2] at e1
 have e2 : s2 = X.s := (congrArg Prod.fst (Option.some.inj e1)).symm
 subst e2
 have hpl2 : Plain L2.nx := (hO2.own y2 (List.mem_of_getElem? hy2) _ hc2).pl
 have kC : Ok 45 [.agg (eTask y2)] (eAr X.s L2) := by have := ok_kCode y2; rw [hc2] at this; exact this
 have kB := ok_arBlock X.s hpl2
 have hm2 : w2.m = (goesM (C := arC) ⟨M0,[startM (s,L)],[false]⟩ 1 100).m := (fgtW_eq hE).1
 have kW : Ok 23 [eMach w2.m] (.sl 3 0 ((wordsA ws.length X.f).map eWord)) := by
  rw [hm2,← hSX.words]
  exact ok_cWords _ hSX.ok.mach.mem (by omega)
 have v1 : ((w2.tasks.length : Int) != 1) = false := by rw [hlen2]; rfl
 have g0' := hF2.at (e := n) (X := .gh J) (by omega) (fun hm => by rcases hlt1 _ hm with ⟨h | h,_⟩ <;> omega) (sgE1 F2)
 have hid2 := oid no2
 have c0 := odl (n := no2) (d := n) (by omega)
 have c1 := odl (n := no2) (d := no1) (by omega)
 have hpB := plainF (plain_eAr X.s L2)
 have F3 := And.intro F2 (And.intro @hid2 (And.intro @c0 (And.intro @c1 (And.intro @hpB (And.intro @g0' (And.intro @hy2 @v1))))))
 refine tC 5 F3 ?_;refine tL F3 ?_;refine hk8 _ ?_;refine hn7 (some ([1,11,13,14,15],none)) _ ?_;refine eS fun _ hn9 _ _ => ?_;refine eS fun _ hn10 _ _ => ?_;refine eO fun _ hk11 => ?_;refine tC 2 F3 ?_;refine tC 3 F3 ?_;refine tC 8 F3 ?_;refine tC 2 F3 ?_;refine tL F3 ?_;refine hk11 _ ?_;refine hn10 (some ([1,14,51],none)) _ ?_;refine eCf ?_;refine hn9 (some ([14],none)) _ ?_;refine eS fun _ hn12 _ _ => ?_;refine eO fun _ hk13 => ?_;refine tC 2 F3 ?_;refine tC 1 F3 ?_;refine tC 1 F3 ?_;refine tS 1 F3 ?_;refine Or.inl (Or.inl ⟨_,kC,?_⟩);refine tS 1 F3 ?_;refine Or.inl (Or.inl ⟨_,kB,?_⟩);refine tL F3 ?_;refine hk13 _ ?_;refine hn12 (some ([14,16,17,18],none)) _ ?_;refine eS fun _ hn14 _ _ => ?_;refine eO fun _ hk15 => ?_;refine tC 2 F3 ?_;refine tS 1 F3 ?_;refine Or.inl (Or.inl ⟨_,kW,?_⟩);refine tL F3 ?_;refine hk15 _ ?_;refine hn14 (some ([6,7,8,9],none)) _ ?_
 first | refine finO_ret (sgE1 F3) (sgE1 F3) (sgE1 F3) ?_ | refine finO_next (sgE1 F3) (sgE1 F3) (sgE1 F3) ?_
 try dsimp only
 refine ⟨rfl,by omega,fun e he hx => ?_⟩
 have hx1 : e ∉ wIds arW w1 := fun hm => by
  rcases hF1.new e hm with h | h
  ·exact hx (by simpa [csIds,arW] using h)
  ·omega
 have hx0 : e ∉ csIds arW [(s,L)] := fun hm => hx (by simpa [csIds,arW] using hm)
 simp only [getA,getA_delO]; repeat rw [if_neg (by omega)]
 rw [hF2.old e (by omega) hx1]
 simp only [getA,getA_delO]; repeat rw [if_neg (by omega)]
 rw [hF1.old e (by omega) hx0]
 simp only [getA,getA_delO]; repeat rw [if_neg (by omega)]
end Go.Proofs.YtkmbcjnaaokilaaGreatDoor
