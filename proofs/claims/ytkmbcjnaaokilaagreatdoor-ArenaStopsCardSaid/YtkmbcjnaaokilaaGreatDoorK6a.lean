/-
  Layer 6 by shadows: the machine, its small functions.
-/
import Derived.Test.YtkmbcjnaaokilaaGreatDoorMK17
import Derived.Test.YtkmbcjnaaokilaaGreatDoorMK25
import Derived.Test.YtkmbcjnaaokilaaGreatDoorMC
namespace Go.Proofs.YtkmbcjnaaokilaaGreatDoor
set_option linter.unusedSimpArgs false
set_option linter.unusedVariables false
open Go.RowKit Go.Maps
theorem aed : (Tryz.prog.info? 3).map (fun i => (i.zero,i.size,i.bytes)) = some (some (.int .i64 0),1,8) := by kernel_rfl
set_option maxRecDepth 100000 in
set_option maxHeartbeats 1000000 in
theorem Rs (g : Nat) (es : List (List av)) (a7 : es.length ≤ 1000000) : ts 71 [.au 1 g es] 3 1 es := by
 intro w H vs ao bj
 obtain ⟨i0,aq,xr,xt,r2⟩ := info_parts aed
 cases bj with
 | cons ar aO =>
  rename_i u lz
  cases aO
  obtain ⟨a,n,c,rfl⟩ : ∃ a n c,u = Value.slice a n c := by cases ar; exact ⟨_,_,_,rfl⟩
  obtain ⟨xs,eJ,fu,fM,Ko,_,k4,hg⟩ := ra ao ar
  subst fu
  clear ar
  have aS := fun w a l c => Lib.run_eql_slice_nil (P := Tryz.prog) w 29 _ a l c 0 0 Tryz.underlying29
  cases a with
  | none =>
   have az := k4 rfl
   have uc : es = [] := List.eq_nil_of_length_eq_zero (by omega)
   subst uc; subst az
   cases eJ
   simp only [List.length_nil]
   go_enter Tryz.func71,Tryz.ntmps71
   go_wp2
   go_ret
   exact ⟨_,[],rfl,Grow.refl ao,by decide,World.ownsRow_nil _ _ _ _,.nil,fun _ => ⟨_,rfl⟩⟩
  | some fr =>
   by_cases bb : es = []
   ·subst bb
    cases eJ
    clear hg
    simp only [List.length_nil]
    go_enter Tryz.func71,Tryz.ntmps71
    go_wp2_with (first
     | (at_builtin; refine Gf rfl _ _ 29 3 i0 rfl Tryz.underlying29 aq _ _ _ rfl rfl ?_)
     | go_in)
    go_ret
    refine ⟨_,[],rfl,(Grow.refl ao).alloc _,by decide,?_,.nil,fun _ => ⟨_,rfl⟩⟩
    exact World.ownsRow_made _ _ 0 (Nat.le_refl _) (by decide) (by simp)
   have sT : ∀ (j : Nat) (u : Value),xs[j]? = some u → (w.alloc (.cells #[] 3)).cell? (fr.add j) = some u := fun j u hu => by
    obtain ⟨cells,t,cS,af,aj,aw⟩ := u4 (hg fr rfl j u hu)
    simp [World.cell?,af,Ed _ _ aj,aw]
   have lX := eJ.length
   have af := eJ.one
   clear hg
   obtain ⟨n,dS⟩ : ∃ n,n = es.length := ⟨_,rfl⟩
   rw [← dS] at lX a7 fM ⊢
   have uQ := Lib.hid dS
   clear dS
   go_enter Tryz.func71,Tryz.ntmps71
   go_wp2_with (first
    | (at_builtin; refine wpList_append_own _ rfl _ _ 29 rfl w.heap.size 3 i0 _ 1 8 Tryz.underlying29 aq xr xt r2 rfl (by decide) (.slice (some ⟨w.heap.size,0,none⟩) 0 0) 0 [] rfl (World.ownsRow_made _ _ 0 (Nat.le_refl _) (by decide) (by simp)) fr n c xs rfl lX sT af (by unfold maxLen; omega) (by omega) (by simp) ?_; intro gY fh jF n6 xg)
    | go_in)
   go_ret
   refine ⟨gY,xs,rfl,?_,by decide,by rw [← uQ.out]; simpa using jF,eJ,fun e => absurd e bb⟩
   exact ((Grow.refl ao).alloc _).grown n6 (fun k aB => by simp [Value.ownBlock] at aB; subst aB; exact ⟨Nat.le_refl _,ao.none (Nat.le_refl _)⟩)
structure e0 where
 mem : c6
 lines : hk
 steps : List Int
 jR : Int
abbrev tI (x : Int) : List av := [aI x]
abbrev Dz (M : e0) : List av := [.au 1 0 (M.mem.places.map rA),.au 1 0 (M.mem.views.map wE),.au 3 0 (M.lines.first.map dj),.au 2 0 (M.lines.eQ.map pb),.mp 3 fun t => (M.lines.asks t).map kR,.au 1 0 (M.steps.map tI),aI M.jR]
abbrev mA (M : e0) : av := .agg (Dz M)
structure dW where
 word : bq
 ok : Bool
abbrev kz (g : dW) : List av := [aI g.word.val,fX g.word.eZ,fX g.word.ref,dH g.ok]
def e4 : dW := ⟨⟨0,0,0⟩,false⟩
def uM : e0 := ⟨⟨[],[]⟩,⟨[],[],fun _ => none⟩,[],0⟩
def j5 (k : Int) (ws : List bq) : e0 × Int :=
 if (gC k ws).2 = 0 then (⟨(gC k ws).1,ql ws,List.replicate k.toNat 0,0⟩,0) else (uM,(gC k ws).2)
theorem BR {k : Int} {ws : List bq} (h : (gC k ws).2 = 0) : 1 ≤ k ∧ k ≤ 8 ∧ 0 < ws.length ∧ ws.length ≤ 4096 ∧ (gC k ws).1 = ⟨ws.map sc,List.replicate k.toNat fun _ => none⟩ := by
 unfold gC at h ⊢
 split at h
 ·cases h
 ·split at h
  ·cases h
  ·split at h
   ·cases h
   ·rename_i af aj aw
    rw [if_neg af,if_neg aj,if_neg aw]
    exact ⟨by omega,by omega,by omega,by omega,rfl⟩
set_option maxHeartbeats 2000000 in
theorem J9 (k : Int) (g : Nat) (ws : List bq) : cu 42 [aI k,.au 3 g (ws.map dj)] (.bR [mA (j5 k ws).1,aI (j5 k ws).2]) := by
 refine df Tryz.func42 ajg rfl ?_
 have dn := agx k g ws
 unfold j5
 by_cases h : (gC k ws).2 = 0
 ·rw [if_pos h]
  obtain ⟨af,aj,aw,aV,e⟩ := BR h
  rw [h] at dn
  have cw := ags g ws aV
  generalize gC k ws = R at dn ⊢
  obtain ⟨q,rfl⟩ := Int.eq_ofNat_of_zero_le (show 0 ≤ k by omega)
  have bL : q ≤ 1000000 := by omega
  have cd : q * 8 ≤ 140737488355328 := by omega
  unfold bJ Ln KV;delta ab aR aa aA
  have ad := And.intro @bL @cd
  refine ae fun bz aK b6 cb => ai fun b7 aG => ?_;refine an ad ?_;refine aG _ (aK (some ([0,1,4],none)) _ (ae fun b8 aQ bt b5 => ai fun b9 bh => ?_));refine aL 2 ad ?_;refine aL 1 ad ?_;refine Or.inl (Or.inl ⟨_,dn,?_⟩);refine ag 5 ad ?_;refine an ad ?_;refine bh _ (aQ (some ([0,1,4,6,7],none)) _ (ae fun cD bT dG eG => ae fun cv bp cY dk => ai fun cC bD => ?_));refine aU ad ?_;refine bD _ (bp (some ([0,1,4,6,7,16],none)) _ (bB (bT (some ([0,1,4,6],none)) _ (ae fun dy ck gV gA => ai fun bo aP => ?_))));refine aL 1 ad ?_;refine aL 1 ad ?_;refine Or.inl (Or.inl ⟨_,cw,?_⟩);refine ag 5 ad ?_;refine an ad ?_;refine aP _ (ck (some ([0,4,6,7,8],none)) _ (ae fun _ ee _ _ => ae fun _ ct _ _ => ai fun _ cG => ?_))
  refine aU ad ?_;refine cG _ (ct (some ([0,4,6,7,8,25],none)) _ (bB (ee (some ([0,4,6,8],none)) _ (ae fun _ dJ _ _ => ?_))));refine hy [] (n := 4) fun _ dt => ?_;refine hv ?_;refine cR 1 ad ?_;refine cR 1 ad ?_;refine pc ad ?_;refine dt _ ?_;refine hx ?_;refine ag 2 ad ?_;refine an ad ?_;refine dJ (some ([4,5],none)) _ ?_;refine jc ad ?_
  simp
 ·rw [if_neg h]
  generalize gC k ws = R at dn h ⊢
  have d : (R.2 != 0) = true := by simpa using h
  unfold bJ Ln KV;delta ab aR aa aA
  have ad := @d
  refine ae fun bz aK b6 cb => ai fun b7 aG => ?_;refine an ad ?_;refine aG _ (aK (some ([0,1,4],none)) _ (ae fun b8 aQ bt b5 => ai fun b9 bh => ?_));refine aL 2 ad ?_;refine aL 1 ad ?_;refine Or.inl (Or.inl ⟨_,dn,?_⟩);refine ag 5 ad ?_;refine an ad ?_;refine bh _ (aQ (some ([0,1,4,6,7],none)) _ (ae fun cD bT dG eG => ae fun cv bp cY dk => ai fun cC bD => ?_));refine aU ad ?_;refine bD _ (bp (some ([0,1,4,6,7,16],none)) _ (bY (ae fun dy ck gV gA => ai fun bo aP => ?_)));refine ag 3 ad ?_;refine an ad ?_;refine aP _ (ck (some ([4,5],none)) _ (dG _ ?_));refine jc ad ?_
  rfl
theorem BZ (M : e0) : cu 47 [mA M] (.bR [aI M.mem.views.length,aI M.mem.places.length]) := by
 refine df Tryz.func47 aji rfl ?_
 unfold bJ SO RJ;delta ab aa aA
 refine ae fun _ aK _ _ => ai fun _ aG => ?_;refine cz ?_;refine aG _ (aK (some ([1],none)) _ (ae fun _ aQ _ _ => ai fun _ bh => ?_));refine cV 2 ?_;refine eu 1 ?_;refine Or.inl (Or.inl ⟨_,agy M.mem,?_⟩);refine cz ?_;refine bh _ (aQ (some ([2,3],none)) _ ?_)
 exact jb
theorem afX (M : e0) (a : Int) {n : Nat} (bk : gg M.mem n) (a7 : n ≤ 100000) : cu 48 [mA M,aI a] (.bR [.agg (dj (iJ M.mem a)),dH (decide (fq M.mem a))]) := by
 refine df Tryz.func48 ajj rfl ?_
 have dn := agv M.mem a bk a7
 generalize iJ M.mem a = w at dn ⊢
 unfold bJ SP RK;delta ab aR aa a6
 refine ae fun _ aK _ _ => ai fun _ aG => ?_;refine cz ?_;refine aG _ (aK (some ([1,2,4],none)) _ (ae fun _ aQ _ _ => ai fun _ bh => ?_));refine cV 2 ?_;refine eu 1 ?_;refine eu 1 ?_;refine Or.inl (Or.inl ⟨_,dn,?_⟩);refine cV 3 ?_;refine cz ?_;refine bh _ (aQ (some ([4,5],none)) _ ?_)
 exact jb
def pE (M : e0) : List bq := (List.range M.mem.places.length).map fun (p : Nat) => iJ M.mem (p : Int)
theorem akT (M : e0) : (pE M).length = M.mem.places.length := by simp [pE]
def WQ (M : e0) (m : Nat) (S : ak) : Prop :=
 ∃ i : Nat,i ≤ M.mem.places.length ∧ m = M.mem.places.length - i ∧ S = ⟨[(1,.ptr 0 0 0),(5,.own 1),(14,aI M.mem.places.length),(15,aI i)],[(0,.box 59 (Dz M)),(1,.row 79 3 (((pE M).take i).map dj))],2⟩
set_option maxHeartbeats 2000000 in
theorem afY (M : e0) {n : Nat} (bk : gg M.mem n) (a7 : n ≤ 100000) : cu 23 [mA M] (.au 3 0 ((pE M).map dj)) := by
 refine df Tryz.func23 ajk rfl ?_
 have fa := bk.pl
 have s4 := akT M
 unfold bJ SQ RL;delta ab aR aa aA
 refine ae fun _ aK _ _ => ai fun _ aG => ?_;refine cz ?_;refine aG _ (aK (some ([1],none)) _ (ae fun _ aQ _ _ => ai fun _ bh => ?_));refine cV 1 ?_;refine eu 1 ?_;refine Or.inl (Or.inl ⟨_,BZ M,?_⟩);refine cz ?_;refine bh _ (aQ (some ([1,4],none)) _ (ae fun _ bT _ _ => ai fun _ de => ?_));refine cz ?_;refine de _ (bT (some ([1,4,5],none)) _ (ae fun _ cp _ _ => ae fun _ ck _ _ => ai fun _ aP => ?_));refine cz ?_;refine aP _ (ck (some ([1,5,14,15],none)) _ (cx fun _ _ EK _ _ => ?_));refine jS (WQ M) (M.mem.places.length) (some ([1,5,14,15],some ([0,1],2))) ([.slot 5 (some 79) 3]) ?_ ?_
 ·try refine eC ?_
  exact ⟨0,by omega,by omega,rfl⟩
 ·intro k b0 aY
  obtain ⟨i,aq,rfl,rfl⟩ := aY
  have eF : i = M.mem.places.length ∨ i < M.mem.places.length := by omega
  intro _ ct _ gU
  rcases eF with dT | dT
  ·skip
   have cE : ¬ (i : Int) < (M.mem.places.length : Int) := by omega
   have dQ : (pE M).take i = pE M := by rw [List.take_of_length_le (by omega)]
   have ad := And.intro @cE @dQ
   refine ae fun _ eW _ _ => ai fun _ ed => ?_;refine aU ad ?_;refine ed _ (eW (some ([1,5,14,15,16],none)) _ (ae fun _ _ _ mF => bB (mF 0 _ (gU 0 _ (EK _ (cp (some ([5],none)) _ (ae fun _ gK _ _ => ai fun _ gq => ?_)))))));refine an ad ?_;refine gq _ (gK (some ([2],none)) _ ?_)
   exact cO ad
  ·skip
   skip
   have cE : (i : Int) < (M.mem.places.length : Int) := by omega
   have dQ : IntKind.i64.wrap ((i : Int) + 1) = ((i + 1 : Nat) : Int) := by rw [IntKind.wrap_i64]; omega
   have cw := afX M (i : Int) bk a7
   have a2 : (pE M)[i]? = some (iJ M.mem (i : Int)) := by simp [pE,dT]
   have a8 : (pE M).take (i + 1) = (pE M).take i ++ [iJ M.mem (i : Int)] := by rw [List.take_add_one,a2]; rfl
   generalize iJ M.mem (i : Int) = w at cw a8
   have gm : ((pE M).take i).length = i := by simp; omega
   have hO : (i + 1) * 16 ≤ 140737488355328 := by omega
   have aD := And.intro @cE (And.intro @dQ (And.intro @gm @hO))
   refine ae fun _ kd _ _ => ai fun _ hs => ?_;refine aU aD ?_;refine hs _ (kd (some ([1,5,14,15,16],none)) _ (ae fun _ h4 _ _ => bY (h4 (some ([1,5,14,15],none)) _ (ae fun _ ix _ _ => cx fun _ h5 _ _ _ => ae fun _ lS _ _ => ai fun _ hK => ?_))));refine an aD ?_;refine hK _ (lS (some ([1,5,6,14,15],none)) _ (ae fun _ iX _ _ => ai fun _ gu => ?_));refine ag 1 aD ?_;refine aL 1 aD ?_;refine aL 1 aD ?_;refine Or.inl (Or.inl ⟨_,cw,?_⟩);refine ag 5 aD ?_;refine an aD ?_;refine gu _ (iX (some ([1,5,7,14,15],none)) _ (ai fun _ iT => ?_));refine ag 2 aD ?_;refine ag 1 aD ?_;refine ag 1 aD ?_;refine an aD ?_;refine iT _ (h5 _ (ix (some ([1,5,14,15],none)) _ (ai fun _ iU => ?_)));refine ag 1 aD ?_;refine an aD ?_
   refine iU _ ?_;refine ct (M.mem.places.length - (i + 1)) (some ([1,5,14,15],some ([0,3],2))) _ ?_ ?_
   all_goals try refine eC ?_
   ·omega
   ·exact ⟨i + 1,by omega,by omega,by rw [a8,List.map_append]; rfl⟩
def tF (op : Int) : Bool := op == 3 || op == 4 || op == 6
theorem afS (a : dB) : cu 89 [.agg (pa a)] (dH (tF a.op)) := by
 refine df Tryz.func89 ajc rfl ?_
 unfold tF
 cases af : a.op == 3
 ·cases aj : a.op == 4
  ·skip
   unfold bJ FP FF;delta ab a9 aa aA a6
   have ad := And.intro @af @aj
   refine ae fun bz aK b6 cb => ai fun b7 aG => ?_;refine an ad ?_;refine aG _ (aK (some ([1],none)) _ (ae fun b8 aQ bt b5 => ai fun b9 bh => ?_));refine ag 2 ad ?_;refine ag 1 ad ?_;refine ag 3 ad ?_;refine ag 1 ad ?_;refine ag 4 ad ?_;refine ag 1 ad ?_;refine an ad ?_;refine bh _ (aQ (some ([2],none)) _ ?_)
   exact cO ad
  ·skip
   unfold bJ FP FF;delta ab a9 aa aA a6
   have ad := And.intro @af @aj
   refine ae fun bz aK b6 cb => ai fun b7 aG => ?_;refine an ad ?_;refine aG _ (aK (some ([1],none)) _ (ae fun b8 aQ bt b5 => ai fun b9 bh => ?_));refine ag 2 ad ?_;refine ag 1 ad ?_;refine ag 3 ad ?_;refine ag 1 ad ?_;refine ag 4 ad ?_;refine ag 1 ad ?_;refine an ad ?_;refine bh _ (aQ (some ([2],none)) _ ?_)
   exact cO ad
 ·skip
  unfold bJ FP FF;delta ab a9 aa aA a6
  have ad := @af
  refine ae fun bz aK b6 cb => ai fun b7 aG => ?_;refine an ad ?_;refine aG _ (aK (some ([1],none)) _ (ae fun b8 aQ bt b5 => ai fun b9 bh => ?_));refine ag 2 ad ?_;refine ag 1 ad ?_;refine ag 3 ad ?_;refine ag 1 ad ?_;refine ag 4 ad ?_;refine ag 1 ad ?_;refine an ad ?_;refine bh _ (aQ (some ([2],none)) _ ?_)
  exact cO ad
def pV (M : e0) (t : Int) (a : dB) : Int :=
 if t < 1 ∨ (M.mem.views.length : Int) < t then 3 else if a.op < 0 ∨ 8 < a.op then 2 else if a.op ≠ 0 ∧ a.op ≠ 8 ∧ (a.place < 0 ∨ (M.mem.places.length : Int) ≤ a.place) then 1 else 0
set_option maxHeartbeats 4000000 in
theorem afT (M : e0) (t : Int) (a : dB) : cu 88 [mA M,aI t,.agg (pa a)] (aI (pV M t a)) := by
 refine df Tryz.func88 ajd rfl ?_
 have dn := BZ M
 obtain ⟨op,a,o,w⟩ := a
 unfold pV
 simp only
 by_cases af : t < 1
 ·rw [if_pos (.inl af)]
  unfold bJ tg te;delta ab a9 aa aA a6
  have ad := @af
  refine ae fun bz aK b6 cb => ai fun b7 aG => ?_;refine an ad ?_;refine aG _ (aK (some ([1,3,5],none)) _ (ae fun b8 aQ bt b5 => ai fun b9 bh => ?_));refine ag 1 ad ?_;refine aL 1 ad ?_;refine Or.inl (Or.inl ⟨_,dn,?_⟩);refine an ad ?_;refine bh _ (aQ (some ([1,5,7,8],none)) _ (ae fun cD bT dG eG => cx fun cv bp lW cY dk => ae fun cC cp ek ft => ai fun dy c0 => ?_));refine ag 2 ad ?_;refine ag 4 ad ?_;refine an ad ?_;refine c0 _ (cp (some ([5,8,14],none)) _ (bY (ae fun bo cN hM gR => ai fun ey cF => ?_)));refine an ad ?_;refine cF _ (cN (some ([6],none)) _ (cY _ (dG _ ?_)))
  exact cO ad
 by_cases aj : (M.mem.views.length : Int) < t
 ·rw [if_pos (.inr aj)]
  unfold bJ tg te;delta ab a9 aa aA a6
  have ad := And.intro @af @aj
  refine ae fun bz aK b6 cb => ai fun b7 aG => ?_;refine an ad ?_;refine aG _ (aK (some ([1,3,5],none)) _ (ae fun b8 aQ bt b5 => ai fun b9 bh => ?_));refine ag 1 ad ?_;refine aL 1 ad ?_;refine Or.inl (Or.inl ⟨_,dn,?_⟩);refine an ad ?_;refine bh _ (aQ (some ([1,5,7,8],none)) _ (ae fun cD bT dG eG => cx fun cv bp lW cY dk => ae fun cC cp ek ft => ai fun dy c0 => ?_));refine ag 2 ad ?_;refine ag 4 ad ?_;refine an ad ?_;refine c0 _ (cp (some ([5,8,14],none)) _ (bY (ae fun bo cN hM gR => ai fun ey cF => ?_)));refine an ad ?_;refine cF _ (cN (some ([6],none)) _ (cY _ (dG _ ?_)))
  exact cO ad
 rw [if_neg (by omega)]
 by_cases aw : op < 0
 ·rw [if_pos (.inl aw)]
  unfold bJ tg te;delta ab a9 aa aA a6
  have ad := And.intro @af (And.intro @aj @aw)
  refine ae fun bz aK b6 cb => ai fun b7 aG => ?_;refine an ad ?_;refine aG _ (aK (some ([1,3,5],none)) _ (ae fun b8 aQ bt b5 => ai fun b9 bh => ?_));refine ag 1 ad ?_;refine aL 1 ad ?_;refine Or.inl (Or.inl ⟨_,dn,?_⟩);refine an ad ?_;refine bh _ (aQ (some ([1,5,7,8],none)) _ (ae fun cD bT dG eG => cx fun cv bp lW cY dk => ae fun cC cp ek ft => ai fun dy c0 => ?_));refine ag 2 ad ?_;refine ag 4 ad ?_;refine an ad ?_;refine c0 _ (cp (some ([5,8,14],none)) _ (bB (ae fun bo cN hM gR => ai fun ey cF => ?_)));refine ag 2 ad ?_;refine ag 1 ad ?_;refine ag 3 ad ?_;refine ag 1 ad ?_;refine an ad ?_;refine cF _ (cN (some ([5,8,22],none)) _ (bY (ae fun fB ct hL gU => ai fun fN cG => ?_)));refine an ad ?_
  refine cG _ (ct (some ([6],none)) _ (cY _ (dG _ ?_)))
  exact cO ad
 by_cases aV : 8 < op
 ·rw [if_pos (.inr aV)]
  unfold bJ tg te;delta ab a9 aa aA a6
  have ad := And.intro @af (And.intro @aj (And.intro @aw @aV))
  refine ae fun bz aK b6 cb => ai fun b7 aG => ?_;refine an ad ?_;refine aG _ (aK (some ([1,3,5],none)) _ (ae fun b8 aQ bt b5 => ai fun b9 bh => ?_));refine ag 1 ad ?_;refine aL 1 ad ?_;refine Or.inl (Or.inl ⟨_,dn,?_⟩);refine an ad ?_;refine bh _ (aQ (some ([1,5,7,8],none)) _ (ae fun cD bT dG eG => cx fun cv bp lW cY dk => ae fun cC cp ek ft => ai fun dy c0 => ?_));refine ag 2 ad ?_;refine ag 4 ad ?_;refine an ad ?_;refine c0 _ (cp (some ([5,8,14],none)) _ (bB (ae fun bo cN hM gR => ai fun ey cF => ?_)));refine ag 2 ad ?_;refine ag 1 ad ?_;refine ag 3 ad ?_;refine ag 1 ad ?_;refine an ad ?_;refine cF _ (cN (some ([5,8,22],none)) _ (bY (ae fun fB ct hL gU => ai fun fN cG => ?_)));refine an ad ?_
  refine cG _ (ct (some ([6],none)) _ (cY _ (dG _ ?_)))
  exact cO ad
 rw [if_neg (by omega)]
 by_cases bF : op = 0
 ·subst bF
  rw [if_neg (by omega)]
  unfold bJ tg te;delta ab a9 aa aA a6
  have ad := And.intro @af @aj
  refine ae fun bz aK b6 cb => ai fun b7 aG => ?_;refine an ad ?_;refine aG _ (aK (some ([1,3,5],none)) _ (ae fun b8 aQ bt b5 => ai fun b9 bh => ?_));refine ag 1 ad ?_;refine aL 1 ad ?_;refine Or.inl (Or.inl ⟨_,dn,?_⟩);refine an ad ?_;refine bh _ (aQ (some ([1,5,7,8],none)) _ (ae fun cD bT dG eG => cx fun cv bp lW cY dk => ae fun cC cp ek ft => ai fun dy c0 => ?_));refine ag 2 ad ?_;refine ag 4 ad ?_;refine an ad ?_;refine c0 _ (cp (some ([5,8,14],none)) _ (bB (ae fun bo cN hM gR => ai fun ey cF => ?_)));refine ag 2 ad ?_;refine ag 1 ad ?_;refine ag 3 ad ?_;refine ag 1 ad ?_;refine an ad ?_;refine cF _ (cN (some ([5,8,22],none)) _ (bB (ae fun fB ct hL gU => ai fun fN cG => ?_)));refine ag 2 ad ?_
  refine ag 1 ad ?_;refine ag 3 ad ?_;refine ag 1 ad ?_;refine ag 4 ad ?_;refine ag 1 ad ?_;refine ag 3 ad ?_;refine ag 2 ad ?_;refine an ad ?_;refine cG _ (ct (some ([31],none)) _ (bB (bp _ (bT (some ([],none)) _ (ae fun gG dJ mN kW => ai fun gZ dt => ?_)))));refine an ad ?_;refine dt _ (dJ (some ([6],none)) _ ?_)
  exact cO ad
 have d5 : (op != 0) = true := by simpa using bF
 by_cases bH : op = 8
 ·subst bH
  rw [if_neg (by omega)]
  unfold bJ tg te;delta ab a9 aa aA a6
  have ad := And.intro @af @aj
  refine ae fun bz aK b6 cb => ai fun b7 aG => ?_;refine an ad ?_;refine aG _ (aK (some ([1,3,5],none)) _ (ae fun b8 aQ bt b5 => ai fun b9 bh => ?_));refine ag 1 ad ?_;refine aL 1 ad ?_;refine Or.inl (Or.inl ⟨_,dn,?_⟩);refine an ad ?_;refine bh _ (aQ (some ([1,5,7,8],none)) _ (ae fun cD bT dG eG => cx fun cv bp lW cY dk => ae fun cC cp ek ft => ai fun dy c0 => ?_));refine ag 2 ad ?_;refine ag 4 ad ?_;refine an ad ?_;refine c0 _ (cp (some ([5,8,14],none)) _ (bB (ae fun bo cN hM gR => ai fun ey cF => ?_)));refine ag 2 ad ?_;refine ag 1 ad ?_;refine ag 3 ad ?_;refine ag 1 ad ?_;refine an ad ?_;refine cF _ (cN (some ([5,8,22],none)) _ (bB (ae fun fB ct hL gU => ai fun fN cG => ?_)));refine ag 2 ad ?_
  refine ag 1 ad ?_;refine ag 3 ad ?_;refine ag 1 ad ?_;refine ag 4 ad ?_;refine ag 1 ad ?_;refine ag 3 ad ?_;refine ag 2 ad ?_;refine an ad ?_;refine cG _ (ct (some ([31],none)) _ (bB (bp _ (bT (some ([],none)) _ (ae fun gG dJ mN kW => ai fun gZ dt => ?_)))));refine an ad ?_;refine dt _ (dJ (some ([6],none)) _ ?_)
  exact cO ad
 have d6 : (op != 8) = true := by simpa using bH
 by_cases cA : a < 0
 ·rw [if_pos ⟨bF,bH,.inl cA⟩]
  unfold bJ tg te;delta ab a9 aa aA a6
  have ad := And.intro @af (And.intro @aj (And.intro @aw (And.intro @aV (And.intro @d5 (And.intro @d6 @cA)))))
  refine ae fun bz aK b6 cb => ai fun b7 aG => ?_;refine an ad ?_;refine aG _ (aK (some ([1,3,5],none)) _ (ae fun b8 aQ bt b5 => ai fun b9 bh => ?_));refine ag 1 ad ?_;refine aL 1 ad ?_;refine Or.inl (Or.inl ⟨_,dn,?_⟩);refine an ad ?_;refine bh _ (aQ (some ([1,5,7,8],none)) _ (ae fun cD bT dG eG => cx fun cv bp lW cY dk => ae fun cC cp ek ft => ai fun dy c0 => ?_));refine ag 2 ad ?_;refine ag 4 ad ?_;refine an ad ?_;refine c0 _ (cp (some ([5,8,14],none)) _ (bB (ae fun bo cN hM gR => ai fun ey cF => ?_)));refine ag 2 ad ?_;refine ag 1 ad ?_;refine ag 3 ad ?_;refine ag 1 ad ?_;refine an ad ?_;refine cF _ (cN (some ([5,8,22],none)) _ (bB (ae fun fB ct hL gU => ai fun fN cG => ?_)));refine ag 2 ad ?_
  refine ag 1 ad ?_;refine ag 3 ad ?_;refine ag 1 ad ?_;refine ag 4 ad ?_;refine ag 1 ad ?_;refine ag 3 ad ?_;refine ag 2 ad ?_;refine an ad ?_;refine cG _ (ct (some ([31],none)) _ (bY (ae fun gG dJ mN kW => ai fun gZ dt => ?_)));refine an ad ?_;refine dt _ (dJ (some ([6],none)) _ (cY _ (dG _ ?_)))
  exact cO ad
 by_cases dY : (M.mem.places.length : Int) ≤ a
 ·rw [if_pos ⟨bF,bH,.inr dY⟩]
  unfold bJ tg te;delta ab a9 aa aA a6
  have ad := And.intro @af (And.intro @aj (And.intro @aw (And.intro @aV (And.intro @d5 (And.intro @d6 (And.intro @cA @dY))))))
  refine ae fun bz aK b6 cb => ai fun b7 aG => ?_;refine an ad ?_;refine aG _ (aK (some ([1,3,5],none)) _ (ae fun b8 aQ bt b5 => ai fun b9 bh => ?_));refine ag 1 ad ?_;refine aL 1 ad ?_;refine Or.inl (Or.inl ⟨_,dn,?_⟩);refine an ad ?_;refine bh _ (aQ (some ([1,5,7,8],none)) _ (ae fun cD bT dG eG => cx fun cv bp lW cY dk => ae fun cC cp ek ft => ai fun dy c0 => ?_));refine ag 2 ad ?_;refine ag 4 ad ?_;refine an ad ?_;refine c0 _ (cp (some ([5,8,14],none)) _ (bB (ae fun bo cN hM gR => ai fun ey cF => ?_)));refine ag 2 ad ?_;refine ag 1 ad ?_;refine ag 3 ad ?_;refine ag 1 ad ?_;refine an ad ?_;refine cF _ (cN (some ([5,8,22],none)) _ (bB (ae fun fB ct hL gU => ai fun fN cG => ?_)));refine ag 2 ad ?_
  refine ag 1 ad ?_;refine ag 3 ad ?_;refine ag 1 ad ?_;refine ag 4 ad ?_;refine ag 1 ad ?_;refine ag 3 ad ?_;refine ag 2 ad ?_;refine an ad ?_;refine cG _ (ct (some ([31],none)) _ (bY (ae fun gG dJ mN kW => ai fun gZ dt => ?_)));refine an ad ?_;refine dt _ (dJ (some ([6],none)) _ (cY _ (dG _ ?_)))
  exact cO ad
 rw [if_neg (by omega)]
 unfold bJ tg te;delta ab a9 aa aA a6
 have ad := And.intro @af (And.intro @aj (And.intro @aw (And.intro @aV (And.intro @d5 (And.intro @d6 (And.intro @cA @dY))))))
 refine ae fun bz aK b6 cb => ai fun b7 aG => ?_;refine an ad ?_;refine aG _ (aK (some ([1,3,5],none)) _ (ae fun b8 aQ bt b5 => ai fun b9 bh => ?_));refine ag 1 ad ?_;refine aL 1 ad ?_;refine Or.inl (Or.inl ⟨_,dn,?_⟩);refine an ad ?_;refine bh _ (aQ (some ([1,5,7,8],none)) _ (ae fun cD bT dG eG => cx fun cv bp lW cY dk => ae fun cC cp ek ft => ai fun dy c0 => ?_));refine ag 2 ad ?_;refine ag 4 ad ?_;refine an ad ?_;refine c0 _ (cp (some ([5,8,14],none)) _ (bB (ae fun bo cN hM gR => ai fun ey cF => ?_)));refine ag 2 ad ?_;refine ag 1 ad ?_;refine ag 3 ad ?_;refine ag 1 ad ?_;refine an ad ?_;refine cF _ (cN (some ([5,8,22],none)) _ (bB (ae fun fB ct hL gU => ai fun fN cG => ?_)));refine ag 2 ad ?_
 refine ag 1 ad ?_;refine ag 3 ad ?_;refine ag 1 ad ?_;refine ag 4 ad ?_;refine ag 1 ad ?_;refine ag 3 ad ?_;refine ag 2 ad ?_;refine an ad ?_;refine cG _ (ct (some ([31],none)) _ (bB (bp _ (bT (some ([],none)) _ (ae fun gG dJ mN kW => ai fun gZ dt => ?_)))));refine an ad ?_;refine dt _ (dJ (some ([6],none)) _ ?_)
 exact cO ad
end Go.Proofs.YtkmbcjnaaokilaaGreatDoor
