/-
  Layer 6 by shadows: the machine, its small functions.
-/
import Derived.Test.YtkmbcjnaaokilaaGreatDoorMK12
import Derived.Test.YtkmbcjnaaokilaaGreatDoorMK22
import Derived.Test.YtkmbcjnaaokilaaGreatDoorMC
namespace Go.Proofs.YtkmbcjnaaokilaaGreatDoor
set_option linter.unusedSimpArgs false
set_option linter.unusedVariables false
open Go.RowKit Go.Maps
theorem ahG : (Tryz.prog.info? 3).map (fun i => (i.zero,i.size,i.bytes)) = some (some (.int .i64 0),1,8) := by kernel_rfl
set_option maxRecDepth 100000 in
set_option maxHeartbeats 1000000 in
theorem UD (g : Nat) (es : List (List aw)) (a9 : es.length ≤ 1000000) : uJ 71 [.au 1 g es] 3 1 es := by
 intro w H vs ao bj
 obtain ⟨i0,aq,y4,y5,s7⟩ := info_parts ahG
 cases bj with
 | cons ar aL =>
  rename_i u l8
  cases aL
  obtain ⟨a,n,c,rfl⟩ : ∃ a n c,u = Value.slice a n c := by cases ar; exact ⟨_,_,_,rfl⟩
  obtain ⟨xs,eR,fi,fZ,MV,_,jE,gW⟩ := sj ao ar
  subst fi
  clear ar
  have aT := fun w a l c => Lib.run_eql_slice_nil (P := Tryz.prog) w 29 _ a l c 0 0 Tryz.underlying29
  cases a with
  | none =>
   have aB := jE rfl
   have vn : es = [] := List.eq_nil_of_length_eq_zero (by omega)
   subst vn; subst aB
   cases eR
   simp only [List.length_nil]
   go_enter Tryz.func71,Tryz.ntmps71
   go_wp2
   go_ret
   exact ⟨_,[],rfl,Grow.refl ao,by decide,World.ownsRow_nil _ _ _ _,.nil,fun _ => ⟨_,rfl⟩⟩
  | some cm =>
   by_cases ba : es = []
   ·subst ba
    cases eR
    clear gW
    simp only [List.length_nil]
    go_enter Tryz.func71,Tryz.ntmps71
    go_wp2_with (first
     | (at_builtin; refine Ic rfl _ _ 29 3 i0 rfl Tryz.underlying29 aq _ _ _ rfl rfl ?_)
     | go_in)
    go_ret
    refine ⟨_,[],rfl,(Grow.refl ao).alloc _,by decide,?_,.nil,fun _ => ⟨_,rfl⟩⟩
    exact World.ownsRow_made _ _ 0 (Nat.le_refl _) (by decide) (by simp)
   have tV : ∀ (j : Nat) (u : Value),xs[j]? = some u → (w.alloc (.cells #[] 3)).cell? (cm.add j) = some u := fun j u hu => by
    obtain ⟨cells,t,c0,af,aj,av⟩ := wG (gW cm rfl j u hu)
    simp [World.cell?,af,Gl _ _ aj,av]
   have mB := eR.length
   have af := eR.one
   clear gW
   obtain ⟨n,dy⟩ : ∃ n,n = es.length := ⟨_,rfl⟩
   rw [← dy] at mB a9 fZ ⊢
   have rD := Lib.hid dy
   clear dy
   go_enter Tryz.func71,Tryz.ntmps71
   go_wp2_with (first
    | (at_builtin; refine wpList_append_own _ rfl _ _ 29 rfl w.heap.size 3 i0 _ 1 8 Tryz.underlying29 aq y4 y5 s7 rfl (by decide) (.slice (some ⟨w.heap.size,0,none⟩) 0 0) 0 [] rfl (World.ownsRow_made _ _ 0 (Nat.le_refl _) (by decide) (by simp)) cm n c xs rfl mB tV af (by unfold maxLen; omega) (by omega) (by simp) ?_; intro hb fB jc oX yT)
    | go_in)
   go_ret
   refine ⟨hb,xs,rfl,?_,by decide,by rw [← rD.out]; simpa using jc,eR,fun e => absurd e ba⟩
   exact ((Grow.refl ao).alloc _).grown oX (fun k az => by simp [Value.ownBlock] at az; subst az; exact ⟨Nat.le_refl _,ao.none (Nat.le_refl _)⟩)
structure e3 where
 mem : c8
 lines : hz
 steps : List Int
 kc : Int
abbrev u2 (x : Int) : List aw := [aG x]
abbrev Fl (M : e3) : List aw := [.au 1 0 (M.mem.places.map sJ),.au 1 0 (M.mem.views.map yf),.au 3 0 (M.lines.first.map c6),.au 2 0 (M.lines.eX.map qg),.mp 3 fun t => (M.lines.asks t).map lf,.au 1 0 (M.steps.map u2),aG M.kc]
abbrev lS (M : e3) : aw := .agg (Fl M)
structure ei where
 word : bm
 ok : Bool
abbrev kR (g : ei) : List aw := [aG g.word.val,gk g.word.eV,gk g.word.ref,eA g.ok]
def e9 : ei := ⟨⟨0,0,0⟩,false⟩
def v8 : e3 := ⟨⟨[],[]⟩,⟨[],[],fun _ => none⟩,[],0⟩
def ks (k : Int) (ws : List bm) : e3 × Int :=
 if (gI k ws).2 = 0 then (⟨(gI k ws).1,rq ws,List.replicate k.toNat 0,0⟩,0) else (v8,(gI k ws).2)
theorem DF {k : Int} {ws : List bm} (h : (gI k ws).2 = 0) : 1 ≤ k ∧ k ≤ 8 ∧ 0 < ws.length ∧ ws.length ≤ 4096 ∧ (gI k ws).1 = ⟨ws.map th,List.replicate k.toNat fun _ => none⟩ := by
 unfold gI at h ⊢
 split at h
 ·cases h
 ·split at h
  ·cases h
  ·split at h
   ·cases h
   ·rename_i af aj av
    rw [if_neg af,if_neg aj,if_neg av]
    exact ⟨by omega,by omega,by omega,by omega,rfl⟩
set_option maxHeartbeats 2000000 in
theorem MG (k : Int) (g : Nat) (ws : List bm) : cq 42 [aG k,.au 3 g (ws.map c6)] (.bY [lS (ks k ws).1,aG (ks k ws).2]) := by
 refine df Tryz.func42 amT rfl ?_
 have de := aj3 k g ws
 unfold ks
 by_cases h : (gI k ws).2 = 0
 ·rw [if_pos h]
  obtain ⟨af,aj,av,aY,e⟩ := DF h
  rw [h] at de
  have cd := ajY g ws aY
  generalize gI k ws = R at de ⊢
  obtain ⟨q,rfl⟩ := Int.eq_ofNat_of_zero_le (show 0 ≤ k by omega)
  have bJ : q ≤ 1000000 := by omega
  have cf : q * 8 ≤ 140737488355328 := by omega
  unfold bK N1 Nx;delta ab aQ aa ay
  have ad := And.intro @bJ @cf
  refine ae fun bD aK b9 ck => ai fun ca aH => ?_;refine al ad ?_;refine aH _ (aK (some ([0,1,4],none)) _ (ae fun cg aP bx b8 => ai fun ch bk => ?_));refine aM 2 ad ?_;refine aM 1 ad ?_;refine Or.inl (Or.inl ⟨_,de,?_⟩);refine ag 5 ad ?_;refine al ad ?_;refine bk _ (aP (some ([0,1,4,6,7],none)) _ (ae fun cM bV dQ eP => ae fun cG bp c5 dn => ai fun cI bE => ?_));refine aS ad ?_;refine bE _ (bp (some ([0,1,4,6,7,16],none)) _ (bs (bV (some ([0,1,4,6],none)) _ (ae fun dB cv g7 gw => ai fun bz aR => ?_))));refine aM 1 ad ?_;refine aM 1 ad ?_;refine Or.inl (Or.inl ⟨_,cd,?_⟩);refine ag 5 ad ?_;refine al ad ?_;refine aR _ (cv (some ([0,4,6,7,8],none)) _ (ae fun _ eo _ _ => ae fun _ cr _ _ => ai fun _ cD => ?_))
  refine aS ad ?_;refine cD _ (cr (some ([0,4,6,7,8,25],none)) _ (bs (eo (some ([0,4,6,8],none)) _ (ae fun _ dF _ _ => ?_))));refine gh [] (n := 4) fun _ dq => ?_;refine gY ?_;refine cF 1 ad ?_;refine cF 1 ad ?_;refine og ad ?_;refine dq _ ?_;refine gZ ?_;refine ag 2 ad ?_;refine al ad ?_;refine dF (some ([4,5],none)) _ ?_;refine jr ad ?_
  simp
 ·rw [if_neg h]
  generalize gI k ws = R at de h ⊢
  have d : (R.2 != 0) = true := by simpa using h
  unfold bK N1 Nx;delta ab aQ aa ay
  have ad := @d
  refine ae fun bD aK b9 ck => ai fun ca aH => ?_;refine al ad ?_;refine aH _ (aK (some ([0,1,4],none)) _ (ae fun cg aP bx b8 => ai fun ch bk => ?_));refine aM 2 ad ?_;refine aM 1 ad ?_;refine Or.inl (Or.inl ⟨_,de,?_⟩);refine ag 5 ad ?_;refine al ad ?_;refine bk _ (aP (some ([0,1,4,6,7],none)) _ (ae fun cM bV dQ eP => ae fun cG bp c5 dn => ai fun cI bE => ?_));refine aS ad ?_;refine bE _ (bp (some ([0,1,4,6,7,16],none)) _ (bU (ae fun dB cv g7 gw => ai fun bz aR => ?_)));refine ag 3 ad ?_;refine al ad ?_;refine aR _ (cv (some ([4,5],none)) _ (dQ _ ?_));refine jr ad ?_
  rfl
theorem DM (M : e3) : cq 47 [lS M] (.bY [aG M.mem.views.length,aG M.mem.places.length]) := by
 refine df Tryz.func47 amV rfl ?_
 unfold bK V3 UU;delta ab aa ay
 refine ae fun _ aK _ _ => ai fun _ aH => ?_;refine cE ?_;refine aH _ (aK (some ([1],none)) _ (ae fun _ aP _ _ => ai fun _ bk => ?_));refine c4 2 ?_;refine eH 1 ?_;refine Or.inl (Or.inl ⟨_,aj4 M.mem,?_⟩);refine cE ?_;refine bk _ (aP (some ([2,3],none)) _ ?_)
 exact jq
theorem ajv (M : e3) (a : Int) {n : Nat} (bA : gp M.mem n) (a9 : n ≤ 100000) : cq 48 [lS M,aG a] (.bY [.agg (c6 (jd M.mem a)),eA (decide (fC M.mem a))]) := by
 refine df Tryz.func48 amW rfl ?_
 have de := aj1 M.mem a bA a9
 generalize jd M.mem a = w at de ⊢
 unfold bK V4 UW;delta ab aQ aa a3
 refine ae fun _ aK _ _ => ai fun _ aH => ?_;refine cE ?_;refine aH _ (aK (some ([1,2,4],none)) _ (ae fun _ aP _ _ => ai fun _ bk => ?_));refine c4 2 ?_;refine eH 1 ?_;refine eH 1 ?_;refine Or.inl (Or.inl ⟨_,de,?_⟩);refine c4 3 ?_;refine cE ?_;refine bk _ (aP (some ([4,5],none)) _ ?_)
 exact jq
def p5 (M : e3) : List bm := (List.range M.mem.places.length).map fun (p : Nat) => jd M.mem (p : Int)
theorem aoA (M : e3) : (p5 M).length = M.mem.places.length := by simp [p5]
def aaB (M : e3) (m : Nat) (S : ak) : Prop :=
 ∃ i : Nat,i ≤ M.mem.places.length ∧ m = M.mem.places.length - i ∧ S = ⟨[(1,.ptr 0 0 0),(5,.own 1),(14,aG M.mem.places.length),(15,aG i)],[(0,.box 59 (Fl M)),(1,.row 79 3 (((p5 M).take i).map c6))],2⟩
set_option maxHeartbeats 2000000 in
theorem Hh (M : e3) {n : Nat} (bA : gp M.mem n) (a9 : n ≤ 100000) : cq 23 [lS M] (.au 3 0 ((p5 M).map c6)) := by
 refine df Tryz.func23 amX rfl ?_
 have fg := bA.pl
 have ug := aoA M
 unfold bK V5 UX;delta ab aQ aa ay
 refine ae fun _ aK _ _ => ai fun _ aH => ?_;refine cE ?_;refine aH _ (aK (some ([1],none)) _ (ae fun _ aP _ _ => ai fun _ bk => ?_));refine c4 1 ?_;refine eH 1 ?_;refine Or.inl (Or.inl ⟨_,DM M,?_⟩);refine cE ?_;refine bk _ (aP (some ([1,4],none)) _ (ae fun _ bV _ _ => ai fun _ dk => ?_));refine cE ?_;refine dk _ (bV (some ([1,4,5],none)) _ (ae fun _ cz _ _ => ae fun _ cv _ _ => ai fun _ aR => ?_));refine cE ?_;refine aR _ (cv (some ([1,5,14,15],none)) _ (cj fun _ _ GS _ _ => ?_));refine ie (aaB M) (M.mem.places.length) (some ([1,5,14,15],some ([0,1],2))) ([.slot 5 (some 79) 3]) ?_ ?_
 ·try refine dR ?_
  exact ⟨0,by omega,by omega,rfl⟩
 ·intro k bT aW
  obtain ⟨i,aq,rfl,rfl⟩ := aW
  have dZ : i = M.mem.places.length ∨ i < M.mem.places.length := by omega
  intro _ cr _ g6
  rcases dZ with ea | ea
  ·skip
   have cn : ¬ (i : Int) < (M.mem.places.length : Int) := by omega
   have dM : (p5 M).take i = p5 M := by rw [List.take_of_length_le (by omega)]
   have ad := And.intro @cn @dM
   refine ae fun _ ff _ _ => ai fun _ ew => ?_;refine aS ad ?_;refine ew _ (ff (some ([1,5,14,15,16],none)) _ (ae fun _ _ _ mq => bs (mq 0 _ (g6 0 _ (GS _ (cz (some ([5],none)) _ (ae fun _ gl _ _ => ai fun _ gC => ?_)))))));refine al ad ?_;refine gC _ (gl (some ([2],none)) _ ?_)
   exact cQ ad
  ·skip
   skip
   have cn : (i : Int) < (M.mem.places.length : Int) := by omega
   have dM : IntKind.i64.wrap ((i : Int) + 1) = ((i + 1 : Nat) : Int) := by rw [IntKind.wrap_i64]; omega
   have cd := ajv M (i : Int) bA a9
   have a1 : (p5 M)[i]? = some (jd M.mem (i : Int)) := by simp [p5,ea]
   have a7 : (p5 M).take (i + 1) = (p5 M).take i ++ [jd M.mem (i : Int)] := by rw [List.take_add_one,a1]; rfl
   generalize jd M.mem (i : Int) = w at cd a7
   have fH : ((p5 M).take i).length = i := by simp; omega
   have iw : (i + 1) * 16 ≤ 140737488355328 := by omega
   have aD := And.intro @cn (And.intro @dM (And.intro @fH @iw))
   refine ae fun _ kC _ _ => ai fun _ hI => ?_;refine aS aD ?_;refine hI _ (kC (some ([1,5,14,15,16],none)) _ (ae fun _ hJ _ _ => bU (hJ (some ([1,5,14,15],none)) _ (ae fun _ hZ _ _ => cj fun _ hK _ _ _ => ae fun _ lu _ _ => ai fun _ im => ?_))));refine al aD ?_;refine im _ (lu (some ([1,5,6,14,15],none)) _ (ae fun _ iP _ _ => ai fun _ gD => ?_));refine ag 1 aD ?_;refine aM 1 aD ?_;refine aM 1 aD ?_;refine Or.inl (Or.inl ⟨_,cd,?_⟩);refine ag 5 aD ?_;refine al aD ?_;refine gD _ (iP (some ([1,5,7,14,15],none)) _ (ai fun _ ir => ?_));refine ag 2 aD ?_;refine ag 1 aD ?_;refine ag 1 aD ?_;refine al aD ?_;refine ir _ (hK _ (hZ (some ([1,5,14,15],none)) _ (ai fun _ jT => ?_)));refine ag 1 aD ?_;refine al aD ?_
   refine jT _ ?_;refine cr (M.mem.places.length - (i + 1)) (some ([1,5,14,15],some ([0,3],2))) _ ?_ ?_
   all_goals try refine dR ?_
   ·omega
   ·exact ⟨i + 1,by omega,by omega,by rw [a7,List.map_append]; rfl⟩
def uX (op : Int) : Bool := op == 3 || op == 4 || op == 6
theorem ajq (a : dJ) : cq 89 [.agg (qf a)] (eA (uX a.op)) := by
 refine df Tryz.func89 amP rfl ?_
 unfold uX
 cases af : a.op == 3
 ·cases aj : a.op == 4
  ·skip
   unfold bK HN HC;delta ab a8 aa ay a3
   have ad := And.intro @af @aj
   refine ae fun bD aK b9 ck => ai fun ca aH => ?_;refine al ad ?_;refine aH _ (aK (some ([1],none)) _ (ae fun cg aP bx b8 => ai fun ch bk => ?_));refine ag 2 ad ?_;refine ag 1 ad ?_;refine ag 3 ad ?_;refine ag 1 ad ?_;refine ag 4 ad ?_;refine ag 1 ad ?_;refine al ad ?_;refine bk _ (aP (some ([2],none)) _ ?_)
   exact cQ ad
  ·skip
   unfold bK HN HC;delta ab a8 aa ay a3
   have ad := And.intro @af @aj
   refine ae fun bD aK b9 ck => ai fun ca aH => ?_;refine al ad ?_;refine aH _ (aK (some ([1],none)) _ (ae fun cg aP bx b8 => ai fun ch bk => ?_));refine ag 2 ad ?_;refine ag 1 ad ?_;refine ag 3 ad ?_;refine ag 1 ad ?_;refine ag 4 ad ?_;refine ag 1 ad ?_;refine al ad ?_;refine bk _ (aP (some ([2],none)) _ ?_)
   exact cQ ad
 ·skip
  unfold bK HN HC;delta ab a8 aa ay a3
  have ad := @af
  refine ae fun bD aK b9 ck => ai fun ca aH => ?_;refine al ad ?_;refine aH _ (aK (some ([1],none)) _ (ae fun cg aP bx b8 => ai fun ch bk => ?_));refine ag 2 ad ?_;refine ag 1 ad ?_;refine ag 3 ad ?_;refine ag 1 ad ?_;refine ag 4 ad ?_;refine ag 1 ad ?_;refine al ad ?_;refine bk _ (aP (some ([2],none)) _ ?_)
  exact cQ ad
def qW (M : e3) (t : Int) (a : dJ) : Int :=
 if t < 1 ∨ (M.mem.views.length : Int) < t then 3 else if a.op < 0 ∨ 8 < a.op then 2 else if a.op ≠ 0 ∧ a.op ≠ 8 ∧ (a.place < 0 ∨ (M.mem.places.length : Int) ≤ a.place) then 1 else 0
set_option maxHeartbeats 4000000 in
theorem ajr (M : e3) (t : Int) (a : dJ) : cq 88 [lS M,aG t,.agg (qf a)] (aG (qW M t a)) := by
 refine df Tryz.func88 amQ rfl ?_
 have de := DM M
 obtain ⟨op,a,o,w⟩ := a
 unfold qW
 simp only
 by_cases af : t < 1
 ·rw [if_pos (.inl af)]
  unfold bK uv uq;delta ab a8 aa ay a3
  have ad := @af
  refine ae fun bD aK b9 ck => ai fun ca aH => ?_;refine al ad ?_;refine aH _ (aK (some ([1,3,5],none)) _ (ae fun cg aP bx b8 => ai fun ch bk => ?_));refine ag 1 ad ?_;refine aM 1 ad ?_;refine Or.inl (Or.inl ⟨_,de,?_⟩);refine al ad ?_;refine bk _ (aP (some ([1,5,7,8],none)) _ (ae fun cM bV dQ eP => cj fun cG bp lA c5 dn => ae fun cI cz ey fp => ai fun dB c7 => ?_));refine ag 2 ad ?_;refine ag 4 ad ?_;refine al ad ?_;refine c7 _ (cz (some ([5,8,14],none)) _ (bU (ae fun bz cR h1 gQ => ai fun eK cK => ?_)));refine al ad ?_;refine cK _ (cR (some ([6],none)) _ (c5 _ (dQ _ ?_)))
  exact cQ ad
 by_cases aj : (M.mem.views.length : Int) < t
 ·rw [if_pos (.inr aj)]
  unfold bK uv uq;delta ab a8 aa ay a3
  have ad := And.intro @af @aj
  refine ae fun bD aK b9 ck => ai fun ca aH => ?_;refine al ad ?_;refine aH _ (aK (some ([1,3,5],none)) _ (ae fun cg aP bx b8 => ai fun ch bk => ?_));refine ag 1 ad ?_;refine aM 1 ad ?_;refine Or.inl (Or.inl ⟨_,de,?_⟩);refine al ad ?_;refine bk _ (aP (some ([1,5,7,8],none)) _ (ae fun cM bV dQ eP => cj fun cG bp lA c5 dn => ae fun cI cz ey fp => ai fun dB c7 => ?_));refine ag 2 ad ?_;refine ag 4 ad ?_;refine al ad ?_;refine c7 _ (cz (some ([5,8,14],none)) _ (bU (ae fun bz cR h1 gQ => ai fun eK cK => ?_)));refine al ad ?_;refine cK _ (cR (some ([6],none)) _ (c5 _ (dQ _ ?_)))
  exact cQ ad
 rw [if_neg (by omega)]
 by_cases av : op < 0
 ·rw [if_pos (.inl av)]
  unfold bK uv uq;delta ab a8 aa ay a3
  have ad := And.intro @af (And.intro @aj @av)
  refine ae fun bD aK b9 ck => ai fun ca aH => ?_;refine al ad ?_;refine aH _ (aK (some ([1,3,5],none)) _ (ae fun cg aP bx b8 => ai fun ch bk => ?_));refine ag 1 ad ?_;refine aM 1 ad ?_;refine Or.inl (Or.inl ⟨_,de,?_⟩);refine al ad ?_;refine bk _ (aP (some ([1,5,7,8],none)) _ (ae fun cM bV dQ eP => cj fun cG bp lA c5 dn => ae fun cI cz ey fp => ai fun dB c7 => ?_));refine ag 2 ad ?_;refine ag 4 ad ?_;refine al ad ?_;refine c7 _ (cz (some ([5,8,14],none)) _ (bs (ae fun bz cR h1 gQ => ai fun eK cK => ?_)));refine ag 2 ad ?_;refine ag 1 ad ?_;refine ag 3 ad ?_;refine ag 1 ad ?_;refine al ad ?_;refine cK _ (cR (some ([5,8,22],none)) _ (bU (ae fun fM cr h0 g6 => ai fun ga cD => ?_)));refine al ad ?_
  refine cD _ (cr (some ([6],none)) _ (c5 _ (dQ _ ?_)))
  exact cQ ad
 by_cases aY : 8 < op
 ·rw [if_pos (.inr aY)]
  unfold bK uv uq;delta ab a8 aa ay a3
  have ad := And.intro @af (And.intro @aj (And.intro @av @aY))
  refine ae fun bD aK b9 ck => ai fun ca aH => ?_;refine al ad ?_;refine aH _ (aK (some ([1,3,5],none)) _ (ae fun cg aP bx b8 => ai fun ch bk => ?_));refine ag 1 ad ?_;refine aM 1 ad ?_;refine Or.inl (Or.inl ⟨_,de,?_⟩);refine al ad ?_;refine bk _ (aP (some ([1,5,7,8],none)) _ (ae fun cM bV dQ eP => cj fun cG bp lA c5 dn => ae fun cI cz ey fp => ai fun dB c7 => ?_));refine ag 2 ad ?_;refine ag 4 ad ?_;refine al ad ?_;refine c7 _ (cz (some ([5,8,14],none)) _ (bs (ae fun bz cR h1 gQ => ai fun eK cK => ?_)));refine ag 2 ad ?_;refine ag 1 ad ?_;refine ag 3 ad ?_;refine ag 1 ad ?_;refine al ad ?_;refine cK _ (cR (some ([5,8,22],none)) _ (bU (ae fun fM cr h0 g6 => ai fun ga cD => ?_)));refine al ad ?_
  refine cD _ (cr (some ([6],none)) _ (c5 _ (dQ _ ?_)))
  exact cQ ad
 rw [if_neg (by omega)]
 by_cases bM : op = 0
 ·subst bM
  rw [if_neg (by omega)]
  unfold bK uv uq;delta ab a8 aa ay a3
  have ad := And.intro @af @aj
  refine ae fun bD aK b9 ck => ai fun ca aH => ?_;refine al ad ?_;refine aH _ (aK (some ([1,3,5],none)) _ (ae fun cg aP bx b8 => ai fun ch bk => ?_));refine ag 1 ad ?_;refine aM 1 ad ?_;refine Or.inl (Or.inl ⟨_,de,?_⟩);refine al ad ?_;refine bk _ (aP (some ([1,5,7,8],none)) _ (ae fun cM bV dQ eP => cj fun cG bp lA c5 dn => ae fun cI cz ey fp => ai fun dB c7 => ?_));refine ag 2 ad ?_;refine ag 4 ad ?_;refine al ad ?_;refine c7 _ (cz (some ([5,8,14],none)) _ (bs (ae fun bz cR h1 gQ => ai fun eK cK => ?_)));refine ag 2 ad ?_;refine ag 1 ad ?_;refine ag 3 ad ?_;refine ag 1 ad ?_;refine al ad ?_;refine cK _ (cR (some ([5,8,22],none)) _ (bs (ae fun fM cr h0 g6 => ai fun ga cD => ?_)));refine ag 2 ad ?_
  refine ag 1 ad ?_;refine ag 3 ad ?_;refine ag 1 ad ?_;refine ag 4 ad ?_;refine ag 1 ad ?_;refine ag 3 ad ?_;refine ag 2 ad ?_;refine al ad ?_;refine cD _ (cr (some ([31],none)) _ (bs (bp _ (bV (some ([],none)) _ (ae fun gK dF nu ln => ai fun hc dq => ?_)))));refine al ad ?_;refine dq _ (dF (some ([6],none)) _ ?_)
  exact cQ ad
 have d5 : (op != 0) = true := by simpa using bM
 by_cases bN : op = 8
 ·subst bN
  rw [if_neg (by omega)]
  unfold bK uv uq;delta ab a8 aa ay a3
  have ad := And.intro @af @aj
  refine ae fun bD aK b9 ck => ai fun ca aH => ?_;refine al ad ?_;refine aH _ (aK (some ([1,3,5],none)) _ (ae fun cg aP bx b8 => ai fun ch bk => ?_));refine ag 1 ad ?_;refine aM 1 ad ?_;refine Or.inl (Or.inl ⟨_,de,?_⟩);refine al ad ?_;refine bk _ (aP (some ([1,5,7,8],none)) _ (ae fun cM bV dQ eP => cj fun cG bp lA c5 dn => ae fun cI cz ey fp => ai fun dB c7 => ?_));refine ag 2 ad ?_;refine ag 4 ad ?_;refine al ad ?_;refine c7 _ (cz (some ([5,8,14],none)) _ (bs (ae fun bz cR h1 gQ => ai fun eK cK => ?_)));refine ag 2 ad ?_;refine ag 1 ad ?_;refine ag 3 ad ?_;refine ag 1 ad ?_;refine al ad ?_;refine cK _ (cR (some ([5,8,22],none)) _ (bs (ae fun fM cr h0 g6 => ai fun ga cD => ?_)));refine ag 2 ad ?_
  refine ag 1 ad ?_;refine ag 3 ad ?_;refine ag 1 ad ?_;refine ag 4 ad ?_;refine ag 1 ad ?_;refine ag 3 ad ?_;refine ag 2 ad ?_;refine al ad ?_;refine cD _ (cr (some ([31],none)) _ (bs (bp _ (bV (some ([],none)) _ (ae fun gK dF nu ln => ai fun hc dq => ?_)))));refine al ad ?_;refine dq _ (dF (some ([6],none)) _ ?_)
  exact cQ ad
 have d6 : (op != 8) = true := by simpa using bN
 by_cases cJ : a < 0
 ·rw [if_pos ⟨bM,bN,.inl cJ⟩]
  unfold bK uv uq;delta ab a8 aa ay a3
  have ad := And.intro @af (And.intro @aj (And.intro @av (And.intro @aY (And.intro @d5 (And.intro @d6 @cJ)))))
  refine ae fun bD aK b9 ck => ai fun ca aH => ?_;refine al ad ?_;refine aH _ (aK (some ([1,3,5],none)) _ (ae fun cg aP bx b8 => ai fun ch bk => ?_));refine ag 1 ad ?_;refine aM 1 ad ?_;refine Or.inl (Or.inl ⟨_,de,?_⟩);refine al ad ?_;refine bk _ (aP (some ([1,5,7,8],none)) _ (ae fun cM bV dQ eP => cj fun cG bp lA c5 dn => ae fun cI cz ey fp => ai fun dB c7 => ?_));refine ag 2 ad ?_;refine ag 4 ad ?_;refine al ad ?_;refine c7 _ (cz (some ([5,8,14],none)) _ (bs (ae fun bz cR h1 gQ => ai fun eK cK => ?_)));refine ag 2 ad ?_;refine ag 1 ad ?_;refine ag 3 ad ?_;refine ag 1 ad ?_;refine al ad ?_;refine cK _ (cR (some ([5,8,22],none)) _ (bs (ae fun fM cr h0 g6 => ai fun ga cD => ?_)));refine ag 2 ad ?_
  refine ag 1 ad ?_;refine ag 3 ad ?_;refine ag 1 ad ?_;refine ag 4 ad ?_;refine ag 1 ad ?_;refine ag 3 ad ?_;refine ag 2 ad ?_;refine al ad ?_;refine cD _ (cr (some ([31],none)) _ (bU (ae fun gK dF nu ln => ai fun hc dq => ?_)));refine al ad ?_;refine dq _ (dF (some ([6],none)) _ (c5 _ (dQ _ ?_)))
  exact cQ ad
 by_cases c9 : (M.mem.places.length : Int) ≤ a
 ·rw [if_pos ⟨bM,bN,.inr c9⟩]
  unfold bK uv uq;delta ab a8 aa ay a3
  have ad := And.intro @af (And.intro @aj (And.intro @av (And.intro @aY (And.intro @d5 (And.intro @d6 (And.intro @cJ @c9))))))
  refine ae fun bD aK b9 ck => ai fun ca aH => ?_;refine al ad ?_;refine aH _ (aK (some ([1,3,5],none)) _ (ae fun cg aP bx b8 => ai fun ch bk => ?_));refine ag 1 ad ?_;refine aM 1 ad ?_;refine Or.inl (Or.inl ⟨_,de,?_⟩);refine al ad ?_;refine bk _ (aP (some ([1,5,7,8],none)) _ (ae fun cM bV dQ eP => cj fun cG bp lA c5 dn => ae fun cI cz ey fp => ai fun dB c7 => ?_));refine ag 2 ad ?_;refine ag 4 ad ?_;refine al ad ?_;refine c7 _ (cz (some ([5,8,14],none)) _ (bs (ae fun bz cR h1 gQ => ai fun eK cK => ?_)));refine ag 2 ad ?_;refine ag 1 ad ?_;refine ag 3 ad ?_;refine ag 1 ad ?_;refine al ad ?_;refine cK _ (cR (some ([5,8,22],none)) _ (bs (ae fun fM cr h0 g6 => ai fun ga cD => ?_)));refine ag 2 ad ?_
  refine ag 1 ad ?_;refine ag 3 ad ?_;refine ag 1 ad ?_;refine ag 4 ad ?_;refine ag 1 ad ?_;refine ag 3 ad ?_;refine ag 2 ad ?_;refine al ad ?_;refine cD _ (cr (some ([31],none)) _ (bU (ae fun gK dF nu ln => ai fun hc dq => ?_)));refine al ad ?_;refine dq _ (dF (some ([6],none)) _ (c5 _ (dQ _ ?_)))
  exact cQ ad
 rw [if_neg (by omega)]
 unfold bK uv uq;delta ab a8 aa ay a3
 have ad := And.intro @af (And.intro @aj (And.intro @av (And.intro @aY (And.intro @d5 (And.intro @d6 (And.intro @cJ @c9))))))
 refine ae fun bD aK b9 ck => ai fun ca aH => ?_;refine al ad ?_;refine aH _ (aK (some ([1,3,5],none)) _ (ae fun cg aP bx b8 => ai fun ch bk => ?_));refine ag 1 ad ?_;refine aM 1 ad ?_;refine Or.inl (Or.inl ⟨_,de,?_⟩);refine al ad ?_;refine bk _ (aP (some ([1,5,7,8],none)) _ (ae fun cM bV dQ eP => cj fun cG bp lA c5 dn => ae fun cI cz ey fp => ai fun dB c7 => ?_));refine ag 2 ad ?_;refine ag 4 ad ?_;refine al ad ?_;refine c7 _ (cz (some ([5,8,14],none)) _ (bs (ae fun bz cR h1 gQ => ai fun eK cK => ?_)));refine ag 2 ad ?_;refine ag 1 ad ?_;refine ag 3 ad ?_;refine ag 1 ad ?_;refine al ad ?_;refine cK _ (cR (some ([5,8,22],none)) _ (bs (ae fun fM cr h0 g6 => ai fun ga cD => ?_)));refine ag 2 ad ?_
 refine ag 1 ad ?_;refine ag 3 ad ?_;refine ag 1 ad ?_;refine ag 4 ad ?_;refine ag 1 ad ?_;refine ag 3 ad ?_;refine ag 2 ad ?_;refine al ad ?_;refine cD _ (cr (some ([31],none)) _ (bs (bp _ (bV (some ([],none)) _ (ae fun gK dF nu ln => ai fun hc dq => ?_)))));refine al ad ?_;refine dq _ (dF (some ([6],none)) _ ?_)
 exact cQ ad
end Go.Proofs.YtkmbcjnaaokilaaGreatDoor
