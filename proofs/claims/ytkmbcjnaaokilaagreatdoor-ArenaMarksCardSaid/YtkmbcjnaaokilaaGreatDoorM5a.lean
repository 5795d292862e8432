/-
  Layer 5 by shadows: small functions, Mix, Store, New.
-/
import Derived.Test.YtkmbcjnaaokilaaGreatDoorSc5
import Derived.Test.YtkmbcjnaaokilaaGreatDoorK2
namespace Go.Proofs.YtkmbcjnaaokilaaGreatDoor
set_option linter.unusedSimpArgs false
set_option linter.unusedVariables false
open Go.RowKit Go.Maps
def mixF (c i m : Int) : Int := if i < 0 ∨ m < 0 ∨ c = -1 then 0 else if c < -1 then m else (c % 1009 * 31 + i % 1009 * 17) % 1009 % (m + 1)
theorem mixF_le (c i m : Int) : 0 ≤ mixF c i m ∧ mixF c i m ≤ max m 0 := by
 unfold mixF
 split
 ·omega
 ·split
  ·omega
  ·have h1 := Int.emod_nonneg ((c % 1009 * 31 + i % 1009 * 17) % 1009) (b := m + 1) (by omega)
   have h2 := Int.emod_lt_of_pos ((c % 1009 * 31 + i % 1009 * 17) % 1009) (b := m + 1) (by omega)
   omega
set_option maxRecDepth 100000 in
set_option maxHeartbeats 1000000 in
theorem lMix_ret (c i m : Int) (w : World) (hm : m ≤ 1099511627776) : RetV Tryz.prog 87 #[.int .i64 c,.int .i64 i,.int .i64 m] w (.int .i64 (mixF c i m)) := by
 unfold RetV
 by_cases h1 : i < 0
 ·go_enter Tryz.func87,Tryz.ntmps87
  go_wp2
  go_ret
  exact retv_int (by simp [mixF,h1]) (Below.refl _ _)
 by_cases h2 : m < 0
 ·go_enter Tryz.func87,Tryz.ntmps87
  go_wp2
  go_ret
  exact retv_int (by simp [mixF,h2]) (Below.refl _ _)
 by_cases h3 : c = -1
 ·subst h3
  go_enter Tryz.func87,Tryz.ntmps87
  go_wp2
  go_ret
  exact retv_int (by simp [mixF]) (Below.refl _ _)
 have h3' : (c == -1) = false := by simpa using h3
 by_cases h4 : c < -1
 ·go_enter Tryz.func87,Tryz.ntmps87
  go_wp2
  go_ret
  exact retv_int (by unfold mixF; rw [if_neg (by omega),if_pos h4]) (Below.refl _ _)
 ·obtain ⟨A,hA⟩ : ∃ A,A = c % 1009 := ⟨_,rfl⟩
  obtain ⟨B,hB⟩ : ∃ B,B = i % 1009 := ⟨_,rfl⟩
  obtain ⟨C,hC⟩ : ∃ C,C = (A * 31 + B * 17) % 1009 := ⟨_,rfl⟩
  obtain ⟨R,hR⟩ : ∃ R,R = C % (m + 1) := ⟨_,rfl⟩
  have a1 := Int.emod_nonneg c (b := 1009) (by omega)
  have a2 := Int.emod_lt_of_pos c (b := 1009) (by omega)
  have b1 := Int.emod_nonneg i (b := 1009) (by omega)
  have b2 := Int.emod_lt_of_pos i (b := 1009) (by omega)
  rw [← hA] at a1 a2
  rw [← hB] at b1 b2
  have c1 := Int.emod_nonneg (A * 31 + B * 17) (b := 1009) (by omega)
  have c2 := Int.emod_lt_of_pos (A * 31 + B * 17) (b := 1009) (by omega)
  rw [← hC] at c1 c2
  have r1 := Int.emod_nonneg C (b := m + 1) (by omega)
  have r2 := Int.emod_lt_of_pos C (b := m + 1) (by omega)
  rw [← hR] at r1 r2
  have tA : c.tmod 1009 = A := by rw [hA]; exact Int.tmod_eq_emod_of_nonneg (by omega)
  have tB : i.tmod 1009 = B := by rw [hB]; exact Int.tmod_eq_emod_of_nonneg (by omega)
  have tCx : (A * 31 + B * 17).tmod 1009 = C := by rw [hC]; exact Int.tmod_eq_emod_of_nonneg (by omega)
  have tR : C.tmod (m + 1) = R := by rw [hR]; exact Int.tmod_eq_emod_of_nonneg (by omega)
  have hm1 : ((m + 1) == 0) = false := by rw [beq_eq_false_iff_ne]; omega
  have hm2 : ¬ (m + 1 = 0) := by omega
  have HF : mixF c i m = R := by unfold mixF; rw [if_neg (by omega),if_neg h4,← hA,← hB,← hC,← hR]
  have H0 := Lib.hid HF
  clear HF hA hB hC hR
  go_enter Tryz.func87,Tryz.ntmps87
  go_wp2
  go_ret
  exact retv_int (by rw [H0.out]) (Below.refl _ _)
structure StoreV where
 loc : Int
 word : WordV
abbrev eStore (x : StoreV) : List Sh := [sI x.loc,sI x.word.val,sU x.word.ver,sU x.word.ref]
structure LogV where
 stores : List StoreV
 kept : Int
abbrev eLog (y : LogV) : List Sh := [.sl 4 0 (y.stores.map eStore),sI y.kept]
structure LinesM where
 first : List WordV
 logs : List LogV
 asks : Int → Option (Int → Option Int)
abbrev eAsked (g : Int → Option Int) : Sh := .mp 3 fun k => (g k).map sI
abbrev eLines (L : LinesM) : Sh := .agg [.sl 3 0 (L.first.map eWord),.sl 2 0 (L.logs.map eLog),.mp 3 fun t => (L.asks t).map eAsked]
theorem infoLog : (Tryz.prog.info? 177).map (fun i => (i.zero,i.size,i.bytes)) = some (some (.agg #[.slice none 0 0,.int .i64 0]),2,32) := by kernel_rfl
set_option maxRecDepth 100000 in
set_option maxHeartbeats 1000000 in
theorem row_cloneWord (g : Nat) (es : List (List Sh)) (hn : es.length ≤ 1000000) : OkRow 58 [.sl 3 g es] 79 3 es := by
 intro w H vs hs hv
 obtain ⟨i0,hi,hz0,hz1,hz2⟩ := info_parts infoWord
 cases hv with
 | cons hx ht =>
  rename_i u vs'
  cases ht
  obtain ⟨a,n,c,rfl⟩ : ∃ a n c,u = Value.slice a n c := by cases hx; exact ⟨_,_,_,rfl⟩
  obtain ⟨xs,p1,p2,p3,p3',_,p5,p6⟩ := sl_cells hs hx
  subst p2
  clear hx
  have hq := fun w a l c => Lib.run_eql_slice_nil (P := Tryz.prog) w 27 _ a l c 0 0 Tryz.underlying27
  cases a with
  | none =>
   have hc := p5 rfl
   have hn0 : es = [] := List.eq_nil_of_length_eq_zero (by omega)
   subst hn0; subst hc
   cases p1
   simp only [List.length_nil]
   go_enter Tryz.func58,Tryz.ntmps58
   go_wp2
   go_ret
   exact ⟨_,[],rfl,Grow.refl hs,by decide,World.ownsRow_nil _ _ _ _,.nil,fun _ => ⟨_,rfl⟩⟩
  | some ad =>
   by_cases h0 : es = []
   ·subst h0
    cases p1
    clear p6
    simp only [List.length_nil]
    go_enter Tryz.func58,Tryz.ntmps58
    go_wp2_with (first
     | (at_builtin; refine wpList_append_nothing rfl _ _ 27 79 i0 rfl Tryz.underlying27 hi _ _ _ rfl rfl ?_)
     | go_in)
    go_ret
    refine ⟨_,[],rfl,(Grow.refl hs).alloc _,by decide,?_,.nil,fun _ => ⟨_,rfl⟩⟩
    exact World.ownsRow_made _ _ 0 (Nat.le_refl _) (by decide) (by simp)
   have hcw : ∀ (j : Nat) (u : Value),xs[j]? = some u → (w.alloc (.cells #[] 79)).cell? (ad.add j) = some u := fun j u hu => by
    obtain ⟨cells,t,fr,h1,h2,h3⟩ := cell_block (p6 ad rfl j u hu)
    simp [World.cell?,h1,heap_past _ _ h2,h3]
   have hxl := p1.length
   have h1 := p1.one
   clear p6
   obtain ⟨n,hN⟩ : ∃ n,n = es.length := ⟨_,rfl⟩
   rw [← hN] at hxl hn p3 ⊢
   have HN := Lib.hid hN
   clear hN
   go_enter Tryz.func58,Tryz.ntmps58
   go_wp2_with (first
    | (at_builtin; refine wpList_append_own _ rfl _ _ 27 rfl w.heap.size 79 i0 _ 3 16 Tryz.underlying27 hi hz0 hz1 hz2 rfl (by decide) (.slice (some ⟨w.heap.size,0,none⟩) 0 0) 0 [] rfl (World.ownsRow_made _ _ 0 (Nat.le_refl _) (by decide) (by simp)) ad n c xs rfl hxl hcw h1 (by unfold maxLen; omega) (by omega) (by simp) ?_; intro v' w1 hown hg1 hnil)
    | go_in)
   go_ret
   refine ⟨v',xs,rfl,?_,by decide,by rw [← HN.out]; simpa using hown,p1,fun e => absurd e h0⟩
   exact ((Grow.refl hs).alloc _).grown hg1 (fun k hk => by simp [Value.ownBlock] at hk; subst hk; exact ⟨Nat.le_refl _,hs.none (Nat.le_refl _)⟩)
set_option maxRecDepth 100000 in
set_option maxHeartbeats 1000000 in
theorem row_cloneLog (g : Nat) (es : List (List Sh)) (hn : es.length ≤ 1000000) : OkRow 104 [.sl 2 g es] 177 2 es := by
 intro w H vs hs hv
 obtain ⟨i0,hi,hz0,hz1,hz2⟩ := info_parts infoLog
 cases hv with
 | cons hx ht =>
  rename_i u vs'
  cases ht
  obtain ⟨a,n,c,rfl⟩ : ∃ a n c,u = Value.slice a n c := by cases hx; exact ⟨_,_,_,rfl⟩
  obtain ⟨xs,p1,p2,p3,p3',_,p5,p6⟩ := sl_cells hs hx
  subst p2
  clear hx
  have hq := fun w a l c => Lib.run_eql_slice_nil (P := Tryz.prog) w 54 _ a l c 0 0 Tryz.underlying54
  cases a with
  | none =>
   have hc := p5 rfl
   have hn0 : es = [] := List.eq_nil_of_length_eq_zero (by omega)
   subst hn0; subst hc
   cases p1
   simp only [List.length_nil]
   go_enter Tryz.func104,Tryz.ntmps104
   go_wp2
   go_ret
   exact ⟨_,[],rfl,Grow.refl hs,by decide,World.ownsRow_nil _ _ _ _,.nil,fun _ => ⟨_,rfl⟩⟩
  | some ad =>
   by_cases h0 : es = []
   ·subst h0
    cases p1
    clear p6
    simp only [List.length_nil]
    go_enter Tryz.func104,Tryz.ntmps104
    go_wp2_with (first
     | (at_builtin; refine wpList_append_nothing rfl _ _ 54 177 i0 rfl Tryz.underlying54 hi _ _ _ rfl rfl ?_)
     | go_in)
    go_ret
    refine ⟨_,[],rfl,(Grow.refl hs).alloc _,by decide,?_,.nil,fun _ => ⟨_,rfl⟩⟩
    exact World.ownsRow_made _ _ 0 (Nat.le_refl _) (by decide) (by simp)
   have hcw : ∀ (j : Nat) (u : Value),xs[j]? = some u → (w.alloc (.cells #[] 177)).cell? (ad.add j) = some u := fun j u hu => by
    obtain ⟨cells,t,fr,h1,h2,h3⟩ := cell_block (p6 ad rfl j u hu)
    simp [World.cell?,h1,heap_past _ _ h2,h3]
   have hxl := p1.length
   have h1 := p1.one
   clear p6
   obtain ⟨n,hN⟩ : ∃ n,n = es.length := ⟨_,rfl⟩
   rw [← hN] at hxl hn p3 ⊢
   have HN := Lib.hid hN
   clear hN
   go_enter Tryz.func104,Tryz.ntmps104
   go_wp2_with (first
    | (at_builtin; refine wpList_append_own _ rfl _ _ 54 rfl w.heap.size 177 i0 _ 2 32 Tryz.underlying54 hi hz0 hz1 hz2 rfl (by decide) (.slice (some ⟨w.heap.size,0,none⟩) 0 0) 0 [] rfl (World.ownsRow_made _ _ 0 (Nat.le_refl _) (by decide) (by simp)) ad n c xs rfl hxl hcw h1 (by unfold maxLen; omega) (by omega) (by simp) ?_; intro v' w1 hown hg1 hnil)
    | go_in)
   go_ret
   refine ⟨v',xs,rfl,?_,by decide,by rw [← HN.out]; simpa using hown,p1,fun e => absurd e h0⟩
   exact ((Grow.refl hs).alloc _).grown hg1 (fun k hk => by simp [Value.ownBlock] at hk; subst hk; exact ⟨Nat.le_refl _,hs.none (Nat.le_refl _)⟩)
theorem ok_lThread (t : Int) : Ok 100 [sI t] (sB (decide (1 ≤ t ∧ t ≤ 8))) := by
 refine ok_of_tr Tryz.func100 tr_lThread rfl ?_
 by_cases h1 : 1 ≤ t <;> by_cases h2 : t ≤ 8
 all_goals
  unfold evFn sc_lThread rv_lThread
  have F1 := And.intro @h1 @h2
  refine eS fun _ hn1 _ _ => ?_;refine eO fun _ hk2 => ?_;refine tL F1 ?_;refine hk2 _ ?_;refine hn1 (some ([0],none)) _ ?_;refine eS fun _ hn3 _ _ => ?_;refine eO fun _ hk4 => ?_;refine tC 2 F1 ?_;refine tC 3 F1 ?_;refine tL F1 ?_;refine hk4 _ ?_;refine hn3 (some ([2],none)) _ ?_
  exact sf1 F1
theorem ok_lHas (L : LinesM) (a : Int) : Ok 101 [eLines L,sI a] (sB (decide (0 ≤ a ∧ a < (L.first.length : Int)))) := by
 refine ok_of_tr Tryz.func101 tr_lHas rfl ?_
 by_cases h1 : 0 ≤ a <;> by_cases h2 : a < (L.first.length : Int)
 all_goals
  unfold evFn sc_lHas rv_lHas
  have F1 := And.intro @h1 @h2
  refine eS fun _ hn1 _ _ => ?_;refine eO fun _ hk2 => ?_;refine tL F1 ?_;refine hk2 _ ?_;refine hn1 (some ([1,2],none)) _ ?_;refine eS fun _ hn3 _ _ => ?_;refine eO fun _ hk4 => ?_;refine tC 2 F1 ?_;refine tC 4 F1 ?_;refine tC 2 F1 ?_;refine tL F1 ?_;refine hk4 _ ?_;refine hn3 (some ([4],none)) _ ?_
  exact sf1 F1
theorem modify_set {α : Type} {l : List α} {m : Nat} {y : α} (f : α → α) (h : l[m]? = some y) : l.modify m f = l.set m (f y) := by
 apply List.ext_getElem?
 intro i
 rw [List.getElem?_modify,List.getElem?_set]
 by_cases e : m = i
 ·subst e
  obtain ⟨h',hy⟩ := List.getElem?_eq_some_iff.1 h
  simp [h',hy]
 ·simp [e]
def storeM (L : LinesM) (a : Int) (w : WordV) : LinesM := { L with logs := L.logs.modify (a.toNat / 8) fun x => { x with stores := x.stores ++ [⟨a,w⟩] } }
theorem ok_clipStore (g : Nat) (es : List (List Sh)) : Ok 109 [.sl 4 g es] (.sl 4 1 es) := by
 refine ok_of_tr Tryz.func109 tr_clipStore rfl ?_
 unfold evFn sc_clipStore rv_clipStore
 refine eS fun _ hn1 _ _ => ?_;refine eO fun _ hk2 => ?_;refine tL0 ?_;refine hk2 _ ?_;refine hn1 (some ([0],none)) _ ?_;refine eS fun _ hn3 _ _ => ?_;refine eO fun _ hk4 => ?_;refine tC0 6 ?_;refine tL0 ?_;refine hk4 _ ?_;refine hn3 (some ([2],none)) _ ?_
 exact sf0
theorem ok_lStore (L : LinesM) (a : Int) (v : WordV) (h0 : 0 ≤ a) (h1 : a < (L.first.length : Int)) (hl : L.logs.length = (L.first.length + 7) / 8) (hm : L.first.length ≤ 4096) (hs : ∀ y ∈ L.logs,y.stores.length ≤ 1000) :
  Ok 99 [eLines L,sI a,.agg (eWord v)] (.tup [eLines (storeM L a v),sI 0]) := by
 refine ok_of_tr Tryz.func99 tr_lStore rfl ?_
 obtain ⟨m,hmm⟩ : ∃ m,m = a.toNat / 8 := ⟨_,rfl⟩
 have hq : IntKind.i64.wrap (a.tdiv 8) = (m : Int) := by rw [IntKind.wrap_i64,Int.tdiv_eq_ediv_of_nonneg h0]; omega
 have hml : m < L.logs.length := by omega
 obtain ⟨y,hy⟩ : ∃ y,L.logs[m]? = some y := ⟨L.logs[m],by simp⟩
 have hys := hs y (List.mem_of_getElem? hy)
 unfold evFn sc_lStore rv_lStore
 have F1 := And.intro @hy @hq
 refine eS fun _ hn1 _ _ => ?_;refine eO fun _ hk2 => ?_;refine tL F1 ?_;refine hk2 _ ?_;refine hn1 (some ([1,3,5,6],none)) _ ?_;refine eS fun _ hn3 _ _ => ?_;refine eS fun _ hn4 _ _ => ?_;refine eO fun _ hk5 => ?_;refine tC 1 F1 ?_;refine tS 1 F1 ?_;refine tS 1 F1 ?_;refine Or.inl (Or.inl ⟨_,ok_lHas L a,?_⟩);refine tL F1 ?_;refine hk5 _ ?_;refine hn4 (some ([1,3,5,6,12],none)) _ ?_;refine eC rfl (fun hx => absurd hx (by simp [h0,h1] at hx)) (fun hc0 => ?_)
 clear hc0
 refine hn3 (some ([1,3,5,6],none)) _ ?_;refine eS fun _ hn6 _ _ => ?_;refine eO fun _ hk7 => ?_;refine tC 2 F1 ?_;refine tS 1 F1 ?_;refine Or.inl (Or.inr (Or.inl ⟨_,_,_,row_cloneLog 0 _ (by simp; omega),?_⟩));refine tZ F1 ?_;refine hk7 _ ?_;refine hn6 (some ([1,3,5,6],none)) _ ?_;refine eS fun _ hn8 _ _ => ?_;refine eO fun _ hk9 => ?_;refine tC 2 F1 ?_;refine tC 2 F1 ?_;refine tC 1 F1 ?_;refine tL F1 ?_;refine hk9 _ ?_;refine hn8 (some ([1,3,5,6,8],none)) _ ?_;refine eS fun _ hn10 _ _ => ?_;refine eD [] (n := 10) fun _ hk11 => ?_;refine sq0 ?_;refine fC 5 F1 ?_;refine fS 1 F1 ?_;refine ⟨_,ok_clipStore _ _,?_⟩;refine fC 2 F1 ?_;refine fZ F1 ?_;refine hk11 _ ?_;refine sr0 ?_;refine tC 1 F1 ?_;refine tZ F1 ?_;refine hn10 (some ([3,6],none)) _ ?_;refine eS fun _ hn13 _ _ => ?_;refine eO fun _ hk14 => ?_;refine tC 1 F1 ?_;refine tC 1 F1 ?_;refine tL F1 ?_;refine hk14 _ ?_;refine hn13 (some ([6,7],none)) _ ?_
 refine sg1 F1 ?_
 skip
 have e : storeM L a v = { L with logs := L.logs.set m { y with stores := y.stores ++ [⟨a,v⟩] } } := by
  unfold storeM; rw [← hmm]; congr 1; exact modify_set _ hy
 rw [e]
 simp [List.map_set,eLog]
theorem ok_lMix (c i m : Int) (hm : m ≤ 1099511627776) : Ok 87 [sI c,sI i,sI m] (sI (mixF c i m)) := ok_of_retv (xs := [.int .i64 c,.int .i64 i,.int .i64 m]) (fun w => lMix_ret c i m w hm) rfl
def newM (l : List WordV) : LinesM := ⟨l,List.replicate ((l.length + 7) / 8) ⟨[],0⟩,fun _ => none⟩
theorem ok_lineNew (g : Nat) (l : List WordV) (h : l.length ≤ 4096) : Ok 66 [.sl 3 g (l.map eWord)] (.tup [eLines (newM l),sI 0]) := by
 refine ok_of_tr Tryz.func66 tr_lineNew rfl ?_
 have h1 : ¬ (4096 : Int) < (l.length : Int) := by omega
 have q1 : IntKind.i64.wrap ((l.length : Int) + 8) = (l.length : Int) + 8 := by rw [IntKind.wrap_i64]; omega
 have q2 : IntKind.i64.wrap ((l.length : Int) + 8 - 1) = (l.length : Int) + 7 := by rw [IntKind.wrap_i64]; omega
 have q3 : IntKind.i64.wrap (((l.length : Int) + 7).tdiv 8) = ((l.length + 7) / 8 : Nat) := by rw [IntKind.wrap_i64,Int.tdiv_eq_ediv_of_nonneg (by omega)]; omega
 unfold evFn sc_lineNew rv_lineNew
 have F1 := And.intro @h1 (And.intro @q1 (And.intro @q2 @q3))
 refine eS fun _ hn1 _ _ => ?_;refine eO fun _ hk2 => ?_;refine tL F1 ?_;refine hk2 _ ?_;refine hn1 (some ([0,2],none)) _ ?_;refine eS fun _ hn3 _ _ => ?_;refine eS fun _ hn4 _ _ => ?_;refine eO fun _ hk5 => ?_;refine tZ F1 ?_;refine hk5 _ ?_;refine hn4 (some ([0,2,6],none)) _ ?_;refine eCf ?_;refine hn3 (some ([0,2],none)) _ ?_;refine eS fun _ hn6 _ _ => ?_;refine eD [] (n := 8) fun _ hk7 => ?_;refine sq0 ?_;refine fS 1 F1 ?_;refine fS 1 F1 ?_;refine ⟨_,(row_cloneWord g (l.map eWord) (by simp; omega)).ok,?_⟩;refine fC 3 F1 ?_;refine fC 1 F1 ?_;refine fC 1 F1 ?_;refine fZ F1 ?_;refine hk7 _ ?_;refine sr0 ?_;refine tC 2 F1 ?_;refine tL F1 ?_;refine hn6 (some ([2,3],none)) _ ?_;refine sg1 F1 ?_
 skip
 unfold newM
 simp
end Go.Proofs.YtkmbcjnaaokilaaGreatDoor
