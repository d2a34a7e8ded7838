import Derived.Test.YtihbebbabjklkaaGreatDoorAG1
import Derived.Test.YtihbebbabjklkaaGreatDoorAD
import Derived.Test.YtihbebbabjklkaaGreatDoorAG3
import Derived.Deep.RegionHeld3
import Derived.WideLaws
import Derived.MapKept
import Derived.RangeFuncOwn
set_option maxHeartbeats 8000000
set_option maxRecDepth 100000
set_option linter.unusedVariables false
namespace Go.Proofs.YtihbebbabjklkaaGreatDoor.PA
set_option linter.unusedVariables false
open Go.RowKit Go.Proofs.WWords Go.Proofs.WLast Go.Proofs.WMore
attribute [local go_sem] max2_int min2_int max_two min_two max_three min_three max_four min_four
set_option linter.unusedSimpArgs false
def bIproduct.T1 : Bool × List (List Nat × List Nat) := (true, [([], []), ([0], [0]), ([], []), ([2], [2]), ([1, 3], [1, 3]), ([], []), ([5], [5]), ([], []), ([7], [7]), ([6, 8], [6, 8]), ([4, 9], [4, 9]), ([10, 9, 0, 1, 2, 3, 4, 5, 6, 7, 8, 9, 10], [10])])
def bIproduct.B1 : List Nat := [0, 1, 0, 4, 15, 0, 32, 0, 128, 480, 1023, 2047]
theorem bIproduct.tab1 : rtab .any (opsOf Tryz.f103 1) = bIproduct.T1 := by kernel_rfl
theorem bIproduct.bits1 : waitsOk bIproduct.T1.2 bIproduct.B1 = true := by kernel_rfl
theorem bIproduct.calls (k : Nat) (a0_0 : Bool) (A0_1 : Option Addr) (c0_1 : Nat) (l0_1 : List Int) (a1_0 : Bool) (A1_1 : Option Addr) (c1_1 : Nat) (l1_1 : List Int) (r1 : Bool) (r2 : List Int) (w : World) (hr0_1 : Kd.C (Kd.int .i64) w A0_1 l0_1.length l0_1) (hc0_1 : l0_1.length ≤ c0_1) (hr1_1 : Kd.C (Kd.int .i64) w A1_1 l1_1.length l1_1) (hc1_1 : l1_1.length ≤ c1_1) (h : bIproduct.f k a0_0 l0_1 a1_0 l1_1 = some (r1, r2)) :
  Calls Tryz.prog 103 #[.agg #[.bool a0_0, .slice A0_1 l0_1.length c0_1], .agg #[.bool a1_0, .slice A1_1 l1_1.length c1_1]] w fun e w' => ∃ v1_ : Value, e = .returned (.agg #[.bool r1, v1_]) ∧ Kd.R (Kd.int .i64) 3 w' w.heap.size (fun _ => True) v1_ r2 ∧ Below w.heap.size w w' := by
 have hu88 := Tryz.underlying122
 have HR0_1 := Z0.mk hr0_1
 have HC0_1 := Z0.mk hc0_1
 clear hr0_1 hc0_1
 have HR1_1 := Z0.mk hr1_1
 have HC1_1 := Z0.mk hc1_1
 clear hr1_1 hc1_1
 have HB := Z0.mk (Below.refl w.heap.size w)
 have H := h
 clear h
 unfold bIproduct.f at H
 obtain ⟨t376, A3, H⟩ := bnd H
 simp only [Option.some.injEq, Prod.mk.injEq] at H
 obtain ⟨rfl, rfl⟩ := H
 go_enter Tryz.func103, Tryz.ntmps103
 try go_wp2_with (first | ((with_reducible refine gd_ 2 rfl ?_); refine bxE 2 #[.bool a0_0, .slice A0_1 l0_1.length c0_1] 122 ?_; intro gb373 hg w4 hbox hb; have BK373 := Z0.mk hbox; have GW373 := fE HB hg; have GE373 := fE HB hg; replace HB := fB HB hb; clear hb hbox hg) | ((with_reducible refine gd_ 3 rfl ?_); refine bxE 3 #[.bool a1_0, .slice A1_1 l1_1.length c1_1] 122 ?_; intro gb374 hg w5 hbox hb; have BK374 := Z0.mk hbox; have GW374 := fE HB hg; have GE374 := fE HB hg; have NB373_374 := fl BK373 hg; have NB374_373 := fg BK373 hg; replace BK373 := fk BK373 hb; replace HB := fB HB hb; clear hb hbox hg) | ((with_reducible refine gd_ 4 rfl ?_); refine bxE 4 #[.bool false, .slice none 0 0] 122 ?_; intro gb375 hg w6 hbox hb; have BK375 := Z0.mk hbox; have GW375 := fE HB hg; have GE375 := fE HB hg; have NB373_375 := fl BK373 hg; have NB375_373 := fg BK373 hg; have NB374_375 := fl BK374 hg; have NB375_374 := fg BK374 hg; replace BK373 := fk BK373 hb; replace BK374 := fk BK374 hb; replace HB := fB HB hb; clear hb hbox hg))
 replace BK373 := Z0.mk (blk_drew BK373.out)
 replace BK374 := Z0.mk (blk_drew BK374.out)
 replace BK375 := Z0.mk (blk_drew BK375.out)
 replace HB := Z0.mk (below_drew1 HB.out)
 refine start_ (n := 12) (S := fun w' => w'.cell? ⟨gb373, 0, none⟩ = some (.bool a0_0) ∧ w'.cell? ⟨gb373, 1, none⟩ = some (.slice A0_1 l0_1.length c0_1) ∧ w'.cell? ⟨gb374, 0, none⟩ = some (.bool a1_0) ∧ w'.cell? ⟨gb374, 1, none⟩ = some (.slice A1_1 l1_1.length c1_1)) (ds := []) #[false, false, false, false, false, false, false, false, false, false, false, false] (by kernel_rfl) rfl rfl ⟨(blk_cell BK373.out 0).trans rfl, (blk_cell BK373.out 1).trans rfl, (blk_cell BK374.out 0).trans rfl, (blk_cell BK374.out 1).trans rfl⟩ (fun hHeld => ?_); refine with_tabW bIproduct.tab1 bIproduct.bits1 (fun HT_ HW_ => ?_)
 generalize w6.drew = w7 at BK373 BK374 BK375 HB hHeld ⊢
 refine pure_ (i := 0) (N := some 5) (v := ?_) (a' := ?_) #[true, false, false, false, false, false, false, false, false, false, false, false] rfl rfl (any_of HT_.out (by kernel_rfl)) (fun _ _ _ h => h) (Or.inl ⟨by rfl, ?_⟩) ?_ ?_
 rotate_left
 ·intro w'
  go_simp
  with_reducible rfl
 rotate_left
 ·simp only [Act.put, List.setIfInBounds_toArray, List.set_cons_zero, List.set_cons_succ, i64_w, i32_w]
  rfl
 refine pure_ (i := 2) (N := some 7) (v := ?_) (a' := ?_) #[true, false, true, false, false, false, false, false, false, false, false, false] rfl rfl (any_of HT_.out (by kernel_rfl)) (fun _ _ _ h => h) (Or.inl ⟨by rfl, ?_⟩) ?_ ?_
 rotate_left
 ·intro w'
  go_simp
  with_reducible rfl
 rotate_left
 ·simp only [Act.put, List.setIfInBounds_toArray, List.set_cons_zero, List.set_cons_succ, i64_w, i32_w]
  rfl
 refine pure_ (i := 5) (N := some 10) (v := ?_) (a' := ?_) #[true, false, true, false, false, true, false, false, false, false, false, false] rfl rfl (any_of HT_.out (by kernel_rfl)) (fun _ _ _ h => h) (Or.inl ⟨by rfl, ?_⟩) ?_ ?_
 rotate_left
 ·intro w'
  go_simp
  with_reducible rfl
 rotate_left
 ·simp only [Act.put, List.setIfInBounds_toArray, List.set_cons_zero, List.set_cons_succ, i64_w, i32_w]
  rfl
 refine pure_ (i := 7) (N := some 12) (v := ?_) (a' := ?_) #[true, false, true, false, false, true, false, true, false, false, false, false] rfl rfl (any_of HT_.out (by kernel_rfl)) (fun _ _ _ h => h) (Or.inl ⟨by rfl, ?_⟩) ?_ ?_
 rotate_left
 ·intro w'
  go_simp
  with_reducible rfl
 rotate_left
 ·simp only [Act.put, List.setIfInBounds_toArray, List.set_cons_zero, List.set_cons_succ, i64_w, i32_w]
  rfl
 refine take_ (i := 1) (N := some 6) (v := ?_) (a' := ?_) #[true, true, true, false, false, true, false, true, false, false, false, false] rfl rfl (take_ofW HT_.out HW_.out (by kernel_rfl)) (fun _ _ _ h => h) (Or.inl ⟨by rfl, ?_⟩) hHeld ?_ ?_
 rotate_left
 ·rintro w' ⟨s0, s1, s2, s3⟩
  go_simp
  with_reducible rfl
 rotate_left
 ·simp only [Act.put, List.setIfInBounds_toArray, List.set_cons_zero, List.set_cons_succ, i64_w, i32_w]
  rfl
 refine take_ (i := 3) (N := some 8) (v := ?_) (a' := ?_) #[true, true, true, true, false, true, false, true, false, false, false, false] rfl rfl (take_ofW HT_.out HW_.out (by kernel_rfl)) (fun _ _ _ h => h) (Or.inl ⟨by rfl, ?_⟩) hHeld ?_ ?_
 rotate_left
 ·rintro w' ⟨s0, s1, s2, s3⟩
  go_simp
  with_reducible rfl
 rotate_left
 ·simp only [Act.put, List.setIfInBounds_toArray, List.set_cons_zero, List.set_cons_succ, i64_w, i32_w]
  rfl
 refine pure_ (i := 4) (N := some 9) (v := ?_) (a' := ?_) #[true, true, true, true, true, true, false, true, false, false, false, false] rfl rfl (any_of HT_.out (by kernel_rfl)) (fun _ _ _ h => h) (Or.inl ⟨by rfl, ?_⟩) ?_ ?_
 rotate_left
 ·intro w'
  go_simp
  with_reducible rfl
 rotate_left
 ·simp only [Act.put, List.setIfInBounds_toArray, List.set_cons_zero, List.set_cons_succ, i64_w, i32_w]
  rfl
 refine take_ (i := 6) (N := some 11) (v := ?_) (a' := ?_) #[true, true, true, true, true, true, true, true, false, false, false, false] rfl rfl (take_ofW HT_.out HW_.out (by kernel_rfl)) (fun _ _ _ h => h) (Or.inl ⟨by rfl, ?_⟩) hHeld ?_ ?_
 rotate_left
 ·rintro w' ⟨s0, s1, s2, s3⟩
  go_simp
  with_reducible rfl
 rotate_left
 ·simp only [Act.put, List.setIfInBounds_toArray, List.set_cons_zero, List.set_cons_succ, i64_w, i32_w]
  rfl
 refine take_ (i := 8) (N := some 13) (v := ?_) (a' := ?_) #[true, true, true, true, true, true, true, true, true, false, false, false] rfl rfl (take_ofW HT_.out HW_.out (by kernel_rfl)) (fun _ _ _ h => h) (Or.inl ⟨by rfl, ?_⟩) hHeld ?_ ?_
 rotate_left
 ·rintro w' ⟨s0, s1, s2, s3⟩
  go_simp
  with_reducible rfl
 rotate_left
 ·simp only [Act.put, List.setIfInBounds_toArray, List.set_cons_zero, List.set_cons_succ, i64_w, i32_w]
  rfl
 refine one_ (i := 9) (N := some 14) #[true, true, true, true, true, true, true, true, true, true, false, false] rfl rfl (one_of HT_.out (by kernel_rfl)) (by decide) (fun K hK => ?_)
 refine goes_ Tryz.func107 (by kernel_rfl) rfl #[.slice A0_1 l0_1.length c0_1, .slice A1_1 l1_1.length c1_1] (by rfl) rfl rfl (by (try simp only [List.map_toArray, List.map_cons, List.map_nil]); first | done | rfl | (simp only [List.length_drop, List.length_take]; rfl)) ?_
 with_reducible refine (bItimes.calls k _ _ l0_1 _ _ l1_1 t376 _ ?side1 ?side2 ?side3 ?side4 A3.out).mono ?_
 (case side1 => exact cq (Kd.C_below HR0_1.out HB.out))
 (case side2 => exact HC0_1.out)
 (case side3 => exact cq (Kd.C_below HR1_1.out HB.out))
 (case side4 => exact HC1_1.out)
 rintro e w8 ⟨v377, rfl, ho0, hb⟩
 refine ⟨_, rfl, ?_⟩
 have HO378 := fN ho0
 replace BK373 := fk BK373 hb
 replace BK374 := fk BK374 hb
 replace BK375 := fk BK375 hb
 replace HB := fB HB hb
 (try clear hb)
 (try clear hb2)
 (try clear hk)
 (try clear hi)
 (try clear ho0)
 obtain ⟨Ao9, co9, eo9⟩ := Kd.R_slice HO378.out
 (first | subst eo9 | (injection eo9 with f1_ f2_ f3_; have f4_ := f1_.symm; have f5_ := f3_.symm; clear f1_ f2_ f3_; subst f4_; subst f5_))
 refine hK.out _ _ ⟨(blk_cell BK373.out 0).trans rfl, (blk_cell BK373.out 1).trans rfl, (blk_cell BK374.out 0).trans rfl, (blk_cell BK374.out 1).trans rfl⟩ (fun hHeld => ?_)
 clear hK K
 refine norm_ (a' := ?_) ?_ ?_
 rotate_left
 ·show Act.put _ (some 14) _ = _
  simp only [Act.put, List.setIfInBounds_toArray, List.set_cons_zero, List.set_cons_succ, i64_w, i32_w]
  rfl
 refine pure_ (i := 10) (N := some 15) (v := ?_) (a' := ?_) #[true, true, true, true, true, true, true, true, true, true, true, false] rfl rfl (any_of HT_.out (by kernel_rfl)) (fun _ _ _ h => h) (Or.inl ⟨by rfl, ?_⟩) ?_ ?_
 rotate_left
 ·intro w'
  go_simp
  with_reducible rfl
 rotate_left
 ·simp only [Act.put, List.setIfInBounds_toArray, List.set_cons_zero, List.set_cons_succ, i64_w, i32_w]
  rfl
 refine one_ (i := 11) (N := none) #[true, true, true, true, true, true, true, true, true, true, true, true] rfl rfl (one_of HT_.out (by kernel_rfl)) (by decide) (fun K hK => ?_)
 have hs10 : w8.cell? ⟨gb375, 0, none⟩ = some (.bool false) := (blk_cell BK375.out 0).trans rfl
 have hfs10 := blk_frozen BK375.out 0
 have hns10_0 := NB373_375.out
 have hns10_1 := NB374_375.out
 have hms10_0 := NB375_373.out
 have hms10_1 := NB375_374.out
 have hs11 : w8.cell? ⟨gb375, 1, none⟩ = some (.slice none 0 0) := (blk_cell BK375.out 1).trans rfl
 have hfs11 := blk_frozen BK375.out 1
 have hns11_0 := NB373_375.out
 have hns11_1 := NB374_375.out
 have hms11_0 := NB375_373.out
 have hms11_1 := NB375_374.out
 refine skip_ (w1 := ?_) (by rfl) rfl ?_ ?_
 rotate_left
 ·go_simp
  rfl
 refine hK.out _ _ ⟨((cell_far (p := ⟨gb375, _, none⟩) NB373_375.out _).trans (((cell_far (p := ⟨gb375, _, none⟩) NB373_375.out _).trans (hHeld.1)))), ((cell_far (p := ⟨gb375, _, none⟩) NB373_375.out _).trans (((cell_far (p := ⟨gb375, _, none⟩) NB373_375.out _).trans (hHeld.2.1)))), ((cell_far (p := ⟨gb375, _, none⟩) NB374_375.out _).trans (((cell_far (p := ⟨gb375, _, none⟩) NB374_375.out _).trans (hHeld.2.2.1)))), ((cell_far (p := ⟨gb375, _, none⟩) NB374_375.out _).trans (((cell_far (p := ⟨gb375, _, none⟩) NB374_375.out _).trans (hHeld.2.2.2))))⟩ (fun hHeld => ?_)
 clear hK K
 refine done_ (done_of HT_.out (by kernel_rfl)) ?_
 try go_wp2
 refine bodyPost_ret (results_cell_row rfl _ _ gb375 122 #[.bool (a0_0 != a1_0), .slice Ao9 t376.length co9] (0, 0) _ rfl (by (with_reducible repeat (first | refine blk_drewN ?_ _ | refine blk_drew ?_ | refine blk_alloc ?_ _)); refine blk_put (cs := #[.bool (a0_0 != a1_0), .slice none 0 0]) ?_ 1 _ rfl; (with_reducible repeat (first | refine blk_drewN ?_ _ | refine blk_drew ?_ | refine blk_alloc ?_ _)); refine blk_put (cs := #[.bool false, .slice none 0 0]) ?_ 0 _ rfl; (with_reducible repeat (first | refine blk_drewN ?_ _ | refine blk_drew ?_ | refine blk_alloc ?_ _)); exact BK375.out) Tryz.underlying122 rfl (by kernel_rfl)) rfl ?_
 exact ⟨_, fe, by (with_reducible repeat (first | apply Kd.R_alloc | apply Kd.R_drewN | apply Kd.R_drew)); exact Kd.R_mono (Kd.R_far (p := ⟨gb375, 1, none⟩) (Kd.R_far (p := ⟨gb375, 0, none⟩) (Kd.R_types HO378.out BK375.out (by decide)) (fun _ hk => hk.2) (.bool (a0_0 != a1_0))) (fun _ hk => hk.2) (.slice Ao9 t376.length co9)) (fun _ hk => trivial), bqs⟩
theorem bIsign.calls (a0_0 : Bool) (A0_1 : Option Addr) (c0_1 : Nat) (l0_1 : List Int) (r : Int) (w : World) (hr0_1 : Kd.C (Kd.int .i64) w A0_1 l0_1.length l0_1) (hc0_1 : l0_1.length ≤ c0_1) (h : bIsign.f a0_0 l0_1 = some r) :
  Calls Tryz.prog 97 #[.agg #[.bool a0_0, .slice A0_1 l0_1.length c0_1]] w fun e w' => e = .returned (.int .i64 r) ∧ Below w.heap.size w w' := by
 have hu88 := Tryz.underlying122
 have HR0_1 := Z0.mk hr0_1
 have HC0_1 := Z0.mk hc0_1
 clear hr0_1 hc0_1
 have HB := Z0.mk (Below.refl w.heap.size w)
 have H := h
 clear h
 unfold bIsign.f at H
 rcases je H with ⟨-, c2b0, c2b1, H⟩ | ⟨c2, c2b0, c2b1, H⟩
 ·obtain rfl := Option.some.inj H
  go_enter Tryz.func97, Tryz.ntmps97
  go_wp2_with (first | ((with_reducible refine gd_ 1 rfl ?_); refine bxE 1 #[.bool a0_0, .slice A0_1 l0_1.length c0_1] 122 ?_; intro gb329 hg w3 hbox hb; have BK329 := Z0.mk hbox; have GW329 := fE HB hg; have GE329 := fE HB hg; replace HB := fB HB hb; clear hb hbox hg; obtain ⟨hcz4_0, hcz4_1, hfz4_0, hfz4_1⟩ := b2 BK329))
  go_ret
  exact finE
 have c2b2 : ¬ (l0_1 = []) := fun h_ => c2 (by rw [h_]; rfl)
 by_cases c5 : a0_0 = true
 ·subst c5
  have H1 : (some (-1)) = some r := by rw [if_pos rfl] at H; exact H
  clear H
  have H := H1
  clear H1
  obtain rfl := Option.some.inj H
  go_enter Tryz.func97, Tryz.ntmps97
  go_wp2_with (first | ((with_reducible refine gd_ 1 rfl ?_); refine bxE 1 #[.bool true, .slice A0_1 l0_1.length c0_1] 122 ?_; intro gb329 hg w6 hbox hb; have BK329 := Z0.mk hbox; have GW329 := fE HB hg; have GE329 := fE HB hg; replace HB := fB HB hb; clear hb hbox hg; obtain ⟨hcz7_0, hcz7_1, hfz7_0, hfz7_1⟩ := b2 BK329))
  go_ret
  exact finE
 replace c5 := Bool.eq_false_iff.mpr c5
 subst c5
 have H1 : (some 1) = some r := by rw [if_neg (show ¬ (false = true) by decide)] at H; exact H
 clear H
 have H := H1
 clear H1
 obtain rfl := Option.some.inj H
 go_enter Tryz.func97, Tryz.ntmps97
 go_wp2_with (first | ((with_reducible refine gd_ 1 rfl ?_); refine bxE 1 #[.bool false, .slice A0_1 l0_1.length c0_1] 122 ?_; intro gb329 hg w8 hbox hb; have BK329 := Z0.mk hbox; have GW329 := fE HB hg; have GE329 := fE HB hg; replace HB := fB HB hb; clear hb hbox hg; obtain ⟨hcz9_0, hcz9_1, hfz9_0, hfz9_1⟩ := b2 BK329))
 go_ret
 exact finE
set_option linter.unusedVariables false
set_option linter.unusedSimpArgs false
instance : Ctr 96 (type_of% @bIpair.calls) := ⟨@bIpair.calls, _, Tryz.func96, by kernel_rfl, rfl⟩
instance : Ctr 101 (type_of% @bIsum.calls) := ⟨@bIsum.calls, _, Tryz.func101, by kernel_rfl, rfl⟩
instance : Ctr 106 (type_of% @bIwritten.calls) := ⟨@bIwritten.calls, _, Tryz.func106, by kernel_rfl, rfl⟩
theorem bIAdd.calls (k : Nat) (a0 : ByteArray) (a1 : ByteArray) (r1 : ByteArray) (r2 : Int) (w : World) (hL : LaidW w) (h : bIAdd.f k a0 a1 = some (r1, r2)) :
  Calls Tryz.prog 108 #[.string a0, .string a1] w fun e w' => e = .returned (.tuple #[.string r1, .int .i64 r2]) ∧ Below w.heap.size w w' := by
 have HB := Z0.mk (Below.refl w.heap.size w)
 unfold bIAdd.f at h
 obtain ⟨⟨n0, l0, n1, l1, e⟩, A1, h⟩ := bnd h
 dsimp only at h
 have hu88 := Tryz.underlying122
 go_enter Tryz.func108, Tryz.ntmps108
 go_upto_region 2 with (refine cX rfl ?_; rintro _ w1 ⟨X0, c0, X1, c1, rfl, C0, hc0, C1, hc1, hb⟩; refine ⟨_, rfl, ?_⟩; replace HB := fB HB hb; clear hb)
 refine al2 ?_
 intro W hb B0 B1
 replace HB := fB HB hb
 rcases je h with ⟨-, e0, e1, h⟩ | ⟨-, e0, e1, h⟩
 · obtain ⟨⟨n, l⟩, A2, h⟩ := bnd h
   obtain ⟨⟨s, e'⟩, A3, h⟩ := bnd h
   cases h
   obtain ⟨p0, p1, -, -⟩ := b2 B0
   obtain ⟨q0, q1, -, -⟩ := b2 B1
   go_wp2_with (first
    | ((with_reducible refine gc_ 101 rfl ?_); refine cX rfl ?_; rintro _ w2 ⟨v, rfl, ho, hb2⟩; refine ⟨_, rfl, ?_⟩; replace HB := fB HB hb2; obtain ⟨X, c, rfl, hc, C⟩ := Kd.R_reads ho)
    | (refine cG rfl ?_; intro w' hb; replace HB := fB HB hb))
   go_ret2
   exact ⟨rfl, HB.out⟩
 · cases h
   go_wp2
   go_ret2
   exact ⟨rfl, HB.out⟩
theorem neg_ok (n : Bool) (X : Option Addr) (l c : Nat) (w : World) :
  Calls Tryz.prog 102 #[.agg #[.bool n, .slice X l c]] w fun e w' => e = .returned (.agg #[.bool (!n), .slice X l c]) ∧ Below w.heap.size w w' := by
 have hu88 := Tryz.underlying122
 go_enter Tryz.func102, Tryz.ntmps102
 go_upto_region 1 with (fail)
 refine al2 ?_
 intro W hb B0 B1
 obtain ⟨p0, p1, -, -⟩ := b2 B0
 obtain ⟨q0, q1, f0, f1⟩ := b2 B1
 go_wp2
 refine bodyPost_ret (results_cell_row rfl _ _ (w.heap.size + 1) 122 #[.bool (!n), .slice X l c] (0, 0) _ rfl (blk_put (blk_put B1.out 0 _ rfl) 1 _ rfl) Tryz.underlying122 rfl (by kernel_rfl)) rfl ⟨rfl, below_set (below_set hb (by omega)) (by omega)⟩
instance : Ctr 102 (type_of% @neg_ok) := ⟨@neg_ok, _, Tryz.func102, by kernel_rfl, rfl⟩
theorem bISub.calls (k : Nat) (a0 : ByteArray) (a1 : ByteArray) (r1 : ByteArray) (r2 : Int) (w : World) (hL : LaidW w) (h : bISub.f k a0 a1 = some (r1, r2)) :
  Calls Tryz.prog 159 #[.string a0, .string a1] w fun e w' => e = .returned (.tuple #[.string r1, .int .i64 r2]) ∧ Below w.heap.size w w' := by
 have HB := Z0.mk (Below.refl w.heap.size w)
 unfold bISub.f at h
 obtain ⟨⟨n0, l0, n1, l1, e⟩, A1, h⟩ := bnd h
 dsimp only at h
 have hu88 := Tryz.underlying122
 go_enter Tryz.func159, Tryz.ntmps159
 go_upto_region 2 with (refine cX rfl ?_; rintro _ w1 ⟨X0, c0, X1, c1, rfl, C0, hc0, C1, hc1, hb⟩; refine ⟨_, rfl, ?_⟩; replace HB := fB HB hb; clear hb)
 refine al2 ?_
 intro W hb B0 B1
 replace HB := fB HB hb
 rcases je h with ⟨-, e0, e1, h⟩ | ⟨-, e0, e1, h⟩
 · obtain ⟨⟨n, l⟩, A2, h⟩ := bnd h
   cases A2.out
   obtain ⟨⟨n, l⟩, A2, h⟩ := bnd h
   obtain ⟨⟨s, e'⟩, A3, h⟩ := bnd h
   cases h
   go_wp2
   have hd := (Below.refl W.heap.size W).drew
   replace B0 := fk B0 hd
   replace B1 := fk B1 hd
   replace HB := fB HB hd
   replace C0 := Kd.C_below C0 (below_step hb hd)
   replace C1 := Kd.C_below C1 (below_step hb hd)
   go_region_held3 (fun w' => w'.cell? ⟨w1.heap.size, 0, none⟩ = some (.bool n0) ∧ w'.cell? ⟨w1.heap.size, 1, none⟩ = some (.slice X0 l0.length c0) ∧ w'.cell? ⟨w1.heap.size + 1, 0, none⟩ = some (.bool n1) ∧ w'.cell? ⟨w1.heap.size + 1, 1, none⟩ = some (.slice X1 l1.length c1))
    (exact ⟨(b2 B0).1, (b2 B0).2.1, (b2 B1).1, (b2 B1).2.1⟩)
    (first
    | (go_at_call 101; refine (bIsum.calls _ _ _ _ _ _ _ _ _ _ _ _ C0 hc0 C1 hc1 A2.out).mono ?_; rintro _ w2 ⟨v, rfl, ho, hb'⟩; replace B0 := fk B0 hb'; replace B1 := fk B1 hb'; replace HB := fB HB hb'; obtain ⟨X, c, rfl, hc, C⟩ := Kd.R_reads ho)
    | ((with_reducible refine atC ?_); refine cC ?_; intro w' hb'; (try replace C0 := Kd.C_below C0 hb'); (try replace C1 := Kd.C_below C1 hb'); replace B0 := fk B0 hb'; replace B1 := fk B1 hb'; replace HB := fB HB hb'))
   all_goals go_wp2
   go_ret2
   exact ⟨rfl, HB.out⟩
 · cases h
   go_wp2
   go_ret2
   exact ⟨rfl, HB.out⟩
instance : Ctr 97 (type_of% @bIsign.calls) := ⟨@bIsign.calls, _, Tryz.func97, by kernel_rfl, rfl⟩
instance : Ctr 103 (type_of% @bIproduct.calls) := ⟨@bIproduct.calls, _, Tryz.func103, by kernel_rfl, rfl⟩
theorem bICompare.calls (k : Nat) (a0 : ByteArray) (a1 : ByteArray) (r1 : Int) (r2 : Int) (w : World) (h : bICompare.f k a0 a1 = some (r1, r2)) :
  Calls Tryz.prog 56 #[.string a0, .string a1] w fun e w' => e = .returned (.tuple #[.int .i64 r1, .int .i64 r2]) ∧ Below w.heap.size w w' := by
 have HB := Z0.mk (Below.refl w.heap.size w)
 unfold bICompare.f at h
 obtain ⟨⟨n0, l0, n1, l1, e⟩, A1, h⟩ := bnd h
 dsimp only at h
 have hu88 := Tryz.underlying122
 go_enter Tryz.func56, Tryz.ntmps56
 go_upto_region 2 with (refine cX rfl ?_; rintro _ w1 ⟨X0, c0, X1, c1, rfl, C0, hc0, C1, hc1, hb⟩; refine ⟨_, rfl, ?_⟩; replace HB := fB HB hb; clear hb)
 refine al2 ?_
 intro W hb B0 B1
 replace HB := fB HB hb
 rcases je h with ⟨-, e0, e1, h⟩ | ⟨-, e0, e1, h⟩
 · obtain ⟨⟨n, l⟩, A2, h⟩ := bnd h
   cases A2.out
   obtain ⟨⟨n, l⟩, A2, h⟩ := bnd h
   obtain ⟨s, A3, h⟩ := bnd h
   cases h
   go_wp2
   have hd := (Below.refl W.heap.size W).drew
   replace B0 := fk B0 hd
   replace B1 := fk B1 hd
   replace HB := fB HB hd
   replace C0 := Kd.C_below C0 (below_step hb hd)
   replace C1 := Kd.C_below C1 (below_step hb hd)
   go_region_held3 (fun w' => w'.cell? ⟨w1.heap.size, 0, none⟩ = some (.bool n0) ∧ w'.cell? ⟨w1.heap.size, 1, none⟩ = some (.slice X0 l0.length c0) ∧ w'.cell? ⟨w1.heap.size + 1, 0, none⟩ = some (.bool n1) ∧ w'.cell? ⟨w1.heap.size + 1, 1, none⟩ = some (.slice X1 l1.length c1))
    (exact ⟨(b2 B0).1, (b2 B0).2.1, (b2 B1).1, (b2 B1).2.1⟩)
    (first
    | (go_at_call 101; refine (bIsum.calls _ _ _ _ _ _ _ _ _ _ _ _ C0 hc0 C1 hc1 A2.out).mono ?_; rintro _ w2 ⟨v, rfl, ho, hb'⟩; replace B0 := fk B0 hb'; replace B1 := fk B1 hb'; replace HB := fB HB hb'; obtain ⟨X, c, rfl, hc, C⟩ := Kd.R_reads ho)
    | ((with_reducible refine atC ?_); refine cC ?_; intro w' hb'; (try replace C0 := Kd.C_below C0 hb'); (try replace C1 := Kd.C_below C1 hb'); replace B0 := fk B0 hb'; replace B1 := fk B1 hb'; replace HB := fB HB hb'))
   all_goals go_wp2
   go_ret2
   exact ⟨rfl, HB.out⟩
 · cases h
   go_wp2
   go_ret2
   exact ⟨rfl, HB.out⟩
theorem bIMul.calls (k : Nat) (a0 : ByteArray) (a1 : ByteArray) (r1 : ByteArray) (r2 : Int) (w : World) (hL : LaidW w) (h : bIMul.f k a0 a1 = some (r1, r2)) :
  Calls Tryz.prog 95 #[.string a0, .string a1] w fun e w' => e = .returned (.tuple #[.string r1, .int .i64 r2]) ∧ Below w.heap.size w w' := by
 have HB := Z0.mk (Below.refl w.heap.size w)
 unfold bIMul.f at h
 obtain ⟨⟨n0, l0, n1, l1, e⟩, A1, h⟩ := bnd h
 dsimp only at h
 have hu88 := Tryz.underlying122
 go_enter Tryz.func95, Tryz.ntmps95
 go_upto_region 2 with (refine cX rfl ?_; rintro _ w1 ⟨X0, c0, X1, c1, rfl, C0, hc0, C1, hc1, hb⟩; refine ⟨_, rfl, ?_⟩; replace HB := fB HB hb; clear hb)
 refine al2 ?_
 intro W hb B0 B1
 replace HB := fB HB hb
 rcases je h with ⟨-, e0, e1, h⟩ | ⟨-, e0, e1, h⟩
 · obtain ⟨⟨n, l⟩, A2, h⟩ := bnd h
   obtain ⟨⟨s, e'⟩, A3, h⟩ := bnd h
   cases h
   obtain ⟨p0, p1, -, -⟩ := b2 B0
   obtain ⟨q0, q1, -, -⟩ := b2 B1
   go_wp2_with (first
    | ((with_reducible refine gc_ 103 rfl ?_); refine cX rfl ?_; rintro _ w2 ⟨v, rfl, ho, hb2⟩; refine ⟨_, rfl, ?_⟩; replace HB := fB HB hb2; obtain ⟨X, c, rfl, hc, C⟩ := Kd.R_reads ho)
    | (refine cG rfl ?_; intro w' hb; replace HB := fB HB hb))
   go_ret2
   exact ⟨rfl, HB.out⟩
 · cases h
   go_wp2
   go_ret2
   exact ⟨rfl, HB.out⟩
instance : Ctr 100 (type_of% @quoC) := ⟨@quoC, _, Tryz.func100, by kernel_rfl, rfl⟩
instance : Ctr 105 (type_of% @comC) := ⟨@comC, _, Tryz.func105, by kernel_rfl, rfl⟩
instance : Ctr 98 (type_of% @bInumber_text.calls) := ⟨@bInumber_text.calls, _, Tryz.func98, by kernel_rfl, rfl⟩
theorem bIdivided.calls (k : Nat) (a0 : ByteArray) (a1 : ByteArray) (r1 : ByteArray) (r2 : ByteArray) (r3 : Int) (w : World) (hL : LaidW w) (h : bIdivided.f k a0 a1 = some (r1, r2, r3)) :
  Calls Tryz.prog 111 #[.string a0, .string a1] w fun e w' => e = .returned (.tuple #[.string r1, .string r2, .int .i64 r3]) ∧ Below w.heap.size w w' := by
 have HB := Z0.mk (Below.refl w.heap.size w)
 unfold bIdivided.f at h
 obtain ⟨⟨n0, l0, n1, l1, e⟩, A1, h⟩ := bnd h
 dsimp only at h
 have hu := Tryz.underlying122
 go_enter Tryz.func111, Tryz.ntmps111
 go_upto_region 2 with (refine cX rfl ?_; rintro _ w1 ⟨X0, c0, X1, c1, rfl, C0, hc0, C1, hc1, hb⟩; refine ⟨_, rfl, ?_⟩; replace HB := fB HB hb; clear hb)
 refine al2 ?_
 intro W hb B0 B1
 replace HB := fB HB hb
 replace C0 := Kd.C_below C0 hb
 replace C1 := Kd.C_below C1 hb
 clear hb
 obtain ⟨p0, p1, -, -⟩ := b2 B0
 obtain ⟨q0, q1, -, -⟩ := b2 B1
 rcases je h with ⟨-, e0, e1, h⟩ | ⟨-, e0, e1, h⟩
 · rcases je h with ⟨e2, e3, e4, h⟩ | ⟨e2, e3, e4, h⟩
   · cases h
     have e5 : (l1.length == 0) = true := by rw [beq_iff_eq]; omega
     go_wp2
     refine bodyPost_ret (results_list (rs := [.tmp 4, .tmp 5, .tmp 6]) rfl (by simp) (.tmp (.tmp (.tmp .nil)))) rfl ?_
     exact ⟨rfl, HB.out⟩
   obtain ⟨⟨s0, m0, s1, m1⟩, A2, h⟩ := bnd h
   obtain ⟨t0, A3, h⟩ := bnd h
   obtain ⟨t1, A4, h⟩ := bnd h
   cases h
   have e5 : (l1.length == 0) = false := by rw [beq_eq_false_iff_ne]; omega
   go_upto_region 7 with ((with_reducible refine gc_ 100 rfl ?_); refine cX rfl ?_; rintro _ w2 ⟨Y0, f0, Y1, f1, rfl, D0, g0, D1, g1, hb⟩; refine ⟨_, rfl, ?_⟩; replace HB := fB HB hb; clear hb)
   clear B0 B1 p0 p1 q0 q1 C0 C1
   refine al2 ?_
   intro W2 hb B0 B1
   have hd := hb.drew
   replace B0 := Z0.mk (blk_drew B0.out)
   replace B1 := Z0.mk (blk_drew B1.out)
   replace HB := fB HB hd
   replace D0 := Kd.C_below D0 hd
   replace D1 := Kd.C_below D1 hd
   go_region_held3 (fun w' => w'.cell? ⟨w2.heap.size, 0, none⟩ = some (.bool s0) ∧ w'.cell? ⟨w2.heap.size, 1, none⟩ = some (.slice Y0 m0.length f0) ∧ w'.cell? ⟨w2.heap.size + 1, 0, none⟩ = some (.bool s1) ∧ w'.cell? ⟨w2.heap.size + 1, 1, none⟩ = some (.slice Y1 m1.length f1))
    (exact ⟨(b2 B0).1, (b2 B0).2.1, (b2 B1).1, (b2 B1).2.1⟩)
    (first
    | ((with_reducible refine atC ?_); refine cC ?_; intro w' hb'; replace D0 := Kd.C_below D0 hb'; replace D1 := Kd.C_below D1 hb'; replace B0 := fk B0 hb'; replace B1 := fk B1 hb'; replace HB := fB HB hb'))
   all_goals go_wp2
   refine bodyPost_ret (results_list (rs := [.tmp 4, .tmp 5, .tmp 6]) rfl (by simp) (.tmp (.tmp (.tmp .nil)))) rfl ?_
   exact ⟨rfl, HB.out⟩
 · cases h
   go_wp2
   refine bodyPost_ret (results_list (rs := [.tmp 4, .tmp 5, .tmp 6]) rfl (by simp) (.tmp (.tmp (.tmp .nil)))) rfl ?_
   exact ⟨rfl, HB.out⟩
theorem bIGcd.calls (k : Nat) (a0 : ByteArray) (a1 : ByteArray) (r1 : ByteArray) (r2 : Int) (w : World) (hL : LaidW w) (h : bIGcd.f k a0 a1 = some (r1, r2)) :
  Calls Tryz.prog 48 #[.string a0, .string a1] w fun e w' => e = .returned (.tuple #[.string r1, .int .i64 r2]) ∧ Below w.heap.size w w' := by
 have HB := Z0.mk (Below.refl w.heap.size w)
 unfold bIGcd.f at h
 obtain ⟨⟨n0, l0, n1, l1, e⟩, A1, h⟩ := bnd h
 dsimp only at h
 have hu := Tryz.underlying122
 go_enter Tryz.func48, Tryz.ntmps48
 go_upto_region 2 with (refine cX rfl ?_; rintro _ w1 ⟨X0, c0, X1, c1, rfl, C0, hc0, C1, hc1, hb⟩; refine ⟨_, rfl, ?_⟩; replace HB := fB HB hb; clear hb)
 refine al2 ?_
 intro W hb B0 B1
 replace HB := fB HB hb
 replace C0 := Kd.C_below C0 hb
 replace C1 := Kd.C_below C1 hb
 clear hb
 obtain ⟨p0, p1, -, -⟩ := b2 B0
 obtain ⟨q0, q1, -, -⟩ := b2 B1
 rcases je h with ⟨-, e0, e1, h⟩ | ⟨-, e0, e1, h⟩
 · obtain ⟨l, A2, h⟩ := bnd h
   obtain ⟨s, A3, h⟩ := bnd h
   cases h
   go_wp2_with (first
    | ((with_reducible refine gc_ 105 rfl ?_); refine cX rfl ?_; rintro _ w2 ⟨X, c, rfl, C, hc, hb⟩; refine ⟨_, rfl, ?_⟩; replace HB := fB HB hb; clear hb)
    | (refine cG rfl ?_; intro w' hb; replace HB := fB HB hb; clear hb))
   go_ret2
   exact ⟨rfl, HB.out⟩
 · cases h
   go_wp2
   go_ret2
   exact ⟨rfl, HB.out⟩
set_option linter.unusedVariables false
attribute [local go_sem] max2_int min2_int max_two min_two max_three min_three max_four min_four
set_option linter.unusedSimpArgs false
theorem rAdigits.calls (a0 : ByteArray) (r : Int) (w : World) (h : rAdigits.f a0 = some r) :
  Calls Tryz.prog 155 #[.string a0] w fun e w' => e = .returned (.int .i64 r) ∧ Drawn0 w w' := by
 have H := h
 clear h
 unfold rAdigits.f at H
 obtain ⟨t192, A2, H⟩ := bnd H
 obtain rfl := Option.some.inj H
 go_enter Tryz.func155, Tryz.ntmps155
 go_wp2_with (first | ((with_reducible refine gc_ 110 rfl ?_); refine goD (some 4) Tryz.func110 #[.string a0, .string (⟨#[45]⟩ : ByteArray)] (strings_TrimPrefix.calls a0 (⟨#[45]⟩ : ByteArray) t192 _ A2.out) ?_; intro nd))
 go_ret
 exact finD
theorem rAcommon.calls (k : Nat) (a0 : ByteArray) (a1 : ByteArray) (r : Bool) (w : World) (hL : LaidW w) (h : rAcommon.f k a0 a1 = some r) :
  Calls Tryz.prog 154 #[.string a0, .string a1] w fun e w' => e = .returned (.bool r) ∧ Below w.heap.size w w' := by
 have HB := Z0.mk (Below.refl w.heap.size w)
 have H := h
 clear h
 unfold rAcommon.f at H
 have HC3 := Z0.mk H
 clear H
 go_enter Tryz.func154, Tryz.ntmps154
 go_upto_region 1 with (fail)
 go_cut [16] (fun v16 wc => ∃ (kq : Nat) (x16_2 : Bool), v16 = .bool x16_2 ∧ Z0 (rAcommon.j0 kq a0 a1 x16_2 = some r) ∧ Z0 (kq ≤ k) ∧ Z0 (Below w.heap.size w wc))
 case first =>
  have H := HC3.out
  clear HC3
  obtain ⟨t201, A4, H⟩ := bnd H
  rcases jd H with ⟨-, c5b0, H⟩ | ⟨-, c5b0, H⟩
  ·(first | rw [c5b0] | (simp only [i64_w, i32_w]; rw [c5b0]) | skip)
   obtain ⟨t202, A6, H⟩ := bnd H
   have H' := Z0.mk H
   clear H
   go_wp2_with (first | ((with_reducible refine gc_ 155 rfl ?_); refine goD (some 10) Tryz.func155 #[.string a0] (rAdigits.calls a0 t201 _ A4.out) ?_; intro nd) | (go_at_call 155; (with_reducible refine (rAdigits.calls a1 t202 _ A6.out).mono ?_); rintro e w' ⟨rfl, ⟨nd, rfl⟩⟩))
   go_meet
   case rel => exact ⟨_, (decide (t202 ≤ 4096)), fs, H', ⟨by first | omega | exact Nat.le_refl _⟩, ⟨bqs⟩⟩
  (first | rw [c5b0] | (simp only [i64_w, i32_w]; rw [c5b0]) | skip)
  have H' := Z0.mk H
  clear H
  go_wp2_with (first | ((with_reducible refine gc_ 155 rfl ?_); refine goD (some 10) Tryz.func155 #[.string a0] (rAdigits.calls a0 t201 _ A4.out) ?_; intro nd))
  go_meet
  case rel => exact ⟨_, (false), fs, H', ⟨by first | omega | exact Nat.le_refl _⟩, ⟨bqs⟩⟩
 case rest =>
  clear HC3
  try clear p2
  try clear c5
  try clear c5b0
  obtain ⟨kq, x16_2, rfl, HA, HJ2, HB⟩ := hcut
  cases kq with
  | zero => exact absurd HA.out (by simp [rAcommon.j0])
  | succ kj2 =>
   have H := HA.out
   clear HA
   simp only [rAcommon.j0] at H
   by_cases c7 : x16_2 = true
   ·subst c7
    have H1 : ((bIGcd.f kj2 a0 a1).bind fun bt203 => (if bt203.2 = 0 then (some (bt203.1.toList != ([49] : List UInt8))) else (some true))) = some r := by rw [if_pos rfl] at H; exact H
    clear H
    have H := H1
    clear H1
    obtain ⟨⟨t203, t204⟩, A8, H⟩ := bnd H
    try dsimp only at H
    rcases je H with ⟨-, c9b0, c9b1, H⟩ | ⟨c9, c9b0, c9b1, H⟩
    ·obtain rfl := Option.some.inj H
     go_wp2_with (first | ((with_reducible refine gc_ 48 rfl ?_); refine goB (some 20) Tryz.func48 #[.string a0, .string a1] bq (bIGcd.calls kj2 a0 a1 t203 t204 _ (hL.below bq) A8.out) ?_; clear HB; intro w10 HB))
     go_ret
     exact finE
    obtain rfl := Option.some.inj H
    go_wp2_with (first | ((with_reducible refine gc_ 48 rfl ?_); refine goB (some 20) Tryz.func48 #[.string a0, .string a1] bq (bIGcd.calls kj2 a0 a1 t203 t204 _ (hL.below bq) A8.out) ?_; clear HB; intro w11 HB))
    go_ret
    exact finE
   replace c7 := Bool.eq_false_iff.mpr c7
   subst c7
   exact absurd (if_neg (show ¬ (false = true) by decide) ▸ H) (by simp)
theorem rAsplit.calls (a0 : ByteArray) (r1 : ByteArray) (r2 : ByteArray) (w : World) (h : rAsplit.f a0 = some (r1, r2)) :
  Calls Tryz.prog 120 #[.string a0] w fun e w' => e = .returned (.tuple #[.string r1, .string r2]) ∧ Below w.heap.size w w' := by
 have HB := Z0.mk (Below.refl w.heap.size w)
 have H := h
 clear h
 unfold rAsplit.f at H
 obtain ⟨t101, A2, H⟩ := bnd H
 rcases jh H with ⟨-, c3b0, H⟩ | ⟨-, c3b0, H⟩
 ·obtain ⟨-, c4b0, c4b1, H⟩ := gt H
  obtain ⟨-, c5b0, c5b1, H⟩ := gt H
  obtain ⟨ji6, hji6⟩ : ∃ j_ : Int, (wrap64 (t101 + 1)) = j_ := ⟨_, rfl⟩
  replace H : (if 0 ≤ (ji6) then (if (ji6) ≤ (a0.size : Int) then (some (a0.extract 0 (t101 : Int).toNat, a0.extract ((ji6) : Int).toNat a0.size)) else (none)) else (none)) = some (r1, r2) := by first | (rw [hji6] at H; exact H) | (simp only [hji6] at H ⊢; exact H)
  (try rw [hji6] at A2)
  have hji6w : (IntKind.i64.wrap (t101 + 1)) = ji6 := (i64_w _).trans hji6
  obtain ⟨-, c7b0, c7b1, H⟩ := gt H
  obtain ⟨-, c8b0, c8b1, H⟩ := gt H
  simp only [Option.some.injEq, Prod.mk.injEq] at H
  obtain ⟨rfl, rfl⟩ := H
  go_enter Tryz.func120, Tryz.ntmps120
  go_wp2_with (first | (go_at_call 157; (with_reducible refine (strings_IndexByte.calls a0 47 t101 _ A2.out).mono ?_); rintro e w9 ⟨rfl, hb⟩; replace HB := fB HB hb; clear hb) | (go_quiet (first | (go_at_call 157; (with_reducible refine (strings_IndexByte.calls a0 47 t101 _ A2.out).mono ?_); rintro e w9 ⟨rfl, hb⟩; replace HB := fB HB hb; clear hb))))
  go_ret2
  exact ⟨by first | rfl | (simp [errW_none, errW_some] <;> rfl) | (simp only [← hji6]; first | rfl | (simp [errW_none, errW_some] <;> rfl)) | (simp [*, errW_none, errW_some] <;> rfl), bqs⟩
 simp only [Option.some.injEq, Prod.mk.injEq] at H
 obtain ⟨rfl, rfl⟩ := H
 go_enter Tryz.func120, Tryz.ntmps120
 go_wp2_with (first | (go_at_call 157; (with_reducible refine (strings_IndexByte.calls a0 47 t101 _ A2.out).mono ?_); rintro e w10 ⟨rfl, hb⟩; replace HB := fB HB hb; clear hb) | (go_quiet (first | (go_at_call 157; (with_reducible refine (strings_IndexByte.calls a0 47 t101 _ A2.out).mono ?_); rintro e w10 ⟨rfl, hb⟩; replace HB := fB HB hb; clear hb))))
 go_ret2
 exact finE
theorem rACheck.calls (k : Nat) (a0 : ByteArray) (r : Int) (w : World) (hL : LaidW w) (h : rACheck.f k a0 = some r) :
  Calls Tryz.prog 117 #[.string a0] w fun e w' => e = .returned (.int .i64 r) ∧ Below w.heap.size w w' := by
 have HB := Z0.mk (Below.refl w.heap.size w)
 have H := h
 clear h
 unfold rACheck.f at H
 obtain ⟨⟨t215, t216⟩, A2, H⟩ := bnd H
 try dsimp only at H
 have HC3 := Z0.mk H
 clear H
 go_enter Tryz.func117, Tryz.ntmps117
 go_upto_region 2 with (first | ((with_reducible refine gc_ 120 rfl ?_); refine goB (some 7) Tryz.func120 #[.string a0] bq (rAsplit.calls a0 t215 t216 _ A2.out) ?_; clear HB; intro w4 HB))
 (try simp only [Act.put, List.setIfInBounds_toArray, List.set_cons_zero, List.set_cons_succ])
 go_cut [17] (fun v17 wc => ∃ (kq : Nat) (x17_2 : Bool), v17 = .bool x17_2 ∧ Z0 (rACheck.j0 kq a0 t215 t216 x17_2 = some r) ∧ Z0 (kq ≤ k) ∧ Z0 (Below w.heap.size w wc))
 case first =>
  have H := HC3.out
  clear HC3
  obtain ⟨t217, A5, H⟩ := bnd H
  by_cases c6 : t217 = true
  ·subst c6
   have H1 : ((rAcanonical.f t216).bind fun t218 => (rACheck.j0 k a0 t215 t216 (!t218))) = some r := by rw [if_pos rfl] at H; exact H
   clear H
   have H := H1
   clear H1
   obtain ⟨t218, A7, H⟩ := bnd H
   have H' := Z0.mk H
   clear H
   go_wp2_with (first | ((with_reducible refine gc_ 152 rfl ?_); refine goB (some 11) Tryz.func152 #[.string t215] bq (rAcanonical.calls t215 true _ A5.out) ?_; clear HB; intro w8 HB) | (go_at_call 152; (with_reducible refine (rAcanonical.calls t216 t218 _ A7.out).mono ?_); rintro e w9 ⟨rfl, hb⟩; replace HB := fB HB hb; clear hb))
   go_meet
   case rel => exact ⟨_, (!t218), fs, H', ⟨by first | omega | exact Nat.le_refl _⟩, ⟨bqs⟩⟩
  replace c6 := Bool.eq_false_iff.mpr c6
  subst c6
  have H1 : (rACheck.j0 k a0 t215 t216 true) = some r := by rw [if_neg (show ¬ (false = true) by decide)] at H; exact H
  clear H
  have H := H1
  clear H1
  have H' := Z0.mk H
  clear H
  go_wp2_with (first | ((with_reducible refine gc_ 152 rfl ?_); refine goB (some 11) Tryz.func152 #[.string t215] bq (rAcanonical.calls t215 false _ A5.out) ?_; clear HB; intro w10 HB))
  go_meet
  case rel => exact ⟨_, (true), fs, H', ⟨by first | omega | exact Nat.le_refl _⟩, ⟨bqs⟩⟩
 case rest =>
  clear HC3
  try clear c2
  try clear p2
  try clear c6
  try clear c7
  obtain ⟨kq, x17_2, rfl, HA, HJ2, HB⟩ := hcut
  cases kq with
  | zero => exact absurd HA.out (by simp [rACheck.j0])
  | succ kj2 =>
   have H := HA.out
   clear HA
   simp only [rACheck.j0] at H
   by_cases c11 : x17_2 = true
   ·subst c11
    have H1 : (some 3) = some r := by rw [if_pos rfl] at H; exact H
    clear H
    have H := H1
    clear H1
    obtain rfl := Option.some.inj H
    go_wp2
    go_ret
    exact finE
   replace c11 := Bool.eq_false_iff.mpr c11
   subst c11
   have H1 : ((strings_Contains.f a0 (⟨#[47]⟩ : ByteArray)).bind fun t219 => (if t219 = true then (if t216.toList = ([48] : List UInt8) then (rACheck.j1 kj2 t215 t216 true) else (if t216.toList = ([49] : List UInt8) then (rACheck.j1 kj2 t215 t216 true) else (if 0 < (t216.size : Int) then (if (bt t216 0) = 45 then (rACheck.j1 kj2 t215 t216 true) else ((rAcommon.f kj2 t215 t216).bind fun t220 => (rACheck.j1 kj2 t215 t216 t220))) else (none)))) else (rACheck.j1 kj2 t215 t216 false))) = some r := by rw [if_neg (show ¬ (false = true) by decide)] at H; exact H
   clear H
   have H := H1
   clear H1
   have HC12 := Z0.mk H
   clear H
   go_upto_region 4 with (fail)
   go_cut [37] (fun v37 wc => ∃ (kq : Nat) (x37_11 : Bool), v37 = .bool x37_11 ∧ Z0 (rACheck.j1 kq t215 t216 x37_11 = some r) ∧ Z0 (kq ≤ kj2) ∧ Z0 (Below w.heap.size w wc))
   case first =>
    have H := HC12.out
    clear HC12
    obtain ⟨t219, A13, H⟩ := bnd H
    by_cases c14 : t219 = true
    ·subst c14
     have H1 : (if t216.toList = ([48] : List UInt8) then (rACheck.j1 kj2 t215 t216 true) else (if t216.toList = ([49] : List UInt8) then (rACheck.j1 kj2 t215 t216 true) else (if 0 < (t216.size : Int) then (if (bt t216 0) = 45 then (rACheck.j1 kj2 t215 t216 true) else ((rAcommon.f kj2 t215 t216).bind fun t220 => (rACheck.j1 kj2 t215 t216 t220))) else (none)))) = some r := by rw [if_pos rfl] at H; exact H
     clear H
     have H := H1
     clear H1
     rcases je H with ⟨-, c15b0, c15b1, H⟩ | ⟨c15, c15b0, c15b1, H⟩
     ·(first | rw [c15b0] | (simp only [i64_w, i32_w]; rw [c15b0]) | skip)
      have H' := Z0.mk H
      clear H
      go_wp2_with (first | ((with_reducible refine gc_ 153 rfl ?_); refine goB (some 19) Tryz.func153 #[.string a0, .string (⟨#[47]⟩ : ByteArray)] bq (strings_Contains.calls a0 (⟨#[47]⟩ : ByteArray) true _ A13.out) ?_; clear HB; intro w16 HB))
      go_meet
      case rel => exact ⟨_, (true), fs, H', ⟨by have := HJ2.out; first | omega | exact Nat.le_refl _⟩, ⟨bqs⟩⟩
     (first | rw [c15b0] | (simp only [i64_w, i32_w]; rw [c15b0]) | skip)
     rcases je H with ⟨-, c17b0, c17b1, H⟩ | ⟨c17, c17b0, c17b1, H⟩
     ·have H' := Z0.mk H
      clear H
      go_wp2_with (first | ((with_reducible refine gc_ 153 rfl ?_); refine goB (some 19) Tryz.func153 #[.string a0, .string (⟨#[47]⟩ : ByteArray)] bq (strings_Contains.calls a0 (⟨#[47]⟩ : ByteArray) true _ A13.out) ?_; clear HB; intro w18 HB))
      go_meet
      case rel => exact ⟨_, (true), fs, H', ⟨by have := HJ2.out; first | omega | exact Nat.le_refl _⟩, ⟨bqs⟩⟩
     obtain ⟨c19, c19b0, H⟩ := gd H
     have c19b1 : decide (0 < t216.size) = true := decide_eq_true (by omega)
     clear c19
     rcases je H with ⟨-, c21b0, c21b1, H⟩ | ⟨c21, c21b0, c21b1, H⟩
     ·have H' := Z0.mk H
      clear H
      go_wp2_with (first | ((with_reducible refine gc_ 153 rfl ?_); refine gL 19 Tryz.func153 (strings_Contains.calls _ _ _ _ A13.out) ?_; rintro _ w22 ⟨rfl, hb⟩; refine ⟨_, rfl, ?_⟩; replace HB := fB HB hb; clear hb; have p20 : 0 ≤ (0 : Int) := (by omega); have q20 : 0 < t216.size := (by have : (0 : Int) < (t216.size : Int) := od; omega); have hx20 : ∀ h : 0 < t216.size, ((t216[0]'h).toNat : Int) = bt t216 0 := bt_at t216 0; clear p20; have qi20 : (0 < (t216.size : Int)) = True := eq_true od; replace q20 := eq_true q20))
      go_meet
      case rel => exact ⟨_, (true), fs, H', ⟨by have := HJ2.out; first | omega | exact Nat.le_refl _⟩, ⟨bqs⟩⟩
     obtain ⟨t220, A23, H⟩ := bnd H
     have H' := Z0.mk H
     clear H
     go_wp2_with (first | ((with_reducible refine gc_ 153 rfl ?_); refine gL 19 Tryz.func153 (strings_Contains.calls _ _ _ _ A13.out) ?_; rintro _ w24 ⟨rfl, hb⟩; refine ⟨_, rfl, ?_⟩; replace HB := fB HB hb; clear hb; have p20 : 0 ≤ (0 : Int) := (by omega); have q20 : 0 < t216.size := (by have : (0 : Int) < (t216.size : Int) := od; omega); have hx20 : ∀ h : 0 < t216.size, ((t216[0]'h).toNat : Int) = bt t216 0 := bt_at t216 0; clear p20; have qi20 : (0 < (t216.size : Int)) = True := eq_true od; replace q20 := eq_true q20) | (go_at_call 154; (with_reducible refine (rAcommon.calls kj2 t215 t216 t220 _ ?side1 A23.out).mono ?_); (case side1 => exact LaidW.below hL bqs); rintro e w25 ⟨rfl, hb⟩; replace HB := fB HB hb; clear hb))
     go_meet
     case rel => exact ⟨_, (t220), fs, H', ⟨by have := HJ2.out; first | omega | exact Nat.le_refl _⟩, ⟨bqs⟩⟩
    replace c14 := Bool.eq_false_iff.mpr c14
    subst c14
    have H1 : (rACheck.j1 kj2 t215 t216 false) = some r := by rw [if_neg (show ¬ (false = true) by decide)] at H; exact H
    clear H
    have H := H1
    clear H1
    have H' := Z0.mk H
    clear H
    go_wp2_with (first | ((with_reducible refine gc_ 153 rfl ?_); refine goB (some 19) Tryz.func153 #[.string a0, .string (⟨#[47]⟩ : ByteArray)] bq (strings_Contains.calls a0 (⟨#[47]⟩ : ByteArray) false _ A13.out) ?_; clear HB; intro w26 HB))
    go_meet
    case rel => exact ⟨_, (false), fs, H', ⟨by have := HJ2.out; first | omega | exact Nat.le_refl _⟩, ⟨bqs⟩⟩
   case rest =>
    clear HC12
    try clear c1
    try clear c2
    try clear p2
    try clear q2
    try clear hx2
    try clear qi2
    try clear c6
    try clear c7
    try clear c11
    try clear c14
    try clear c15
    try clear c15b0
    try clear c15b1
    try clear c17
    try clear c17b0
    try clear c17b1
    try clear c19
    try clear c19b0
    try clear c19b1
    try clear p20
    try clear q20
    try clear hx20
    try clear qi20
    try clear c21
    try clear c21b0
    try clear c21b1
    try clear p2
    try clear p20
    try clear q20
    obtain ⟨kq, x37_11, rfl, HA, HJ11, HB⟩ := hcut
    cases kq with
    | zero => exact absurd HA.out (by simp [rACheck.j1])
    | succ kj11 =>
     have H := HA.out
     clear HA
     simp only [rACheck.j1] at H
     by_cases c27 : x37_11 = true
     ·subst c27
      have H1 : (some 3) = some r := by rw [if_pos rfl] at H; exact H
      clear H
      have H := H1
      clear H1
      obtain rfl := Option.some.inj H
      go_wp2
      go_ret
      exact finE
     replace c27 := Bool.eq_false_iff.mpr c27
     subst c27
     have H1 : ((rAdigits.f t215).bind fun t221 => (if t221 > 4096 then (some 10) else ((rAdigits.f t216).bind fun t222 => (if t222 > 4096 then (some 10) else (some 0))))) = some r := by rw [if_neg (show ¬ (false = true) by decide)] at H; exact H
     clear H
     have H := H1
     clear H1
     obtain ⟨t221, A28, H⟩ := bnd H
     rcases jg H with ⟨-, c29b0, H⟩ | ⟨-, c29b0, H⟩
     ·obtain rfl := Option.some.inj H
      go_wp2_with (first | ((with_reducible refine gc_ 155 rfl ?_); refine goD (some 39) Tryz.func155 #[.string t215] (rAdigits.calls t215 t221 _ A28.out) ?_; intro nd))
      go_ret
      exact finE
     obtain ⟨t222, A30, H⟩ := bnd H
     rcases jg H with ⟨-, c31b0, H⟩ | ⟨-, c31b0, H⟩
     ·obtain rfl := Option.some.inj H
      go_wp2_with (first | ((with_reducible refine gc_ 155 rfl ?_); refine goD (some 39) Tryz.func155 #[.string t215] (rAdigits.calls t215 t221 _ A28.out) ?_; intro nd) | (go_at_call 155; (with_reducible refine (rAdigits.calls t216 t222 _ A30.out).mono ?_); rintro e w' ⟨rfl, ⟨nd, rfl⟩⟩))
      go_ret
      exact finE
     obtain rfl := Option.some.inj H
     go_wp2_with (first | ((with_reducible refine gc_ 155 rfl ?_); refine goD (some 39) Tryz.func155 #[.string t215] (rAdigits.calls t215 t221 _ A28.out) ?_; intro nd) | (go_at_call 155; (with_reducible refine (rAdigits.calls t216 t222 _ A30.out).mono ?_); rintro e w' ⟨rfl, ⟨nd, rfl⟩⟩))
     go_ret
     exact finE
theorem rANum.calls (k : Nat) (a0 : ByteArray) (r1 : ByteArray) (r2 : Int) (w : World) (hL : LaidW w) (h : rANum.f k a0 = some (r1, r2)) :
  Calls Tryz.prog 78 #[.string a0] w fun e w' => e = .returned (.tuple #[.string r1, .int .i64 r2]) ∧ Below w.heap.size w w' := by
 have HB := Z0.mk (Below.refl w.heap.size w)
 have H := h
 clear h
 unfold rANum.f at H
 obtain ⟨t223, A2, H⟩ := bnd H
 rcases je H with ⟨-, c3b0, c3b1, H⟩ | ⟨c3, c3b0, c3b1, H⟩
 ·obtain ⟨⟨t224, t225⟩, A4, H⟩ := bnd H
  try dsimp only at H
  simp only [Option.some.injEq, Prod.mk.injEq] at H
  obtain ⟨rfl, rfl⟩ := H
  go_enter Tryz.func78, Tryz.ntmps78
  go_wp2_with (first | ((with_reducible refine gc_ 117 rfl ?_); refine goB (some 8) Tryz.func117 #[.string a0] bq (rACheck.calls k a0 t223 _ (hL.below bq) A2.out) ?_; clear HB; intro w5 HB) | ((with_reducible refine gc_ 120 rfl ?_); refine goB (some 14) Tryz.func120 #[.string a0] bq (rAsplit.calls a0 t224 t225 _ A4.out) ?_; clear HB; intro w6 HB))
  go_ret2
  exact finE
 simp only [Option.some.injEq, Prod.mk.injEq] at H
 obtain ⟨rfl, rfl⟩ := H
 go_enter Tryz.func78, Tryz.ntmps78
 go_wp2_with (first | ((with_reducible refine gc_ 117 rfl ?_); refine goB (some 8) Tryz.func117 #[.string a0] bq (rACheck.calls k a0 t223 _ (hL.below bq) A2.out) ?_; clear HB; intro w7 HB))
 go_ret2
 exact finE
theorem rADen.calls (k : Nat) (a0 : ByteArray) (r1 : ByteArray) (r2 : Int) (w : World) (hL : LaidW w) (h : rADen.f k a0 = some (r1, r2)) :
  Calls Tryz.prog 118 #[.string a0] w fun e w' => e = .returned (.tuple #[.string r1, .int .i64 r2]) ∧ Below w.heap.size w w' := by
 have HB := Z0.mk (Below.refl w.heap.size w)
 have H := h
 clear h
 unfold rADen.f at H
 obtain ⟨t226, A2, H⟩ := bnd H
 rcases je H with ⟨-, c3b0, c3b1, H⟩ | ⟨c3, c3b0, c3b1, H⟩
 ·obtain ⟨⟨t227, t228⟩, A4, H⟩ := bnd H
  try dsimp only at H
  simp only [Option.some.injEq, Prod.mk.injEq] at H
  obtain ⟨rfl, rfl⟩ := H
  go_enter Tryz.func118, Tryz.ntmps118
  go_wp2_with (first | ((with_reducible refine gc_ 117 rfl ?_); refine goB (some 8) Tryz.func117 #[.string a0] bq (rACheck.calls k a0 t226 _ (hL.below bq) A2.out) ?_; clear HB; intro w5 HB) | ((with_reducible refine gc_ 120 rfl ?_); refine goB (some 14) Tryz.func120 #[.string a0] bq (rAsplit.calls a0 t227 t228 _ A4.out) ?_; clear HB; intro w6 HB))
  go_ret2
  exact finE
 simp only [Option.some.injEq, Prod.mk.injEq] at H
 obtain ⟨rfl, rfl⟩ := H
 go_enter Tryz.func118, Tryz.ntmps118
 go_wp2_with (first | ((with_reducible refine gc_ 117 rfl ?_); refine goB (some 8) Tryz.func117 #[.string a0] bq (rACheck.calls k a0 t226 _ (hL.below bq) A2.out) ?_; clear HB; intro w7 HB))
 go_ret2
 exact finE
end Go.Proofs.YtihbebbabjklkaaGreatDoor.PA
namespace Go.Proofs.YtihbebbabjklkaaGreatDoor
set_option linter.unusedVariables false
open Go.RowKit Go.Proofs.WWords Go.Proofs.WLast Go.Proofs.WMore PA
set_option linter.unusedSimpArgs false
theorem added_calls (f : FuncId) (w : World) : Calls Tryz.prog 158 #[.func (.func f) #[] #[]] w fun e w' => ∃ g, e = .returned (.func (.func 200) #[] #[.pointer (some ⟨g, 0, none⟩)]) ∧ w'.heap[g]? = some (.cells #[.func (.func f) #[] #[]] 83 (0, 0)) ∧ w.heap.size ≤ g ∧ Below w.heap.size w w' := by
 go_enter Tryz.func158, Tryz.ntmps158
 go_wp2
 go_ret
 exact ⟨w.heap.size, rfl, World.alloc_heap_new w _, Nat.le_refl _, (Below.refl _ w).alloc (Nat.le_refl _) _⟩
theorem check_u8 (e : Bool) (n : Nat) (k : Int) (w : World) : (Instr.checkKey e (n + 1) 5 (.int .u8 k)).run Tryz.prog w = .ok () w := by
 have h2 := run_underlying (P := Tryz.prog) Tryz.underlying5
 unfold Instr.checkKey
 simp [h2]
theorem check_u8' (e : Bool) (k : Int) (w : World) : (Instr.checkKey e 10000 5 (.int .u8 k)).run Tryz.prog w = .ok () w := check_u8 e 9999 k w
theorem run_put (m : Nat) (es : Array MapEntry) (clock : Nat) (k : Int) (v : Value) (w : World) (hb : w.heap[m]? = some (.map es clock)) (hn : Instr.findNow (.int .u8) (.int .u8 k) es.toList 0 = some none) :
    (Instr.mapUpdate 150 (.map (some m)) (.int .u8 k) v).run Tryz.prog w = .ok () (w.putObj m (.map (es.push { key := .int .u8 k, val := v, born := clock }) (clock + 1))) := by
 have h1 := run_underlying (P := Tryz.prog) Tryz.underlying150
 have h2 := run_underlying (P := Tryz.prog) Tryz.underlying5
 unfold Instr.mapUpdate
 simp [h1, h2, check_u8', Instr.findKey, hn, Go.MapKept.run_getObj_map hb, Go.MapKept.run_setObj_map _ hb, World.putObj]
theorem run_look (m : Nat) (es : Array MapEntry) (clock : Nat) (k : Int) (i : Nat) (v : Value) (w : World) (hb : w.heap[m]? = some (.map es clock)) (hn : Instr.findNow (.int .u8) (.int .u8 k) es.toList 0 = some (some (i, v))) :
    (Instr.lookup 150 (.map (some m)) (.int .u8 k) false).run Tryz.prog w = .ok v w := by
 have h1 := run_underlying (P := Tryz.prog) Tryz.underlying150
 have h2 := run_underlying (P := Tryz.prog) Tryz.underlying5
 unfold Instr.lookup
 simp [h1, h2, check_u8', Instr.findKey, hn, Go.MapKept.run_getObj_map hb]
section
variable {P : Program} {ops : Array Oper} {Q : Exit → Act → World → Prop} {rest : List Oper} {o : Oper} {a : Act} {W w1 : World}
theorem gate_ins {k : Int} {v : Operand} (_h : o.op = .insert 150 (.tmp 1) (.const (.int .u8 k)) v) (h : wpList P ops Q (o :: rest) a W) : wpList P ops Q (o :: rest) a W := h
theorem ins_event (m : Nat) (es : Array MapEntry) (clock : Nat) (k : Int) (x : Operand) (v : Value) (hgd : o.guard = none) (hN : o.dst = none) (hop : o.op = .insert 150 (.tmp 1) (.const (.int .u8 k)) x) (hm : a.eval (.tmp 1) = .map (some m)) (hv : a.eval x = v)
    (hb : W.heap[m]? = some (.map es clock)) (hn : Instr.findNow (.int .u8) (.int .u8 k) es.toList 0 = some none)
    (h : ∀ w', w'.heap[m]? = some (.map (es.push { key := .int .u8 k, val := v, born := clock }) (clock + 1)) → W.grownBy w' (some m) → wpList Tryz.prog ops Q rest a w') : wpList Tryz.prog ops Q (o :: rest) a W := by
 refine wpList_plain hgd fun K hK => ?_
 have hr := run_put m es clock k v W hb hn
 unfold Oper.wp
 have he : (execOp a.eval o).run Tryz.prog W = .ok .skip (W.putObj m (.map (es.push { key := .int .u8 k, val := v, born := clock }) (clock + 1))) := by
  have hk : a.eval (.const (.int .u8 k)) = .int .u8 k := rfl
  unfold execOp
  simp [hop, hm, hv, hk, hr]
 rw [he]
 show K (a.put o.dst undef) _
 rw [hN]
 exact hK _ _ (h _ (World.putObj_heap_same (Array.getElem?_eq_some_iff.1 hb).1) (grownBy_putObj' W m _))
end
def ropsE (g1 g2 : Nat) : Array MapEntry := #[⟨.int .u8 43, .func (.func 200) #[] #[.pointer (some ⟨g1, 0, none⟩)], 0⟩, ⟨.int .u8 45, .func (.func 200) #[] #[.pointer (some ⟨g2, 0, none⟩)], 1⟩, ⟨.int .u8 42, .func (.func 160) #[] #[], 2⟩, ⟨.int .u8 47, .func (.func 162) #[] #[], 3⟩]
theorem rops_calls (w : World) : Calls Tryz.prog 122 #[] w fun e w' => ∃ m g1 g2, e = .returned (.map (some m)) ∧ w'.heap[m]? = some (.map (ropsE g1 g2) 4) ∧ w'.heap[g1]? = some (.cells #[.func (.func 108) #[] #[]] 83 (0, 0)) ∧ w'.heap[g2]? = some (.cells #[.func (.func 159) #[] #[]] 83 (0, 0)) ∧ Below w.heap.size w w' := by
 go_enter Tryz.func122, Tryz.ntmps122
 go_wp2_with (first
   | ((with_reducible refine gd_ 1 rfl ?_); refine Kd.event_run rfl (v := .map (some w.heap.size)) (w1 := w.alloc (.map #[] 0)) (by rfl) ?_
      obtain ⟨m, hm⟩ : ∃ m, w.heap.size = m := ⟨_, rfl⟩
      obtain ⟨W0, hW0⟩ : ∃ W0, w.alloc (.map #[] 0) = W0 := ⟨_, rfl⟩
      have hb0 : Below w.heap.size w W0 := by rw [← hW0]; exact (Below.refl _ w).alloc (Nat.le_refl _) _
      have hm0 : W0.heap[m]? = some (.map #[] 0) := by rw [← hW0, ← hm]; exact World.alloc_heap_new w _
      have hml := (Array.getElem?_eq_some_iff.1 hm0).1
      rw [hW0, hm]; clear hW0)
   | ((with_reducible refine gd_ 2 rfl ?_); refine goesL_ (some 2) rfl rfl Tryz.func158 (by kernel_rfl) rfl #[.func (.func 108) #[] #[]] rfl (by (try simp only [List.map_toArray, List.map_cons, List.map_nil]); first | done | rfl) ?_; refine (added_calls 108 _).mono ?_; rintro e w1 ⟨g1, rfl, hg1, hl1, hb1⟩; refine ⟨_, rfl, ?_⟩
      have hm1 : w1.heap[m]? = some (.map #[] 0) := (hb1.block m hml).trans hm0
      have hB1 := hb0.trans (hb1.mono hb0.size))
   | ((with_reducible refine gate_ins (k := 43) rfl ?_); refine ins_event m #[] 0 43 _ _ rfl rfl rfl rfl rfl hm1 rfl ?_; intro w2 hm2 hw2
      have hg12 : w2.heap[g1]? = some (.cells #[.func (.func 108) #[] #[]] 83 (0, 0)) := (hw2.block g1 (Array.getElem?_eq_some_iff.1 hg1).1 (fun e => by cases e; omega)).trans hg1
      have hB2 := hB1.grown hw2 hB1.size (fun k e => by cases e; omega)
      have hml2 := (Array.getElem?_eq_some_iff.1 hm2).1)
   | ((with_reducible refine gd_ 3 rfl ?_); refine goesL_ (some 3) rfl rfl Tryz.func158 (by kernel_rfl) rfl #[.func (.func 159) #[] #[]] rfl (by (try simp only [List.map_toArray, List.map_cons, List.map_nil]); first | done | rfl) ?_; refine (added_calls 159 _).mono ?_; rintro e w3 ⟨g2, rfl, hg2, hl2, hb3⟩; refine ⟨_, rfl, ?_⟩
      have hm3 := (hb3.block m hml2).trans hm2
      have hg13 := (hb3.block g1 (Array.getElem?_eq_some_iff.1 hg12).1).trans hg12
      have hB3 := hB2.trans (hb3.mono hB2.size))
   | ((with_reducible refine gate_ins (k := 45) rfl ?_); refine ins_event m _ 1 45 _ _ rfl rfl rfl rfl rfl hm3 rfl ?_; intro w4 hm4 hw4
      have hg14 := (hw4.block g1 (Array.getElem?_eq_some_iff.1 hg13).1 (fun e => by cases e; omega)).trans hg13
      have hg24 := (hw4.block g2 (Array.getElem?_eq_some_iff.1 hg2).1 (fun e => by cases e; omega)).trans hg2
      have hB4 := hB3.grown hw4 hB3.size (fun k e => by cases e; omega))
   | ((with_reducible refine gate_ins (k := 42) rfl ?_); refine ins_event m _ 2 42 _ _ rfl rfl rfl rfl rfl hm4 rfl ?_; intro w5 hm5 hw5
      have hg15 := (hw5.block g1 (Array.getElem?_eq_some_iff.1 hg14).1 (fun e => by cases e; omega)).trans hg14
      have hg25 := (hw5.block g2 (Array.getElem?_eq_some_iff.1 hg24).1 (fun e => by cases e; omega)).trans hg24
      have hB5 := hB4.grown hw5 hB4.size (fun k e => by cases e; omega))
   | ((with_reducible refine gate_ins (k := 47) rfl ?_); refine ins_event m _ 3 47 _ _ rfl rfl rfl rfl rfl hm5 rfl ?_; intro w6 hm6 hw6
      have hg16 := (hw6.block g1 (Array.getElem?_eq_some_iff.1 hg15).1 (fun e => by cases e; omega)).trans hg15
      have hg26 := (hw6.block g2 (Array.getElem?_eq_some_iff.1 hg25).1 (fun e => by cases e; omega)).trans hg25
      have hB6 := hB5.grown hw6 hB5.size (fun k e => by cases e; omega)))
 go_ret
 exact ⟨m, rfl, g1, g2, hm6, hg16, hg26, by rw [← hm]; exact hB6⟩
end Go.Proofs.YtihbebbabjklkaaGreatDoor
namespace Go.Proofs.YtihbebbabjklkaaGreatDoor.PA
set_option linter.unusedVariables false
open Go.RowKit Go.Proofs.WWords Go.Proofs.WLast Go.Proofs.WMore
attribute [local go_sem] max2_int min2_int max_two min_two max_three min_three max_four min_four
set_option linter.unusedSimpArgs false
theorem rAboth.calls (k : Nat) (a0 : ByteArray) (a1 : ByteArray) (a2 : ByteArray) (a3 : ByteArray) (r1 : ByteArray) (r2 : ByteArray) (r3 : Int) (w : World) (hL : LaidW w) (h : rAboth.f k a0 a1 a2 a3 = some (r1, r2, r3)) :
  Calls Tryz.prog 161 #[.string a0, .string a1, .string a2, .string a3] w fun e w' => e = .returned (.tuple #[.string r1, .string r2, .int .i64 r3]) ∧ Below w.heap.size w w' := by
 have HB := Z0.mk (Below.refl w.heap.size w)
 have H := h
 clear h
 unfold rAboth.f at H
 obtain ⟨⟨t396, t397⟩, A5, H⟩ := bnd H
 try dsimp only at H
 rcases je H with ⟨-, c6b0, c6b1, H⟩ | ⟨c6, c6b0, c6b1, H⟩
 ·obtain ⟨⟨t398, t399⟩, A7, H⟩ := bnd H
  try dsimp only at H
  simp only [Option.some.injEq, Prod.mk.injEq] at H
  obtain ⟨rfl, rfl, rfl⟩ := H
  go_enter Tryz.func161, Tryz.ntmps161
  go_wp2_with (first | ((with_reducible refine gc_ 95 rfl ?_); refine goB (some 17) Tryz.func95 #[.string a0, .string a1] bq (bIMul.calls k a0 a1 t396 t397 _ (hL.below bq) A5.out) ?_; clear HB; intro w8 HB) | ((with_reducible refine gc_ 95 rfl ?_); refine goB (some 26) Tryz.func95 #[.string a2, .string a3] bq (bIMul.calls k a2 a3 t398 t399 _ (hL.below bq) A7.out) ?_; clear HB; intro w9 HB))
  go_ret3
  exact finE
 simp only [Option.some.injEq, Prod.mk.injEq] at H
 obtain ⟨rfl, rfl, rfl⟩ := H
 go_enter Tryz.func161, Tryz.ntmps161
 go_wp2_with (first | ((with_reducible refine gc_ 95 rfl ?_); refine goB (some 17) Tryz.func95 #[.string a0, .string a1] bq (bIMul.calls k a0 a1 t396 t397 _ (hL.below bq) A5.out) ?_; clear HB; intro w10 HB))
 go_ret3
 exact finE
end Go.Proofs.YtihbebbabjklkaaGreatDoor.PA
namespace Go.Proofs.YtihbebbabjklkaaGreatDoor
set_option linter.unusedVariables false
open Go.RowKit Go.Proofs.WWords Go.Proofs.WLast Go.Proofs.WMore PA
attribute [local go_sem] max2_int min2_int max_two min_two max_three min_three max_four min_four
set_option linter.unusedSimpArgs false
theorem gcellF {w W : World} {g : Nat} {v : Value} {t : TypeId} (h : w.heap[g]? = some (.cells #[v] t (0, 0))) (hb : Below w.heap.size w W) : W.cell? ⟨g, 0, none⟩ = some v := by
 have h2 : W.heap[g]? = some (.cells #[v] t (0, 0)) := (hb.block g (Array.getElem?_eq_some_iff.1 h).1).trans h
 exact blk_cell h2 0
theorem rAaddop.calls (k : Nat) (a0_0 : ByteArray) (a0_1 : ByteArray) (a0_2 : ByteArray) (a0_3 : ByteArray) (r1 : ByteArray) (r2 : ByteArray) (r3 : Int) (gc : Nat) (w : World) (hgc : w.heap[gc]? = some (.cells #[.func (.func 108) #[] #[]] 83 (0, 0))) (hL : LaidW w) (h : rAaddop.f k a0_0 a0_1 a0_2 a0_3 = some (r1, r2, r3)) :
  Calls Tryz.prog 200 #[.agg #[.string a0_0, .string a0_1, .string a0_2, .string a0_3], .pointer (some ⟨gc, 0, none⟩)] w fun e w' => e = .returned (.tuple #[.string r1, .string r2, .int .i64 r3]) ∧ Below w.heap.size w w' := by
 have hu95 := Tryz.underlying145
 have HB := Z0.mk (Below.refl w.heap.size w)
 have H := h
 clear h
 unfold rAaddop.f at H
 obtain ⟨⟨t429, t430, t431⟩, A2, H⟩ := bnd H
 try dsimp only at H
 rcases je H with ⟨-, c3b0, c3b1, H⟩ | ⟨c3, c3b0, c3b1, H⟩
 ·obtain ⟨⟨t432, t433⟩, A4, H⟩ := bnd H
  try dsimp only at H
  rcases je H with ⟨-, c5b0, c5b1, H⟩ | ⟨c5, c5b0, c5b1, H⟩
  ·obtain ⟨⟨t434, t435⟩, A6, H⟩ := bnd H
   try dsimp only at H
   simp only [Option.some.injEq, Prod.mk.injEq] at H
   obtain ⟨rfl, rfl, rfl⟩ := H
   go_enter Tryz.func200, Tryz.ntmps200
   go_wp2_with (first | ((with_reducible refine gd_ 2 rfl ?_); refine bxE 2 #[.string a0_0, .string a0_1, .string a0_2, .string a0_3] 145 ?_; intro gb428 hg w7 hbox hb; have BK428 := Z0.mk hbox; have GW428 := fE HB hg; have GE428 := fE HB hg; replace HB := fB HB hb; clear hb hbox hg; obtain ⟨hcz8_0, hcz8_1, hcz8_2, hcz8_3, hfz8_0, hfz8_1, hfz8_2, hfz8_3⟩ := b4 BK428) | ((with_reducible refine gc_ 161 rfl ?_); refine gL 17 Tryz.func161 (rAboth.calls k a0_0 a0_3 a0_2 a0_1 t429 t430 t431 _ ?side1 A2.out) ?_; (case side1 => exact LaidW.below hL bqs); rintro _ w9 ⟨rfl, hb⟩; refine ⟨_, rfl, ?_⟩; replace BK428 := fk BK428 hb; replace HB := fB HB hb; have hgcF := gcellF hgc HB.out; clear hb) | (go_at_call 108; (with_reducible refine (bIAdd.calls k t429 t430 t432 t433 _ ?side1 A4.out).mono ?_); (case side1 => exact LaidW.below hL bqs); rintro e w10 ⟨rfl, hb⟩; replace BK428 := fk BK428 hb; replace HB := fB HB hb; clear hb; obtain ⟨hcz11_0, hcz11_1, hcz11_2, hcz11_3, hfz11_0, hfz11_1, hfz11_2, hfz11_3⟩ := b4 BK428) | ((with_reducible refine gc_ 95 rfl ?_); refine gL 39 Tryz.func95 (bIMul.calls k a0_1 a0_3 t434 t435 _ ?side1 A6.out) ?_; (case side1 => exact LaidW.below hL bqs); rintro _ w12 ⟨rfl, hb⟩; refine ⟨_, rfl, ?_⟩; replace BK428 := fk BK428 hb; replace HB := fB HB hb; clear hb))
   go_ret3
   exact finE
  simp only [Option.some.injEq, Prod.mk.injEq] at H
  obtain ⟨rfl, rfl, rfl⟩ := H
  go_enter Tryz.func200, Tryz.ntmps200
  go_wp2_with (first | ((with_reducible refine gd_ 2 rfl ?_); refine bxE 2 #[.string a0_0, .string a0_1, .string a0_2, .string a0_3] 145 ?_; intro gb428 hg w13 hbox hb; have BK428 := Z0.mk hbox; have GW428 := fE HB hg; have GE428 := fE HB hg; replace HB := fB HB hb; clear hb hbox hg; obtain ⟨hcz14_0, hcz14_1, hcz14_2, hcz14_3, hfz14_0, hfz14_1, hfz14_2, hfz14_3⟩ := b4 BK428) | ((with_reducible refine gc_ 161 rfl ?_); refine gL 17 Tryz.func161 (rAboth.calls k a0_0 a0_3 a0_2 a0_1 t429 t430 t431 _ ?side1 A2.out) ?_; (case side1 => exact LaidW.below hL bqs); rintro _ w15 ⟨rfl, hb⟩; refine ⟨_, rfl, ?_⟩; replace BK428 := fk BK428 hb; replace HB := fB HB hb; have hgcF := gcellF hgc HB.out; clear hb) | (go_at_call 108; (with_reducible refine (bIAdd.calls k t429 t430 t432 t433 _ ?side1 A4.out).mono ?_); (case side1 => exact LaidW.below hL bqs); rintro e w16 ⟨rfl, hb⟩; replace BK428 := fk BK428 hb; replace HB := fB HB hb; clear hb))
  go_ret3
  exact finE
 simp only [Option.some.injEq, Prod.mk.injEq] at H
 obtain ⟨rfl, rfl, rfl⟩ := H
 go_enter Tryz.func200, Tryz.ntmps200
 go_wp2_with (first | ((with_reducible refine gd_ 2 rfl ?_); refine bxE 2 #[.string a0_0, .string a0_1, .string a0_2, .string a0_3] 145 ?_; intro gb428 hg w17 hbox hb; have BK428 := Z0.mk hbox; have GW428 := fE HB hg; have GE428 := fE HB hg; replace HB := fB HB hb; clear hb hbox hg; obtain ⟨hcz18_0, hcz18_1, hcz18_2, hcz18_3, hfz18_0, hfz18_1, hfz18_2, hfz18_3⟩ := b4 BK428) | ((with_reducible refine gc_ 161 rfl ?_); refine gL 17 Tryz.func161 (rAboth.calls k a0_0 a0_3 a0_2 a0_1 t429 t430 t431 _ ?side1 A2.out) ?_; (case side1 => exact LaidW.below hL bqs); rintro _ w19 ⟨rfl, hb⟩; refine ⟨_, rfl, ?_⟩; replace BK428 := fk BK428 hb; replace HB := fB HB hb; have hgcF := gcellF hgc HB.out; clear hb))
 go_ret3
 exact finE
theorem rAsubop.calls (k : Nat) (a0_0 : ByteArray) (a0_1 : ByteArray) (a0_2 : ByteArray) (a0_3 : ByteArray) (r1 : ByteArray) (r2 : ByteArray) (r3 : Int) (gc : Nat) (w : World) (hgc : w.heap[gc]? = some (.cells #[.func (.func 159) #[] #[]] 83 (0, 0))) (hL : LaidW w) (h : rAsubop.f k a0_0 a0_1 a0_2 a0_3 = some (r1, r2, r3)) :
  Calls Tryz.prog 200 #[.agg #[.string a0_0, .string a0_1, .string a0_2, .string a0_3], .pointer (some ⟨gc, 0, none⟩)] w fun e w' => e = .returned (.tuple #[.string r1, .string r2, .int .i64 r3]) ∧ Below w.heap.size w w' := by
 have hu95 := Tryz.underlying145
 have HB := Z0.mk (Below.refl w.heap.size w)
 have H := h
 clear h
 unfold rAsubop.f at H
 obtain ⟨⟨t429, t430, t431⟩, A2, H⟩ := bnd H
 try dsimp only at H
 rcases je H with ⟨-, c3b0, c3b1, H⟩ | ⟨c3, c3b0, c3b1, H⟩
 ·obtain ⟨⟨t432, t433⟩, A4, H⟩ := bnd H
  try dsimp only at H
  rcases je H with ⟨-, c5b0, c5b1, H⟩ | ⟨c5, c5b0, c5b1, H⟩
  ·obtain ⟨⟨t434, t435⟩, A6, H⟩ := bnd H
   try dsimp only at H
   simp only [Option.some.injEq, Prod.mk.injEq] at H
   obtain ⟨rfl, rfl, rfl⟩ := H
   go_enter Tryz.func200, Tryz.ntmps200
   go_wp2_with (first | ((with_reducible refine gd_ 2 rfl ?_); refine bxE 2 #[.string a0_0, .string a0_1, .string a0_2, .string a0_3] 145 ?_; intro gb428 hg w7 hbox hb; have BK428 := Z0.mk hbox; have GW428 := fE HB hg; have GE428 := fE HB hg; replace HB := fB HB hb; clear hb hbox hg; obtain ⟨hcz8_0, hcz8_1, hcz8_2, hcz8_3, hfz8_0, hfz8_1, hfz8_2, hfz8_3⟩ := b4 BK428) | ((with_reducible refine gc_ 161 rfl ?_); refine gL 17 Tryz.func161 (rAboth.calls k a0_0 a0_3 a0_2 a0_1 t429 t430 t431 _ ?side1 A2.out) ?_; (case side1 => exact LaidW.below hL bqs); rintro _ w9 ⟨rfl, hb⟩; refine ⟨_, rfl, ?_⟩; replace BK428 := fk BK428 hb; replace HB := fB HB hb; have hgcF := gcellF hgc HB.out; clear hb) | (go_at_call 159; (with_reducible refine (bISub.calls k t429 t430 t432 t433 _ ?side1 A4.out).mono ?_); (case side1 => exact LaidW.below hL bqs); rintro e w10 ⟨rfl, hb⟩; replace BK428 := fk BK428 hb; replace HB := fB HB hb; clear hb; obtain ⟨hcz11_0, hcz11_1, hcz11_2, hcz11_3, hfz11_0, hfz11_1, hfz11_2, hfz11_3⟩ := b4 BK428) | ((with_reducible refine gc_ 95 rfl ?_); refine gL 39 Tryz.func95 (bIMul.calls k a0_1 a0_3 t434 t435 _ ?side1 A6.out) ?_; (case side1 => exact LaidW.below hL bqs); rintro _ w12 ⟨rfl, hb⟩; refine ⟨_, rfl, ?_⟩; replace BK428 := fk BK428 hb; replace HB := fB HB hb; clear hb))
   go_ret3
   exact finE
  simp only [Option.some.injEq, Prod.mk.injEq] at H
  obtain ⟨rfl, rfl, rfl⟩ := H
  go_enter Tryz.func200, Tryz.ntmps200
  go_wp2_with (first | ((with_reducible refine gd_ 2 rfl ?_); refine bxE 2 #[.string a0_0, .string a0_1, .string a0_2, .string a0_3] 145 ?_; intro gb428 hg w13 hbox hb; have BK428 := Z0.mk hbox; have GW428 := fE HB hg; have GE428 := fE HB hg; replace HB := fB HB hb; clear hb hbox hg; obtain ⟨hcz14_0, hcz14_1, hcz14_2, hcz14_3, hfz14_0, hfz14_1, hfz14_2, hfz14_3⟩ := b4 BK428) | ((with_reducible refine gc_ 161 rfl ?_); refine gL 17 Tryz.func161 (rAboth.calls k a0_0 a0_3 a0_2 a0_1 t429 t430 t431 _ ?side1 A2.out) ?_; (case side1 => exact LaidW.below hL bqs); rintro _ w15 ⟨rfl, hb⟩; refine ⟨_, rfl, ?_⟩; replace BK428 := fk BK428 hb; replace HB := fB HB hb; have hgcF := gcellF hgc HB.out; clear hb) | (go_at_call 159; (with_reducible refine (bISub.calls k t429 t430 t432 t433 _ ?side1 A4.out).mono ?_); (case side1 => exact LaidW.below hL bqs); rintro e w16 ⟨rfl, hb⟩; replace BK428 := fk BK428 hb; replace HB := fB HB hb; clear hb))
  go_ret3
  exact finE
 simp only [Option.some.injEq, Prod.mk.injEq] at H
 obtain ⟨rfl, rfl, rfl⟩ := H
 go_enter Tryz.func200, Tryz.ntmps200
 go_wp2_with (first | ((with_reducible refine gd_ 2 rfl ?_); refine bxE 2 #[.string a0_0, .string a0_1, .string a0_2, .string a0_3] 145 ?_; intro gb428 hg w17 hbox hb; have BK428 := Z0.mk hbox; have GW428 := fE HB hg; have GE428 := fE HB hg; replace HB := fB HB hb; clear hb hbox hg; obtain ⟨hcz18_0, hcz18_1, hcz18_2, hcz18_3, hfz18_0, hfz18_1, hfz18_2, hfz18_3⟩ := b4 BK428) | ((with_reducible refine gc_ 161 rfl ?_); refine gL 17 Tryz.func161 (rAboth.calls k a0_0 a0_3 a0_2 a0_1 t429 t430 t431 _ ?side1 A2.out) ?_; (case side1 => exact LaidW.below hL bqs); rintro _ w19 ⟨rfl, hb⟩; refine ⟨_, rfl, ?_⟩; replace BK428 := fk BK428 hb; replace HB := fB HB hb; have hgcF := gcellF hgc HB.out; clear hb))
 go_ret3
 exact finE
theorem rAoperations_1.calls (k : Nat) (a0_0 : ByteArray) (a0_1 : ByteArray) (a0_2 : ByteArray) (a0_3 : ByteArray) (r1 : ByteArray) (r2 : ByteArray) (r3 : Int) (w : World) (hL : LaidW w) (h : rAoperations_1.f k a0_0 a0_1 a0_2 a0_3 = some (r1, r2, r3)) :
  Calls Tryz.prog 160 #[.agg #[.string a0_0, .string a0_1, .string a0_2, .string a0_3]] w fun e w' => e = .returned (.tuple #[.string r1, .string r2, .int .i64 r3]) ∧ Below w.heap.size w w' := by
 have hu95 := Tryz.underlying145
 have HB := Z0.mk (Below.refl w.heap.size w)
 have H := h
 clear h
 unfold rAoperations_1.f at H
 obtain ⟨⟨t429, t430, t431⟩, A2, H⟩ := bnd H
 try dsimp only at H
 simp only [Option.some.injEq, Prod.mk.injEq] at H
 obtain ⟨rfl, rfl, rfl⟩ := H
 go_enter Tryz.func160, Tryz.ntmps160
 go_wp2_with (first | ((with_reducible refine gd_ 1 rfl ?_); refine bxE 1 #[.string a0_0, .string a0_1, .string a0_2, .string a0_3] 145 ?_; intro gb428 hg w3 hbox hb; have BK428 := Z0.mk hbox; have GW428 := fE HB hg; have GE428 := fE HB hg; replace HB := fB HB hb; clear hb hbox hg; obtain ⟨hcz4_0, hcz4_1, hcz4_2, hcz4_3, hfz4_0, hfz4_1, hfz4_2, hfz4_3⟩ := b4 BK428) | ((with_reducible refine gc_ 161 rfl ?_); refine gL 13 Tryz.func161 (rAboth.calls k a0_0 a0_2 a0_1 a0_3 t429 t430 t431 _ ?side1 A2.out) ?_; (case side1 => exact LaidW.below hL bqs); rintro _ w5 ⟨rfl, hb⟩; refine ⟨_, rfl, ?_⟩; replace BK428 := fk BK428 hb; replace HB := fB HB hb; clear hb))
 go_ret3
 exact finE
theorem rAoperations_2.calls (k : Nat) (a0_0 : ByteArray) (a0_1 : ByteArray) (a0_2 : ByteArray) (a0_3 : ByteArray) (r1 : ByteArray) (r2 : ByteArray) (r3 : Int) (w : World) (hL : LaidW w) (h : rAoperations_2.f k a0_0 a0_1 a0_2 a0_3 = some (r1, r2, r3)) :
  Calls Tryz.prog 162 #[.agg #[.string a0_0, .string a0_1, .string a0_2, .string a0_3]] w fun e w' => e = .returned (.tuple #[.string r1, .string r2, .int .i64 r3]) ∧ Below w.heap.size w w' := by
 have hu95 := Tryz.underlying145
 have HB := Z0.mk (Below.refl w.heap.size w)
 have H := h
 clear h
 unfold rAoperations_2.f at H
 rcases je H with ⟨-, c2b0, c2b1, H⟩ | ⟨c2, c2b0, c2b1, H⟩
 ·simp only [Option.some.injEq, Prod.mk.injEq] at H
  obtain ⟨rfl, rfl, rfl⟩ := H
  go_enter Tryz.func162, Tryz.ntmps162
  go_wp2_with (first | ((with_reducible refine gd_ 1 rfl ?_); refine bxE 1 #[.string a0_0, .string a0_1, .string a0_2, .string a0_3] 145 ?_; intro gb428 hg w3 hbox hb; have BK428 := Z0.mk hbox; have GW428 := fE HB hg; have GE428 := fE HB hg; replace HB := fB HB hb; clear hb hbox hg; obtain ⟨hcz4_0, hcz4_1, hcz4_2, hcz4_3, hfz4_0, hfz4_1, hfz4_2, hfz4_3⟩ := b4 BK428))
  go_ret3
  exact finE
 obtain ⟨⟨t429, t430, t431⟩, A5, H⟩ := bnd H
 try dsimp only at H
 simp only [Option.some.injEq, Prod.mk.injEq] at H
 obtain ⟨rfl, rfl, rfl⟩ := H
 go_enter Tryz.func162, Tryz.ntmps162
 go_wp2_with (first | ((with_reducible refine gd_ 1 rfl ?_); refine bxE 1 #[.string a0_0, .string a0_1, .string a0_2, .string a0_3] 145 ?_; intro gb428 hg w6 hbox hb; have BK428 := Z0.mk hbox; have GW428 := fE HB hg; have GE428 := fE HB hg; replace HB := fB HB hb; clear hb hbox hg; obtain ⟨hcz7_0, hcz7_1, hcz7_2, hcz7_3, hfz7_0, hfz7_1, hfz7_2, hfz7_3⟩ := b4 BK428) | ((with_reducible refine gc_ 161 rfl ?_); refine gL 16 Tryz.func161 (rAboth.calls k a0_0 a0_3 a0_1 a0_2 t429 t430 t431 _ ?side1 A5.out) ?_; (case side1 => exact LaidW.below hL bqs); rintro _ w8 ⟨rfl, hb⟩; refine ⟨_, rfl, ?_⟩; replace BK428 := fk BK428 hb; replace HB := fB HB hb; clear hb))
 go_ret3
 exact finE
end Go.Proofs.YtihbebbabjklkaaGreatDoor
namespace Go.Proofs.YtihbebbabjklkaaGreatDoor.PA
set_option linter.unusedVariables false
open Go.RowKit Go.Proofs.WWords Go.Proofs.WLast Go.Proofs.WMore
attribute [local go_sem] max2_int min2_int max_two min_two max_three min_three max_four min_four
set_option linter.unusedSimpArgs false
theorem rAnewPair.calls (k : Nat) (a0 : ByteArray) (a1 : ByteArray) (r1 : ByteArray) (r2 : ByteArray) (r3 : ByteArray) (r4 : ByteArray) (r5 : Int) (w : World) (hL : LaidW w) (h : rAnewPair.f k a0 a1 = some (r1, r2, r3, r4, r5)) :
  Calls Tryz.prog 121 #[.string a0, .string a1] w fun e w' => e = .returned (.tuple #[.agg #[.string r1, .string r2, .string r3, .string r4], .int .i64 r5]) ∧ Below w.heap.size w w' := by
 have hu95 := Tryz.underlying145
 have HB := Z0.mk (Below.refl w.heap.size w)
 have H := h
 clear h
 unfold rAnewPair.f at H
 obtain ⟨t367, A3, H⟩ := bnd H
 rcases je H with ⟨-, c4b0, c4b1, H⟩ | ⟨c4, c4b0, c4b1, H⟩
 ·obtain ⟨t368, A5, H⟩ := bnd H
  rcases je H with ⟨-, c6b0, c6b1, H⟩ | ⟨c6, c6b0, c6b1, H⟩
  ·obtain ⟨⟨t369, t370⟩, A7, H⟩ := bnd H
   try dsimp only at H
   obtain ⟨⟨t371, t372⟩, A8, H⟩ := bnd H
   try dsimp only at H
   simp only [Option.some.injEq, Prod.mk.injEq] at H
   obtain ⟨rfl, rfl, rfl, rfl, rfl⟩ := H
   go_enter Tryz.func121, Tryz.ntmps121
   go_wp2_with (first | ((with_reducible refine gd_ 4 rfl ?_); refine bxE 4 #[.string (⟨#[]⟩ : ByteArray), .string (⟨#[]⟩ : ByteArray), .string (⟨#[]⟩ : ByteArray), .string (⟨#[]⟩ : ByteArray)] 145 ?_; intro gb366 hg w9 hbox hb; have BK366 := Z0.mk hbox; have GW366 := fE HB hg; have GE366 := fE HB hg; replace HB := fB HB hb; clear hb hbox hg) | ((with_reducible refine gc_ 117 rfl ?_); refine gL 13 Tryz.func117 (rACheck.calls k a0 t367 _ ?side1 A3.out) ?_; (case side1 => exact LaidW.below hL bqs); rintro _ w10 ⟨rfl, hb⟩; refine ⟨_, rfl, ?_⟩; replace BK366 := fk BK366 hb; replace HB := fB HB hb; clear hb) | ((with_reducible refine gc_ 117 rfl ?_); refine gL 19 Tryz.func117 (rACheck.calls k a1 t368 _ ?side1 A5.out) ?_; (case side1 => exact LaidW.below hL bqs); rintro _ w11 ⟨rfl, hb⟩; refine ⟨_, rfl, ?_⟩; replace BK366 := fk BK366 hb; replace HB := fB HB hb; clear hb) | ((with_reducible refine gc_ 120 rfl ?_); refine gL 26 Tryz.func120 (rAsplit.calls _ _ _ _ A7.out) ?_; rintro _ w12 ⟨rfl, hb⟩; refine ⟨_, rfl, ?_⟩; replace BK366 := fk BK366 hb; replace HB := fB HB hb; clear hb) | ((with_reducible refine gc_ 120 rfl ?_); refine gL 31 Tryz.func120 (rAsplit.calls _ _ _ _ A8.out) ?_; rintro _ w13 ⟨rfl, hb⟩; refine ⟨_, rfl, ?_⟩; replace BK366 := fk BK366 hb; replace HB := fB HB hb; clear hb; obtain ⟨hcz14_0, hcz14_1, hcz14_2, hcz14_3, hfz14_0, hfz14_1, hfz14_2, hfz14_3⟩ := b4 BK366))
   refine bodyPost_ret (results_ct rfl _ _ gb366 145 #[.string t369, .string t370, .string t371, .string t372] (0, 0) _ rfl (by (with_reducible repeat (first | refine blk_drewN ?_ _ | refine blk_drew ?_ | refine blk_alloc ?_ _)); refine blk_put (cs := #[.string t369, .string t370, .string t371, .string (⟨#[]⟩ : ByteArray)]) ?_ 3 _ rfl; (with_reducible repeat (first | refine blk_drewN ?_ _ | refine blk_drew ?_ | refine blk_alloc ?_ _)); refine blk_put (cs := #[.string t369, .string t370, .string (⟨#[]⟩ : ByteArray), .string (⟨#[]⟩ : ByteArray)]) ?_ 2 _ rfl; (with_reducible repeat (first | refine blk_drewN ?_ _ | refine blk_drew ?_ | refine blk_alloc ?_ _)); refine blk_put (cs := #[.string t369, .string (⟨#[]⟩ : ByteArray), .string (⟨#[]⟩ : ByteArray), .string (⟨#[]⟩ : ByteArray)]) ?_ 1 _ rfl; (with_reducible repeat (first | refine blk_drewN ?_ _ | refine blk_drew ?_ | refine blk_alloc ?_ _)); refine blk_put (cs := #[.string (⟨#[]⟩ : ByteArray), .string (⟨#[]⟩ : ByteArray), .string (⟨#[]⟩ : ByteArray), .string (⟨#[]⟩ : ByteArray)]) ?_ 0 _ rfl; (with_reducible repeat (first | refine blk_drewN ?_ _ | refine blk_drew ?_ | refine blk_alloc ?_ _)); exact BK366.out) Tryz.underlying145 rfl (by kernel_rfl)) rfl ?_
   exact finE
  simp only [Option.some.injEq, Prod.mk.injEq] at H
  obtain ⟨rfl, rfl, rfl, rfl, rfl⟩ := H
  go_enter Tryz.func121, Tryz.ntmps121
  go_wp2_with (first | ((with_reducible refine gd_ 4 rfl ?_); refine bxE 4 #[.string (⟨#[]⟩ : ByteArray), .string (⟨#[]⟩ : ByteArray), .string (⟨#[]⟩ : ByteArray), .string (⟨#[]⟩ : ByteArray)] 145 ?_; intro gb366 hg w15 hbox hb; have BK366 := Z0.mk hbox; have GW366 := fE HB hg; have GE366 := fE HB hg; replace HB := fB HB hb; clear hb hbox hg) | ((with_reducible refine gc_ 117 rfl ?_); refine gL 13 Tryz.func117 (rACheck.calls k a0 t367 _ ?side1 A3.out) ?_; (case side1 => exact LaidW.below hL bqs); rintro _ w16 ⟨rfl, hb⟩; refine ⟨_, rfl, ?_⟩; replace BK366 := fk BK366 hb; replace HB := fB HB hb; clear hb) | ((with_reducible refine gc_ 117 rfl ?_); refine gL 19 Tryz.func117 (rACheck.calls k a1 t368 _ ?side1 A5.out) ?_; (case side1 => exact LaidW.below hL bqs); rintro _ w17 ⟨rfl, hb⟩; refine ⟨_, rfl, ?_⟩; replace BK366 := fk BK366 hb; replace HB := fB HB hb; clear hb; obtain ⟨hcz18_0, hcz18_1, hcz18_2, hcz18_3, hfz18_0, hfz18_1, hfz18_2, hfz18_3⟩ := b4 BK366))
  refine bodyPost_ret (results_ct rfl _ _ gb366 145 #[.string (⟨#[]⟩ : ByteArray), .string (⟨#[]⟩ : ByteArray), .string (⟨#[]⟩ : ByteArray), .string (⟨#[]⟩ : ByteArray)] (0, 0) _ rfl (by (with_reducible repeat (first | refine blk_drewN ?_ _ | refine blk_drew ?_ | refine blk_alloc ?_ _)); refine blk_put (cs := #[.string (⟨#[]⟩ : ByteArray), .string (⟨#[]⟩ : ByteArray), .string (⟨#[]⟩ : ByteArray), .string (⟨#[]⟩ : ByteArray)]) ?_ 3 _ rfl; (with_reducible repeat (first | refine blk_drewN ?_ _ | refine blk_drew ?_ | refine blk_alloc ?_ _)); refine blk_put (cs := #[.string (⟨#[]⟩ : ByteArray), .string (⟨#[]⟩ : ByteArray), .string (⟨#[]⟩ : ByteArray), .string (⟨#[]⟩ : ByteArray)]) ?_ 2 _ rfl; (with_reducible repeat (first | refine blk_drewN ?_ _ | refine blk_drew ?_ | refine blk_alloc ?_ _)); refine blk_put (cs := #[.string (⟨#[]⟩ : ByteArray), .string (⟨#[]⟩ : ByteArray), .string (⟨#[]⟩ : ByteArray), .string (⟨#[]⟩ : ByteArray)]) ?_ 1 _ rfl; (with_reducible repeat (first | refine blk_drewN ?_ _ | refine blk_drew ?_ | refine blk_alloc ?_ _)); refine blk_put (cs := #[.string (⟨#[]⟩ : ByteArray), .string (⟨#[]⟩ : ByteArray), .string (⟨#[]⟩ : ByteArray), .string (⟨#[]⟩ : ByteArray)]) ?_ 0 _ rfl; (with_reducible repeat (first | refine blk_drewN ?_ _ | refine blk_drew ?_ | refine blk_alloc ?_ _)); exact BK366.out) Tryz.underlying145 rfl (by kernel_rfl)) rfl ?_
  exact finE
 simp only [Option.some.injEq, Prod.mk.injEq] at H
 obtain ⟨rfl, rfl, rfl, rfl, rfl⟩ := H
 go_enter Tryz.func121, Tryz.ntmps121
 go_wp2_with (first | ((with_reducible refine gd_ 4 rfl ?_); refine bxE 4 #[.string (⟨#[]⟩ : ByteArray), .string (⟨#[]⟩ : ByteArray), .string (⟨#[]⟩ : ByteArray), .string (⟨#[]⟩ : ByteArray)] 145 ?_; intro gb366 hg w19 hbox hb; have BK366 := Z0.mk hbox; have GW366 := fE HB hg; have GE366 := fE HB hg; replace HB := fB HB hb; clear hb hbox hg) | ((with_reducible refine gc_ 117 rfl ?_); refine gL 13 Tryz.func117 (rACheck.calls k a0 t367 _ ?side1 A3.out) ?_; (case side1 => exact LaidW.below hL bqs); rintro _ w20 ⟨rfl, hb⟩; refine ⟨_, rfl, ?_⟩; replace BK366 := fk BK366 hb; replace HB := fB HB hb; clear hb; obtain ⟨hcz21_0, hcz21_1, hcz21_2, hcz21_3, hfz21_0, hfz21_1, hfz21_2, hfz21_3⟩ := b4 BK366))
 refine bodyPost_ret (results_ct rfl _ _ gb366 145 #[.string (⟨#[]⟩ : ByteArray), .string (⟨#[]⟩ : ByteArray), .string (⟨#[]⟩ : ByteArray), .string (⟨#[]⟩ : ByteArray)] (0, 0) _ rfl (by (with_reducible repeat (first | refine blk_drewN ?_ _ | refine blk_drew ?_ | refine blk_alloc ?_ _)); refine blk_put (cs := #[.string (⟨#[]⟩ : ByteArray), .string (⟨#[]⟩ : ByteArray), .string (⟨#[]⟩ : ByteArray), .string (⟨#[]⟩ : ByteArray)]) ?_ 3 _ rfl; (with_reducible repeat (first | refine blk_drewN ?_ _ | refine blk_drew ?_ | refine blk_alloc ?_ _)); refine blk_put (cs := #[.string (⟨#[]⟩ : ByteArray), .string (⟨#[]⟩ : ByteArray), .string (⟨#[]⟩ : ByteArray), .string (⟨#[]⟩ : ByteArray)]) ?_ 2 _ rfl; (with_reducible repeat (first | refine blk_drewN ?_ _ | refine blk_drew ?_ | refine blk_alloc ?_ _)); refine blk_put (cs := #[.string (⟨#[]⟩ : ByteArray), .string (⟨#[]⟩ : ByteArray), .string (⟨#[]⟩ : ByteArray), .string (⟨#[]⟩ : ByteArray)]) ?_ 1 _ rfl; (with_reducible repeat (first | refine blk_drewN ?_ _ | refine blk_drew ?_ | refine blk_alloc ?_ _)); refine blk_put (cs := #[.string (⟨#[]⟩ : ByteArray), .string (⟨#[]⟩ : ByteArray), .string (⟨#[]⟩ : ByteArray), .string (⟨#[]⟩ : ByteArray)]) ?_ 0 _ rfl; (with_reducible repeat (first | refine blk_drewN ?_ _ | refine blk_drew ?_ | refine blk_alloc ?_ _)); exact BK366.out) Tryz.underlying145 rfl (by kernel_rfl)) rfl ?_
 exact finE
theorem bINeg.calls (k : Nat) (a0 : ByteArray) (r1 : ByteArray) (r2 : Int) (w : World) (hL : LaidW w) (h : bINeg.f k a0 = some (r1, r2)) :
  Calls Tryz.prog 156 #[.string a0] w fun e w' => e = .returned (.tuple #[.string r1, .int .i64 r2]) ∧ Below w.heap.size w w' := by
 have HB := Z0.mk (Below.refl w.heap.size w)
 have H := h
 clear h
 unfold bINeg.f at H
 obtain ⟨⟨t321, t322⟩, A2, H⟩ := bnd H
 try dsimp only at H
 simp only [Option.some.injEq, Prod.mk.injEq] at H
 obtain ⟨rfl, rfl⟩ := H
 go_enter Tryz.func156, Tryz.ntmps156
 go_wp2_with (first | ((with_reducible refine gc_ 159 rfl ?_); refine goB (some 5) Tryz.func159 #[.string (⟨#[48]⟩ : ByteArray), .string a0] bq (bISub.calls k (⟨#[48]⟩ : ByteArray) a0 t321 t322 _ (hL.below bq) A2.out) ?_; clear HB; intro w3 HB))
 go_ret2
 exact finE
theorem bIQuo.calls (k : Nat) (a0 : ByteArray) (a1 : ByteArray) (r1 : ByteArray) (r2 : Int) (w : World) (hL : LaidW w) (h : bIQuo.f k a0 a1 = some (r1, r2)) :
  Calls Tryz.prog 53 #[.string a0, .string a1] w fun e w' => e = .returned (.tuple #[.string r1, .int .i64 r2]) ∧ Below w.heap.size w w' := by
 have HB := Z0.mk (Below.refl w.heap.size w)
 have H := h
 clear h
 unfold bIQuo.f at H
 obtain ⟨⟨t283, t284, t285⟩, A3, H⟩ := bnd H
 try dsimp only at H
 simp only [Option.some.injEq, Prod.mk.injEq] at H
 obtain ⟨rfl, rfl⟩ := H
 go_enter Tryz.func53, Tryz.ntmps53
 go_wp2_with (first | ((with_reducible refine gc_ 111 rfl ?_); refine goB (some 12) Tryz.func111 #[.string a0, .string a1] bq (bIdivided.calls k a0 a1 t283 t284 t285 _ (hL.below bq) A3.out) ?_; clear HB; intro w4 HB))
 go_ret2
 exact finE
theorem bISign.calls (k : Nat) (a0 : ByteArray) (r1 : Int) (r2 : Int) (w : World) (h : bISign.f k a0 = some (r1, r2)) :
  Calls Tryz.prog 55 #[.string a0] w fun e w' => e = .returned (.tuple #[.int .i64 r1, .int .i64 r2]) ∧ Below w.heap.size w w' := by
 have HB := Z0.mk (Below.refl w.heap.size w)
 have H := h
 clear h
 unfold bISign.f at H
 obtain ⟨⟨t350, t351⟩, A2, H⟩ := bnd H
 try dsimp only at H
 simp only [Option.some.injEq, Prod.mk.injEq] at H
 obtain ⟨rfl, rfl⟩ := H
 go_enter Tryz.func55, Tryz.ntmps55
 go_wp2_with (first | ((with_reducible refine gc_ 56 rfl ?_); refine goB (some 5) Tryz.func56 #[.string a0, .string (⟨#[48]⟩ : ByteArray)] bq (bICompare.calls k a0 (⟨#[48]⟩ : ByteArray) t350 t351 _ A2.out) ?_; clear HB; intro w3 HB))
 go_ret2
 exact finE
theorem rAwhole.calls (k : Nat) (a0 : ByteArray) (a1 : ByteArray) (r1 : ByteArray) (r2 : Int) (w : World) (hL : LaidW w) (h : rAwhole.f k a0 a1 = some (r1, r2)) :
  Calls Tryz.prog 119 #[.string a0, .string a1] w fun e w' => e = .returned (.tuple #[.string r1, .int .i64 r2]) ∧ Below w.heap.size w w' := by
 have HB := Z0.mk (Below.refl w.heap.size w)
 have H := h
 clear h
 unfold rAwhole.f at H
 obtain ⟨⟨t352, t353⟩, A3, H⟩ := bnd H
 try dsimp only at H
 rcases je H with ⟨-, c4b0, c4b1, H⟩ | ⟨c4, c4b0, c4b1, H⟩
 ·obtain ⟨⟨t354, t355⟩, A5, H⟩ := bnd H
  try dsimp only at H
  have HC6 := Z0.mk H
  clear H
  go_enter Tryz.func119, Tryz.ntmps119
  go_upto_if 27 with (first | ((with_reducible refine gc_ 48 rfl ?_); refine goB (some 15) Tryz.func48 #[.string a0, .string a1] bq (bIGcd.calls k a0 a1 t352 t353 _ (hL.below bq) A3.out) ?_; clear HB; intro w7 HB) | ((with_reducible refine gc_ 55 rfl ?_); refine goB (some 23) Tryz.func55 #[.string a1] bq (bISign.calls k a1 t354 t355 _ A5.out) ?_; clear HB; intro w8 HB))
  (try simp only [Act.put, List.setIfInBounds_toArray, List.set_cons_zero, List.set_cons_succ])
  go_cut [6] (fun v6 wc => ∃ (kq : Nat) (x6_5 : ByteArray), v6 = .string x6_5 ∧ Z0 (rAwhole.j0 kq a0 a1 x6_5 = some (r1, r2)) ∧ Z0 (kq ≤ k) ∧ Z0 (Below w.heap.size w wc))
  case first =>
   have H := HC6.out
   clear HC6
   rcases jd H with ⟨-, c9b0, H⟩ | ⟨-, c9b0, H⟩
   ·(first | rw [c9b0] | (simp only [i64_w, i32_w]; rw [c9b0]) | skip)
    obtain ⟨⟨t356, t357⟩, A10, H⟩ := bnd H
    try dsimp only at H
    have H' := Z0.mk H
    clear H
    go_wp2_with (first | ((with_reducible refine gc_ 156 rfl ?_); refine goB (some 30) Tryz.func156 #[.string t352] bq (bINeg.calls k t352 t356 t357 _ (hL.below bq) A10.out) ?_; clear HB; intro w11 HB))
    go_meet
    case rel => exact ⟨_, (t356), fs, H', ⟨by first | omega | exact Nat.le_refl _⟩, ⟨bqs⟩⟩
   (first | rw [c9b0] | (simp only [i64_w, i32_w]; rw [c9b0]) | skip)
   have H' := Z0.mk H
   clear H
   go_wp2
   go_meet
   case rel => exact ⟨_, (t352), fs, H', ⟨by first | omega | exact Nat.le_refl _⟩, ⟨bqs⟩⟩
  case rest =>
   clear HC6
   try clear p2
   try clear c3
   try clear c4
   try clear c4b0
   try clear c4b1
   try clear c8
   try clear c9
   try clear c9b0
   obtain ⟨kq, x6_5, rfl, HA, HJ5, HB⟩ := hcut
   cases kq with
   | zero => exact absurd HA.out (by simp [rAwhole.j0])
   | succ kj5 =>
    have H := HA.out
    clear HA
    simp only [rAwhole.j0] at H
    obtain ⟨⟨t358, t359⟩, A12, H⟩ := bnd H
    try dsimp only at H
    rcases je H with ⟨-, c13b0, c13b1, H⟩ | ⟨c13, c13b0, c13b1, H⟩
    ·obtain ⟨⟨t360, t361⟩, A14, H⟩ := bnd H
     try dsimp only at H
     rcases je H with ⟨-, c15b0, c15b1, H⟩ | ⟨c15, c15b0, c15b1, H⟩
     ·rcases je H with ⟨-, c16b0, c16b1, H⟩ | ⟨c16, c16b0, c16b1, H⟩
      ·simp only [Option.some.injEq, Prod.mk.injEq] at H
       obtain ⟨rfl, rfl⟩ := H
       go_wp2_with (first | ((with_reducible refine gc_ 53 rfl ?_); refine goB (some 36) Tryz.func53 #[.string a0, .string x6_5] bq (bIQuo.calls kj5 a0 x6_5 t358 t359 _ (hL.below bq) A12.out) ?_; clear HB; intro w17 HB) | ((with_reducible refine gc_ 53 rfl ?_); refine goB (some 45) Tryz.func53 #[.string a1, .string x6_5] bq (bIQuo.calls kj5 a1 x6_5 t360 t361 _ (hL.below bq) A14.out) ?_; clear HB; intro w18 HB))
       go_ret2
       exact finE
      obtain ⟨c19, c19b0, c19b1, H⟩ := gt H
      try have c19b2 : (9223372036854775807 < t358.size + 1) = False := eq_false (Nat.not_lt.2 c19)
      obtain ⟨c20, c20b0, c20b1, H⟩ := gt H
      try have c20b2 : (9223372036854775807 < (t358 ++ (⟨#[47]⟩ : ByteArray)).size + t360.size) = False := eq_false (Nat.not_lt.2 c20)
      simp only [Option.some.injEq, Prod.mk.injEq] at H
      obtain ⟨rfl, rfl⟩ := H
      go_wp2_with (first | ((with_reducible refine gc_ 53 rfl ?_); refine goB (some 36) Tryz.func53 #[.string a0, .string x6_5] bq (bIQuo.calls kj5 a0 x6_5 t358 t359 _ (hL.below bq) A12.out) ?_; clear HB; intro w21 HB) | ((with_reducible refine gc_ 53 rfl ?_); refine goB (some 45) Tryz.func53 #[.string a1, .string x6_5] bq (bIQuo.calls kj5 a1 x6_5 t360 t361 _ (hL.below bq) A14.out) ?_; clear HB; intro w22 HB))
      go_ret2
      exact finE
     simp only [Option.some.injEq, Prod.mk.injEq] at H
     obtain ⟨rfl, rfl⟩ := H
     go_wp2_with (first | ((with_reducible refine gc_ 53 rfl ?_); refine goB (some 36) Tryz.func53 #[.string a0, .string x6_5] bq (bIQuo.calls kj5 a0 x6_5 t358 t359 _ (hL.below bq) A12.out) ?_; clear HB; intro w23 HB) | ((with_reducible refine gc_ 53 rfl ?_); refine goB (some 45) Tryz.func53 #[.string a1, .string x6_5] bq (bIQuo.calls kj5 a1 x6_5 t360 t361 _ (hL.below bq) A14.out) ?_; clear HB; intro w24 HB))
     go_ret2
     exact finE
    simp only [Option.some.injEq, Prod.mk.injEq] at H
    obtain ⟨rfl, rfl⟩ := H
    go_wp2_with (first | ((with_reducible refine gc_ 53 rfl ?_); refine goB (some 36) Tryz.func53 #[.string a0, .string x6_5] bq (bIQuo.calls kj5 a0 x6_5 t358 t359 _ (hL.below bq) A12.out) ?_; clear HB; intro w25 HB))
    go_ret2
    exact finE
 simp only [Option.some.injEq, Prod.mk.injEq] at H
 obtain ⟨rfl, rfl⟩ := H
 go_enter Tryz.func119, Tryz.ntmps119
 go_wp2_with (first | ((with_reducible refine gc_ 48 rfl ?_); refine goB (some 15) Tryz.func48 #[.string a0, .string a1] bq (bIGcd.calls k a0 a1 t352 t353 _ (hL.below bq) A3.out) ?_; clear HB; intro w26 HB))
 go_ret2
 exact finE
end Go.Proofs.YtihbebbabjklkaaGreatDoor.PA
