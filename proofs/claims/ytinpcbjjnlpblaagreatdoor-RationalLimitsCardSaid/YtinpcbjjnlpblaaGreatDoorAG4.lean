import Derived.Test.YtinpcbjjnlpblaaGreatDoorAG1
import Derived.Test.YtinpcbjjnlpblaaGreatDoorAD
import Derived.Test.YtinpcbjjnlpblaaGreatDoorAG3
import Derived.Test.YtinpcbjjnlpblaaGreatDoorAG2
import Derived.OrdersIn
import Derived.OrdersHeld
import Derived.Deep.RegionHeld3
import Derived.OwnWalkIn
import Derived.Test.YtinpcbjjnlpblaaGreatDoorAW
set_option maxHeartbeats 8000000
set_option maxRecDepth 100000
set_option linter.unusedVariables false
namespace Go.Proofs.YtinpcbjjnlpblaaGreatDoor.PA
set_option linter.unusedVariables false
open Go.RowKit Go.Proofs.WWords Go.Proofs.WLast Go.Proofs.WMore
attribute [local go_sem] max2_int min2_int max_two min_two max_three min_three max_four min_four
set_option linter.unusedSimpArgs false
def bIproduct.T1 : Bool × List (List Nat × List Nat) := (true, [([], []), ([0], [0]), ([], []), ([2], [2]), ([1, 3], [1, 3]), ([], []), ([5], [5]), ([], []), ([7], [7]), ([6, 8], [6, 8]), ([4, 9], [4, 9]), ([10, 9, 0, 1, 2, 3, 4, 5, 6, 7, 8, 9, 10], [10])])
def bIproduct.B1 : List Nat := [0, 1, 0, 4, 15, 0, 32, 0, 128, 480, 1023, 2047]
theorem bIproduct.tab1 : rtab .any (opsOf Tryz.f61 1) = bIproduct.T1 := by kernel_rfl
theorem bIproduct.bits1 : waitsOk bIproduct.T1.2 bIproduct.B1 = true := by kernel_rfl
theorem bIproduct.calls (k : Nat) (a0_0 : Bool) (A0_1 : Option Addr) (c0_1 : Nat) (l0_1 : List Int) (a1_0 : Bool) (A1_1 : Option Addr) (c1_1 : Nat) (l1_1 : List Int) (r1 : Bool) (r2 : List Int) (w : World) (hr0_1 : Kd.C (Kd.int .i64) w A0_1 l0_1.length l0_1) (hc0_1 : l0_1.length ≤ c0_1) (hr1_1 : Kd.C (Kd.int .i64) w A1_1 l1_1.length l1_1) (hc1_1 : l1_1.length ≤ c1_1) (h : bIproduct.f k a0_0 l0_1 a1_0 l1_1 = some (r1, r2)) :
  Calls Tryz.prog 61 #[.agg #[.bool a0_0, .slice A0_1 l0_1.length c0_1], .agg #[.bool a1_0, .slice A1_1 l1_1.length c1_1]] w fun e w' => ∃ v1_ : Value, e = .returned (.agg #[.bool r1, v1_]) ∧ Kd.R (Kd.int .i64) 3 w' w.heap.size (fun _ => True) v1_ r2 ∧ Below w.heap.size w w' := by
 have hu88 := Tryz.underlying80
 have HR0_1 := Z0.mk hr0_1
 have HC0_1 := Z0.mk hc0_1
 clear hr0_1 hc0_1
 have HR1_1 := Z0.mk hr1_1
 have HC1_1 := Z0.mk hc1_1
 clear hr1_1 hc1_1
 have HB := Z0.mk (Below.refl w.heap.size w)
 have H := h
 clear h
 unfold bIproduct.f at H
 obtain ⟨t376, A3, H⟩ := bnd H
 simp only [Option.some.injEq, Prod.mk.injEq] at H
 obtain ⟨rfl, rfl⟩ := H
 go_enter Tryz.func61, Tryz.ntmps61
 try go_wp2_with (first | ((with_reducible refine gd_ 2 rfl ?_); refine bxE 2 #[.bool a0_0, .slice A0_1 l0_1.length c0_1] 80 ?_; intro gb373 hg w4 hbox hb; have BK373 := Z0.mk hbox; have GW373 := fE HB hg; have GE373 := fE HB hg; replace HB := fB HB hb; clear hb hbox hg) | ((with_reducible refine gd_ 3 rfl ?_); refine bxE 3 #[.bool a1_0, .slice A1_1 l1_1.length c1_1] 80 ?_; intro gb374 hg w5 hbox hb; have BK374 := Z0.mk hbox; have GW374 := fE HB hg; have GE374 := fE HB hg; have NB373_374 := fl BK373 hg; have NB374_373 := fg BK373 hg; replace BK373 := fk BK373 hb; replace HB := fB HB hb; clear hb hbox hg) | ((with_reducible refine gd_ 4 rfl ?_); refine bxE 4 #[.bool false, .slice none 0 0] 80 ?_; intro gb375 hg w6 hbox hb; have BK375 := Z0.mk hbox; have GW375 := fE HB hg; have GE375 := fE HB hg; have NB373_375 := fl BK373 hg; have NB375_373 := fg BK373 hg; have NB374_375 := fl BK374 hg; have NB375_374 := fg BK374 hg; replace BK373 := fk BK373 hb; replace BK374 := fk BK374 hb; replace HB := fB HB hb; clear hb hbox hg))
 replace BK373 := Z0.mk (blk_drew BK373.out)
 replace BK374 := Z0.mk (blk_drew BK374.out)
 replace BK375 := Z0.mk (blk_drew BK375.out)
 replace HB := Z0.mk (below_drew1 HB.out)
 refine start_ (n := 12) (S := fun w' => w'.cell? ⟨gb373, 0, none⟩ = some (.bool a0_0) ∧ w'.cell? ⟨gb373, 1, none⟩ = some (.slice A0_1 l0_1.length c0_1) ∧ w'.cell? ⟨gb374, 0, none⟩ = some (.bool a1_0) ∧ w'.cell? ⟨gb374, 1, none⟩ = some (.slice A1_1 l1_1.length c1_1)) (ds := []) #[false, false, false, false, false, false, false, false, false, false, false, false] (by kernel_rfl) rfl rfl ⟨(blk_cell BK373.out 0).trans rfl, (blk_cell BK373.out 1).trans rfl, (blk_cell BK374.out 0).trans rfl, (blk_cell BK374.out 1).trans rfl⟩ (fun hHeld => ?_); refine with_tabW bIproduct.tab1 bIproduct.bits1 (fun HT_ HW_ => ?_)
 generalize w6.drew = w7 at BK373 BK374 BK375 HB hHeld ⊢
 refine pure_ (i := 0) (N := some 5) (v := ?_) (a' := ?_) #[true, false, false, false, false, false, false, false, false, false, false, false] rfl rfl (any_of HT_.out (by kernel_rfl)) (fun _ _ _ h => h) (Or.inl ⟨by rfl, ?_⟩) ?_ ?_
 rotate_left
 ·intro w'
  go_simp
  with_reducible rfl
 rotate_left
 ·simp only [Act.put, List.setIfInBounds_toArray, List.set_cons_zero, List.set_cons_succ, i64_w, i32_w]
  rfl
 refine pure_ (i := 2) (N := some 7) (v := ?_) (a' := ?_) #[true, false, true, false, false, false, false, false, false, false, false, false] rfl rfl (any_of HT_.out (by kernel_rfl)) (fun _ _ _ h => h) (Or.inl ⟨by rfl, ?_⟩) ?_ ?_
 rotate_left
 ·intro w'
  go_simp
  with_reducible rfl
 rotate_left
 ·simp only [Act.put, List.setIfInBounds_toArray, List.set_cons_zero, List.set_cons_succ, i64_w, i32_w]
  rfl
 refine pure_ (i := 5) (N := some 10) (v := ?_) (a' := ?_) #[true, false, true, false, false, true, false, false, false, false, false, false] rfl rfl (any_of HT_.out (by kernel_rfl)) (fun _ _ _ h => h) (Or.inl ⟨by rfl, ?_⟩) ?_ ?_
 rotate_left
 ·intro w'
  go_simp
  with_reducible rfl
 rotate_left
 ·simp only [Act.put, List.setIfInBounds_toArray, List.set_cons_zero, List.set_cons_succ, i64_w, i32_w]
  rfl
 refine pure_ (i := 7) (N := some 12) (v := ?_) (a' := ?_) #[true, false, true, false, false, true, false, true, false, false, false, false] rfl rfl (any_of HT_.out (by kernel_rfl)) (fun _ _ _ h => h) (Or.inl ⟨by rfl, ?_⟩) ?_ ?_
 rotate_left
 ·intro w'
  go_simp
  with_reducible rfl
 rotate_left
 ·simp only [Act.put, List.setIfInBounds_toArray, List.set_cons_zero, List.set_cons_succ, i64_w, i32_w]
  rfl
 refine take_ (i := 1) (N := some 6) (v := ?_) (a' := ?_) #[true, true, true, false, false, true, false, true, false, false, false, false] rfl rfl (take_ofW HT_.out HW_.out (by kernel_rfl)) (fun _ _ _ h => h) (Or.inl ⟨by rfl, ?_⟩) hHeld ?_ ?_
 rotate_left
 ·rintro w' ⟨s0, s1, s2, s3⟩
  go_simp
  with_reducible rfl
 rotate_left
 ·simp only [Act.put, List.setIfInBounds_toArray, List.set_cons_zero, List.set_cons_succ, i64_w, i32_w]
  rfl
 refine take_ (i := 3) (N := some 8) (v := ?_) (a' := ?_) #[true, true, true, true, false, true, false, true, false, false, false, false] rfl rfl (take_ofW HT_.out HW_.out (by kernel_rfl)) (fun _ _ _ h => h) (Or.inl ⟨by rfl, ?_⟩) hHeld ?_ ?_
 rotate_left
 ·rintro w' ⟨s0, s1, s2, s3⟩
  go_simp
  with_reducible rfl
 rotate_left
 ·simp only [Act.put, List.setIfInBounds_toArray, List.set_cons_zero, List.set_cons_succ, i64_w, i32_w]
  rfl
 refine pure_ (i := 4) (N := some 9) (v := ?_) (a' := ?_) #[true, true, true, true, true, true, false, true, false, false, false, false] rfl rfl (any_of HT_.out (by kernel_rfl)) (fun _ _ _ h => h) (Or.inl ⟨by rfl, ?_⟩) ?_ ?_
 rotate_left
 ·intro w'
  go_simp
  with_reducible rfl
 rotate_left
 ·simp only [Act.put, List.setIfInBounds_toArray, List.set_cons_zero, List.set_cons_succ, i64_w, i32_w]
  rfl
 refine take_ (i := 6) (N := some 11) (v := ?_) (a' := ?_) #[true, true, true, true, true, true, true, true, false, false, false, false] rfl rfl (take_ofW HT_.out HW_.out (by kernel_rfl)) (fun _ _ _ h => h) (Or.inl ⟨by rfl, ?_⟩) hHeld ?_ ?_
 rotate_left
 ·rintro w' ⟨s0, s1, s2, s3⟩
  go_simp
  with_reducible rfl
 rotate_left
 ·simp only [Act.put, List.setIfInBounds_toArray, List.set_cons_zero, List.set_cons_succ, i64_w, i32_w]
  rfl
 refine take_ (i := 8) (N := some 13) (v := ?_) (a' := ?_) #[true, true, true, true, true, true, true, true, true, false, false, false] rfl rfl (take_ofW HT_.out HW_.out (by kernel_rfl)) (fun _ _ _ h => h) (Or.inl ⟨by rfl, ?_⟩) hHeld ?_ ?_
 rotate_left
 ·rintro w' ⟨s0, s1, s2, s3⟩
  go_simp
  with_reducible rfl
 rotate_left
 ·simp only [Act.put, List.setIfInBounds_toArray, List.set_cons_zero, List.set_cons_succ, i64_w, i32_w]
  rfl
 refine one_ (i := 9) (N := some 14) #[true, true, true, true, true, true, true, true, true, true, false, false] rfl rfl (one_of HT_.out (by kernel_rfl)) (by decide) (fun K hK => ?_)
 refine goes_ Tryz.func65 (by kernel_rfl) rfl #[.slice A0_1 l0_1.length c0_1, .slice A1_1 l1_1.length c1_1] (by rfl) rfl rfl (by (try simp only [List.map_toArray, List.map_cons, List.map_nil]); first | done | rfl | (simp only [List.length_drop, List.length_take]; rfl)) ?_
 with_reducible refine (bItimes.calls k _ _ l0_1 _ _ l1_1 t376 _ ?side1 ?side2 ?side3 ?side4 A3.out).mono ?_
 (case side1 => exact cq (Kd.C_below HR0_1.out HB.out))
 (case side2 => exact HC0_1.out)
 (case side3 => exact cq (Kd.C_below HR1_1.out HB.out))
 (case side4 => exact HC1_1.out)
 rintro e w8 ⟨v377, rfl, ho0, hb⟩
 refine ⟨_, rfl, ?_⟩
 have HO378 := fN ho0
 replace BK373 := fk BK373 hb
 replace BK374 := fk BK374 hb
 replace BK375 := fk BK375 hb
 replace HB := fB HB hb
 (try clear hb)
 (try clear hb2)
 (try clear hk)
 (try clear hi)
 (try clear ho0)
 obtain ⟨Ao9, co9, eo9⟩ := Kd.R_slice HO378.out
 (first | subst eo9 | (injection eo9 with f1_ f2_ f3_; have f4_ := f1_.symm; have f5_ := f3_.symm; clear f1_ f2_ f3_; subst f4_; subst f5_))
 refine hK.out _ _ ⟨(blk_cell BK373.out 0).trans rfl, (blk_cell BK373.out 1).trans rfl, (blk_cell BK374.out 0).trans rfl, (blk_cell BK374.out 1).trans rfl⟩ (fun hHeld => ?_)
 clear hK K
 refine norm_ (a' := ?_) ?_ ?_
 rotate_left
 ·show Act.put _ (some 14) _ = _
  simp only [Act.put, List.setIfInBounds_toArray, List.set_cons_zero, List.set_cons_succ, i64_w, i32_w]
  rfl
 refine pure_ (i := 10) (N := some 15) (v := ?_) (a' := ?_) #[true, true, true, true, true, true, true, true, true, true, true, false] rfl rfl (any_of HT_.out (by kernel_rfl)) (fun _ _ _ h => h) (Or.inl ⟨by rfl, ?_⟩) ?_ ?_
 rotate_left
 ·intro w'
  go_simp
  with_reducible rfl
 rotate_left
 ·simp only [Act.put, List.setIfInBounds_toArray, List.set_cons_zero, List.set_cons_succ, i64_w, i32_w]
  rfl
 refine one_ (i := 11) (N := none) #[true, true, true, true, true, true, true, true, true, true, true, true] rfl rfl (one_of HT_.out (by kernel_rfl)) (by decide) (fun K hK => ?_)
 have hs10 : w8.cell? ⟨gb375, 0, none⟩ = some (.bool false) := (blk_cell BK375.out 0).trans rfl
 have hfs10 := blk_frozen BK375.out 0
 have hns10_0 := NB373_375.out
 have hns10_1 := NB374_375.out
 have hms10_0 := NB375_373.out
 have hms10_1 := NB375_374.out
 have hs11 : w8.cell? ⟨gb375, 1, none⟩ = some (.slice none 0 0) := (blk_cell BK375.out 1).trans rfl
 have hfs11 := blk_frozen BK375.out 1
 have hns11_0 := NB373_375.out
 have hns11_1 := NB374_375.out
 have hms11_0 := NB375_373.out
 have hms11_1 := NB375_374.out
 refine skip_ (w1 := ?_) (by rfl) rfl ?_ ?_
 rotate_left
 ·go_simp
  rfl
 refine hK.out _ _ ⟨((cell_far (p := ⟨gb375, _, none⟩) NB373_375.out _).trans (((cell_far (p := ⟨gb375, _, none⟩) NB373_375.out _).trans (hHeld.1)))), ((cell_far (p := ⟨gb375, _, none⟩) NB373_375.out _).trans (((cell_far (p := ⟨gb375, _, none⟩) NB373_375.out _).trans (hHeld.2.1)))), ((cell_far (p := ⟨gb375, _, none⟩) NB374_375.out _).trans (((cell_far (p := ⟨gb375, _, none⟩) NB374_375.out _).trans (hHeld.2.2.1)))), ((cell_far (p := ⟨gb375, _, none⟩) NB374_375.out _).trans (((cell_far (p := ⟨gb375, _, none⟩) NB374_375.out _).trans (hHeld.2.2.2))))⟩ (fun hHeld => ?_)
 clear hK K
 refine done_ (done_of HT_.out (by kernel_rfl)) ?_
 try go_wp2
 refine bodyPost_ret (results_cell_row rfl _ _ gb375 80 #[.bool (a0_0 != a1_0), .slice Ao9 t376.length co9] (0, 0) _ rfl (by (with_reducible repeat (first | refine blk_drewN ?_ _ | refine blk_drew ?_ | refine blk_alloc ?_ _)); refine blk_put (cs := #[.bool (a0_0 != a1_0), .slice none 0 0]) ?_ 1 _ rfl; (with_reducible repeat (first | refine blk_drewN ?_ _ | refine blk_drew ?_ | refine blk_alloc ?_ _)); refine blk_put (cs := #[.bool false, .slice none 0 0]) ?_ 0 _ rfl; (with_reducible repeat (first | refine blk_drewN ?_ _ | refine blk_drew ?_ | refine blk_alloc ?_ _)); exact BK375.out) Tryz.underlying80 rfl (by kernel_rfl)) rfl ?_
 exact ⟨_, fe, by (with_reducible repeat (first | apply Kd.R_alloc | apply Kd.R_drewN | apply Kd.R_drew)); exact Kd.R_mono (Kd.R_far (p := ⟨gb375, 1, none⟩) (Kd.R_far (p := ⟨gb375, 0, none⟩) (Kd.R_types HO378.out BK375.out (by decide)) (fun _ hk => hk.2) (.bool (a0_0 != a1_0))) (fun _ hk => hk.2) (.slice Ao9 t376.length co9)) (fun _ hk => trivial), bqs⟩
theorem bIsign.calls (a0_0 : Bool) (A0_1 : Option Addr) (c0_1 : Nat) (l0_1 : List Int) (r : Int) (w : World) (hr0_1 : Kd.C (Kd.int .i64) w A0_1 l0_1.length l0_1) (hc0_1 : l0_1.length ≤ c0_1) (h : bIsign.f a0_0 l0_1 = some r) :
  Calls Tryz.prog 55 #[.agg #[.bool a0_0, .slice A0_1 l0_1.length c0_1]] w fun e w' => e = .returned (.int .i64 r) ∧ Below w.heap.size w w' := by
 have hu88 := Tryz.underlying80
 have HR0_1 := Z0.mk hr0_1
 have HC0_1 := Z0.mk hc0_1
 clear hr0_1 hc0_1
 have HB := Z0.mk (Below.refl w.heap.size w)
 have H := h
 clear h
 unfold bIsign.f at H
 rcases je H with ⟨-, c2b0, c2b1, H⟩ | ⟨c2, c2b0, c2b1, H⟩
 ·obtain rfl := Option.some.inj H
  go_enter Tryz.func55, Tryz.ntmps55
  go_wp2_with (first | ((with_reducible refine gd_ 1 rfl ?_); refine bxE 1 #[.bool a0_0, .slice A0_1 l0_1.length c0_1] 80 ?_; intro gb329 hg w3 hbox hb; have BK329 := Z0.mk hbox; have GW329 := fE HB hg; have GE329 := fE HB hg; replace HB := fB HB hb; clear hb hbox hg; obtain ⟨hcz4_0, hcz4_1, hfz4_0, hfz4_1⟩ := b2 BK329))
  go_ret
  exact finE
 have c2b2 : ¬ (l0_1 = []) := fun h_ => c2 (by rw [h_]; rfl)
 by_cases c5 : a0_0 = true
 ·subst c5
  have H1 : (some (-1)) = some r := by rw [if_pos rfl] at H; exact H
  clear H
  have H := H1
  clear H1
  obtain rfl := Option.some.inj H
  go_enter Tryz.func55, Tryz.ntmps55
  go_wp2_with (first | ((with_reducible refine gd_ 1 rfl ?_); refine bxE 1 #[.bool true, .slice A0_1 l0_1.length c0_1] 80 ?_; intro gb329 hg w6 hbox hb; have BK329 := Z0.mk hbox; have GW329 := fE HB hg; have GE329 := fE HB hg; replace HB := fB HB hb; clear hb hbox hg; obtain ⟨hcz7_0, hcz7_1, hfz7_0, hfz7_1⟩ := b2 BK329))
  go_ret
  exact finE
 replace c5 := Bool.eq_false_iff.mpr c5
 subst c5
 have H1 : (some 1) = some r := by rw [if_neg (show ¬ (false = true) by decide)] at H; exact H
 clear H
 have H := H1
 clear H1
 obtain rfl := Option.some.inj H
 go_enter Tryz.func55, Tryz.ntmps55
 go_wp2_with (first | ((with_reducible refine gd_ 1 rfl ?_); refine bxE 1 #[.bool false, .slice A0_1 l0_1.length c0_1] 80 ?_; intro gb329 hg w8 hbox hb; have BK329 := Z0.mk hbox; have GW329 := fE HB hg; have GE329 := fE HB hg; replace HB := fB HB hb; clear hb hbox hg; obtain ⟨hcz9_0, hcz9_1, hfz9_0, hfz9_1⟩ := b2 BK329))
 go_ret
 exact finE
set_option linter.unusedVariables false
set_option linter.unusedSimpArgs false
instance : Ctr 54 (type_of% @bIpair.calls) := ⟨@bIpair.calls, _, Tryz.func54, by kernel_rfl, rfl⟩
instance : Ctr 59 (type_of% @bIsum.calls) := ⟨@bIsum.calls, _, Tryz.func59, by kernel_rfl, rfl⟩
instance : Ctr 64 (type_of% @bIwritten.calls) := ⟨@bIwritten.calls, _, Tryz.func64, by kernel_rfl, rfl⟩
theorem bIAdd.calls (k : Nat) (a0 : ByteArray) (a1 : ByteArray) (r1 : ByteArray) (r2 : Int) (w : World) (hL : LaidW w) (h : bIAdd.f k a0 a1 = some (r1, r2)) :
  Calls Tryz.prog 66 #[.string a0, .string a1] w fun e w' => e = .returned (.tuple #[.string r1, .int .i64 r2]) ∧ Below w.heap.size w w' := by
 have HB := Z0.mk (Below.refl w.heap.size w)
 unfold bIAdd.f at h
 obtain ⟨⟨n0, l0, n1, l1, e⟩, A1, h⟩ := bnd h
 dsimp only at h
 have hu88 := Tryz.underlying80
 go_enter Tryz.func66, Tryz.ntmps66
 go_upto_region 2 with (refine cX rfl ?_; rintro _ w1 ⟨v0, v1, rfl, ho0, ho1, hb⟩; refine ⟨_, rfl, ?_⟩; replace HB := fB HB hb; clear hb; obtain ⟨X0, c0, rfl, hc0, C0⟩ := Kd.R_reads ho0; obtain ⟨X1, c1, rfl, hc1, C1⟩ := Kd.R_reads ho1; clear ho0 ho1)
 refine al2 ?_
 intro W hb B0 B1
 replace HB := fB HB hb
 rcases je h with ⟨-, e0, e1, h⟩ | ⟨-, e0, e1, h⟩
 · obtain ⟨⟨n, l⟩, A2, h⟩ := bnd h
   obtain ⟨⟨s, e'⟩, A3, h⟩ := bnd h
   cases h
   obtain ⟨p0, p1, -, -⟩ := b2 B0
   obtain ⟨q0, q1, -, -⟩ := b2 B1
   go_wp2_with (first
    | ((with_reducible refine gc_ 59 rfl ?_); refine cX rfl ?_; rintro _ w2 ⟨v, rfl, ho, hb2⟩; refine ⟨_, rfl, ?_⟩; replace HB := fB HB hb2; obtain ⟨X, c, rfl, hc, C⟩ := Kd.R_reads ho)
    | (refine cG rfl ?_; intro w' hb; replace HB := fB HB hb))
   go_ret2
   exact ⟨rfl, HB.out⟩
 · cases h
   go_wp2
   go_ret2
   exact ⟨rfl, HB.out⟩
theorem neg_ok (n : Bool) (X : Option Addr) (l c : Nat) (w : World) :
  Calls Tryz.prog 60 #[.agg #[.bool n, .slice X l c]] w fun e w' => e = .returned (.agg #[.bool (!n), .slice X l c]) ∧ Below w.heap.size w w' := by
 have hu88 := Tryz.underlying80
 go_enter Tryz.func60, Tryz.ntmps60
 go_upto_region 1 with (fail)
 refine al2 ?_
 intro W hb B0 B1
 obtain ⟨p0, p1, -, -⟩ := b2 B0
 obtain ⟨q0, q1, f0, f1⟩ := b2 B1
 go_wp2
 refine bodyPost_ret (results_cell_row rfl _ _ (w.heap.size + 1) 80 #[.bool (!n), .slice X l c] (0, 0) _ rfl (blk_put (blk_put B1.out 0 _ rfl) 1 _ rfl) Tryz.underlying80 rfl (by kernel_rfl)) rfl ⟨rfl, below_set (below_set hb (by omega)) (by omega)⟩
instance : Ctr 60 (type_of% @neg_ok) := ⟨@neg_ok, _, Tryz.func60, by kernel_rfl, rfl⟩
theorem bISub.calls (k : Nat) (a0 : ByteArray) (a1 : ByteArray) (r1 : ByteArray) (r2 : Int) (w : World) (hL : LaidW w) (h : bISub.f k a0 a1 = some (r1, r2)) :
  Calls Tryz.prog 114 #[.string a0, .string a1] w fun e w' => e = .returned (.tuple #[.string r1, .int .i64 r2]) ∧ Below w.heap.size w w' := by
 have HB := Z0.mk (Below.refl w.heap.size w)
 unfold bISub.f at h
 obtain ⟨⟨n0, l0, n1, l1, e⟩, A1, h⟩ := bnd h
 dsimp only at h
 have hu88 := Tryz.underlying80
 go_enter Tryz.func114, Tryz.ntmps114
 go_upto_region 2 with (refine cX rfl ?_; rintro _ w1 ⟨v0, v1, rfl, ho0, ho1, hb⟩; refine ⟨_, rfl, ?_⟩; replace HB := fB HB hb; clear hb; obtain ⟨X0, c0, rfl, hc0, C0⟩ := Kd.R_reads ho0; obtain ⟨X1, c1, rfl, hc1, C1⟩ := Kd.R_reads ho1; clear ho0 ho1)
 refine al2 ?_
 intro W hb B0 B1
 replace HB := fB HB hb
 rcases je h with ⟨-, e0, e1, h⟩ | ⟨-, e0, e1, h⟩
 · obtain ⟨⟨n, l⟩, A2, h⟩ := bnd h
   cases A2.out
   obtain ⟨⟨n, l⟩, A2, h⟩ := bnd h
   obtain ⟨⟨s, e'⟩, A3, h⟩ := bnd h
   cases h
   go_wp2
   have hd := (Below.refl W.heap.size W).drew
   replace B0 := fk B0 hd
   replace B1 := fk B1 hd
   replace HB := fB HB hd
   replace C0 := Kd.C_below C0 (below_step hb hd)
   replace C1 := Kd.C_below C1 (below_step hb hd)
   go_region_held3 (fun w' => w'.cell? ⟨w1.heap.size, 0, none⟩ = some (.bool n0) ∧ w'.cell? ⟨w1.heap.size, 1, none⟩ = some (.slice X0 l0.length c0) ∧ w'.cell? ⟨w1.heap.size + 1, 0, none⟩ = some (.bool n1) ∧ w'.cell? ⟨w1.heap.size + 1, 1, none⟩ = some (.slice X1 l1.length c1))
    (exact ⟨(b2 B0).1, (b2 B0).2.1, (b2 B1).1, (b2 B1).2.1⟩)
    (first
    | (go_at_call 59; refine (bIsum.calls _ _ _ _ _ _ _ _ _ _ _ _ C0 hc0 C1 hc1 A2.out).mono ?_; rintro _ w2 ⟨v, rfl, ho, hb'⟩; replace B0 := fk B0 hb'; replace B1 := fk B1 hb'; replace HB := fB HB hb'; obtain ⟨X, c, rfl, hc, C⟩ := Kd.R_reads ho)
    | ((with_reducible refine atC ?_); refine cC ?_; intro w' hb'; (try replace C0 := Kd.C_below C0 hb'); (try replace C1 := Kd.C_below C1 hb'); replace B0 := fk B0 hb'; replace B1 := fk B1 hb'; replace HB := fB HB hb'))
   all_goals go_wp2
   go_ret2
   exact ⟨rfl, HB.out⟩
 · cases h
   go_wp2
   go_ret2
   exact ⟨rfl, HB.out⟩
instance : Ctr 55 (type_of% @bIsign.calls) := ⟨@bIsign.calls, _, Tryz.func55, by kernel_rfl, rfl⟩
instance : Ctr 61 (type_of% @bIproduct.calls) := ⟨@bIproduct.calls, _, Tryz.func61, by kernel_rfl, rfl⟩
theorem bICompare.calls (k : Nat) (a0 : ByteArray) (a1 : ByteArray) (r1 : Int) (r2 : Int) (w : World) (h : bICompare.f k a0 a1 = some (r1, r2)) :
  Calls Tryz.prog 27 #[.string a0, .string a1] w fun e w' => e = .returned (.tuple #[.int .i64 r1, .int .i64 r2]) ∧ Below w.heap.size w w' := by
 have HB := Z0.mk (Below.refl w.heap.size w)
 unfold bICompare.f at h
 obtain ⟨⟨n0, l0, n1, l1, e⟩, A1, h⟩ := bnd h
 dsimp only at h
 have hu88 := Tryz.underlying80
 go_enter Tryz.func27, Tryz.ntmps27
 go_upto_region 2 with (refine cX rfl ?_; rintro _ w1 ⟨v0, v1, rfl, ho0, ho1, hb⟩; refine ⟨_, rfl, ?_⟩; replace HB := fB HB hb; clear hb; obtain ⟨X0, c0, rfl, hc0, C0⟩ := Kd.R_reads ho0; obtain ⟨X1, c1, rfl, hc1, C1⟩ := Kd.R_reads ho1; clear ho0 ho1)
 refine al2 ?_
 intro W hb B0 B1
 replace HB := fB HB hb
 rcases je h with ⟨-, e0, e1, h⟩ | ⟨-, e0, e1, h⟩
 · obtain ⟨⟨n, l⟩, A2, h⟩ := bnd h
   cases A2.out
   obtain ⟨⟨n, l⟩, A2, h⟩ := bnd h
   obtain ⟨s, A3, h⟩ := bnd h
   cases h
   go_wp2
   have hd := (Below.refl W.heap.size W).drew
   replace B0 := fk B0 hd
   replace B1 := fk B1 hd
   replace HB := fB HB hd
   replace C0 := Kd.C_below C0 (below_step hb hd)
   replace C1 := Kd.C_below C1 (below_step hb hd)
   go_region_held3 (fun w' => w'.cell? ⟨w1.heap.size, 0, none⟩ = some (.bool n0) ∧ w'.cell? ⟨w1.heap.size, 1, none⟩ = some (.slice X0 l0.length c0) ∧ w'.cell? ⟨w1.heap.size + 1, 0, none⟩ = some (.bool n1) ∧ w'.cell? ⟨w1.heap.size + 1, 1, none⟩ = some (.slice X1 l1.length c1))
    (exact ⟨(b2 B0).1, (b2 B0).2.1, (b2 B1).1, (b2 B1).2.1⟩)
    (first
    | (go_at_call 59; refine (bIsum.calls _ _ _ _ _ _ _ _ _ _ _ _ C0 hc0 C1 hc1 A2.out).mono ?_; rintro _ w2 ⟨v, rfl, ho, hb'⟩; replace B0 := fk B0 hb'; replace B1 := fk B1 hb'; replace HB := fB HB hb'; obtain ⟨X, c, rfl, hc, C⟩ := Kd.R_reads ho)
    | ((with_reducible refine atC ?_); refine cC ?_; intro w' hb'; (try replace C0 := Kd.C_below C0 hb'); (try replace C1 := Kd.C_below C1 hb'); replace B0 := fk B0 hb'; replace B1 := fk B1 hb'; replace HB := fB HB hb'))
   all_goals go_wp2
   go_ret2
   exact ⟨rfl, HB.out⟩
 · cases h
   go_wp2
   go_ret2
   exact ⟨rfl, HB.out⟩
theorem bIMul.calls (k : Nat) (a0 : ByteArray) (a1 : ByteArray) (r1 : ByteArray) (r2 : Int) (w : World) (hL : LaidW w) (h : bIMul.f k a0 a1 = some (r1, r2)) :
  Calls Tryz.prog 53 #[.string a0, .string a1] w fun e w' => e = .returned (.tuple #[.string r1, .int .i64 r2]) ∧ Below w.heap.size w w' := by
 have HB := Z0.mk (Below.refl w.heap.size w)
 unfold bIMul.f at h
 obtain ⟨⟨n0, l0, n1, l1, e⟩, A1, h⟩ := bnd h
 dsimp only at h
 have hu88 := Tryz.underlying80
 go_enter Tryz.func53, Tryz.ntmps53
 go_upto_region 2 with (refine cX rfl ?_; rintro _ w1 ⟨v0, v1, rfl, ho0, ho1, hb⟩; refine ⟨_, rfl, ?_⟩; replace HB := fB HB hb; clear hb; obtain ⟨X0, c0, rfl, hc0, C0⟩ := Kd.R_reads ho0; obtain ⟨X1, c1, rfl, hc1, C1⟩ := Kd.R_reads ho1; clear ho0 ho1)
 refine al2 ?_
 intro W hb B0 B1
 replace HB := fB HB hb
 rcases je h with ⟨-, e0, e1, h⟩ | ⟨-, e0, e1, h⟩
 · obtain ⟨⟨n, l⟩, A2, h⟩ := bnd h
   obtain ⟨⟨s, e'⟩, A3, h⟩ := bnd h
   cases h
   obtain ⟨p0, p1, -, -⟩ := b2 B0
   obtain ⟨q0, q1, -, -⟩ := b2 B1
   go_wp2_with (first
    | ((with_reducible refine gc_ 61 rfl ?_); refine cX rfl ?_; rintro _ w2 ⟨v, rfl, ho, hb2⟩; refine ⟨_, rfl, ?_⟩; replace HB := fB HB hb2; obtain ⟨X, c, rfl, hc, C⟩ := Kd.R_reads ho)
    | (refine cG rfl ?_; intro w' hb; replace HB := fB HB hb))
   go_ret2
   exact ⟨rfl, HB.out⟩
 · cases h
   go_wp2
   go_ret2
   exact ⟨rfl, HB.out⟩
set_option linter.unusedVariables false
attribute [local go_sem] max2_int min2_int max_two min_two max_three min_three max_four min_four
set_option linter.unusedSimpArgs false
theorem rAboth.calls (k : Nat) (a0 : ByteArray) (a1 : ByteArray) (a2 : ByteArray) (a3 : ByteArray) (r1 : ByteArray) (r2 : ByteArray) (r3 : Int) (w : World) (hL : LaidW w) (h : rAboth.f k a0 a1 a2 a3 = some (r1, r2, r3)) :
  Calls Tryz.prog 37 #[.string a0, .string a1, .string a2, .string a3] w fun e w' => e = .returned (.tuple #[.string r1, .string r2, .int .i64 r3]) ∧ Below w.heap.size w w' := by
 have HB := Z0.mk (Below.refl w.heap.size w)
 have H := h
 clear h
 unfold rAboth.f at H
 obtain ⟨⟨t396, t397⟩, A5, H⟩ := bnd H
 try dsimp only at H
 rcases je H with ⟨-, c6b0, c6b1, H⟩ | ⟨c6, c6b0, c6b1, H⟩
 ·obtain ⟨⟨t398, t399⟩, A7, H⟩ := bnd H
  try dsimp only at H
  simp only [Option.some.injEq, Prod.mk.injEq] at H
  obtain ⟨rfl, rfl, rfl⟩ := H
  go_enter Tryz.func37, Tryz.ntmps37
  go_wp2_with (first | ((with_reducible refine gc_ 53 rfl ?_); refine goB (some 17) Tryz.func53 #[.string a0, .string a1] bq (bIMul.calls k a0 a1 t396 t397 _ (hL.below bq) A5.out) ?_; clear HB; intro w8 HB) | ((with_reducible refine gc_ 53 rfl ?_); refine goB (some 26) Tryz.func53 #[.string a2, .string a3] bq (bIMul.calls k a2 a3 t398 t399 _ (hL.below bq) A7.out) ?_; clear HB; intro w9 HB))
  go_ret3
  exact finE
 simp only [Option.some.injEq, Prod.mk.injEq] at H
 obtain ⟨rfl, rfl, rfl⟩ := H
 go_enter Tryz.func37, Tryz.ntmps37
 go_wp2_with (first | ((with_reducible refine gc_ 53 rfl ?_); refine goB (some 17) Tryz.func53 #[.string a0, .string a1] bq (bIMul.calls k a0 a1 t396 t397 _ (hL.below bq) A5.out) ?_; clear HB; intro w10 HB))
 go_ret3
 exact finE
end Go.Proofs.YtinpcbjjnlpblaaGreatDoor.PA
namespace Go.Proofs.YtinpcbjjnlpblaaGreatDoor
set_option linter.unusedVariables false
open Go.RowKit Go.Proofs.WWords Go.Proofs.WLast Go.Proofs.WMore PA
attribute [local go_sem] max2_int min2_int max_two min_two max_three min_three max_four min_four
set_option linter.unusedSimpArgs false
theorem gcellF {w W : World} {g : Nat} {v : Value} {t : TypeId} (h : w.heap[g]? = some (.cells #[v] t (0, 0))) (hb : Below w.heap.size w W) : W.cell? ⟨g, 0, none⟩ = some v := by
 have h2 : W.heap[g]? = some (.cells #[v] t (0, 0)) := (hb.block g (Array.getElem?_eq_some_iff.1 h).1).trans h
 exact blk_cell h2 0
theorem rAaddop.calls (k : Nat) (a0_0 : ByteArray) (a0_1 : ByteArray) (a0_2 : ByteArray) (a0_3 : ByteArray) (r1 : ByteArray) (r2 : ByteArray) (r3 : Int) (gc : Nat) (w : World) (hgc : w.heap[gc]? = some (.cells #[.func (.func 66) #[] #[]] 49 (0, 0))) (hL : LaidW w) (h : rAaddop.f k a0_0 a0_1 a0_2 a0_3 = some (r1, r2, r3)) :
  Calls Tryz.prog 144 #[.agg #[.string a0_0, .string a0_1, .string a0_2, .string a0_3], .pointer (some ⟨gc, 0, none⟩)] w fun e w' => e = .returned (.tuple #[.string r1, .string r2, .int .i64 r3]) ∧ Below w.heap.size w w' := by
 have hu95 := Tryz.underlying63
 have HB := Z0.mk (Below.refl w.heap.size w)
 have H := h
 clear h
 unfold rAaddop.f at H
 obtain ⟨⟨t429, t430, t431⟩, A2, H⟩ := bnd H
 try dsimp only at H
 rcases je H with ⟨-, c3b0, c3b1, H⟩ | ⟨c3, c3b0, c3b1, H⟩
 ·obtain ⟨⟨t432, t433⟩, A4, H⟩ := bnd H
  try dsimp only at H
  rcases je H with ⟨-, c5b0, c5b1, H⟩ | ⟨c5, c5b0, c5b1, H⟩
  ·obtain ⟨⟨t434, t435⟩, A6, H⟩ := bnd H
   try dsimp only at H
   simp only [Option.some.injEq, Prod.mk.injEq] at H
   obtain ⟨rfl, rfl, rfl⟩ := H
   go_enter Tryz.func144, Tryz.ntmps144
   go_wp2_with (first | ((with_reducible refine gd_ 2 rfl ?_); refine bxE 2 #[.string a0_0, .string a0_1, .string a0_2, .string a0_3] 63 ?_; intro gb428 hg w7 hbox hb; have BK428 := Z0.mk hbox; have GW428 := fE HB hg; have GE428 := fE HB hg; replace HB := fB HB hb; clear hb hbox hg; obtain ⟨hcz8_0, hcz8_1, hcz8_2, hcz8_3, hfz8_0, hfz8_1, hfz8_2, hfz8_3⟩ := b4 BK428) | ((with_reducible refine gc_ 37 rfl ?_); refine gL 17 Tryz.func37 (rAboth.calls k a0_0 a0_3 a0_2 a0_1 t429 t430 t431 _ ?side1 A2.out) ?_; (case side1 => exact LaidW.below hL bqs); rintro _ w9 ⟨rfl, hb⟩; refine ⟨_, rfl, ?_⟩; replace BK428 := fk BK428 hb; replace HB := fB HB hb; have hgcF := gcellF hgc HB.out; clear hb) | (go_at_call 66; (with_reducible refine (bIAdd.calls k t429 t430 t432 t433 _ ?side1 A4.out).mono ?_); (case side1 => exact LaidW.below hL bqs); rintro e w10 ⟨rfl, hb⟩; replace BK428 := fk BK428 hb; replace HB := fB HB hb; clear hb; obtain ⟨hcz11_0, hcz11_1, hcz11_2, hcz11_3, hfz11_0, hfz11_1, hfz11_2, hfz11_3⟩ := b4 BK428) | ((with_reducible refine gc_ 53 rfl ?_); refine gL 39 Tryz.func53 (bIMul.calls k a0_1 a0_3 t434 t435 _ ?side1 A6.out) ?_; (case side1 => exact LaidW.below hL bqs); rintro _ w12 ⟨rfl, hb⟩; refine ⟨_, rfl, ?_⟩; replace BK428 := fk BK428 hb; replace HB := fB HB hb; clear hb))
   go_ret3
   exact finE
  simp only [Option.some.injEq, Prod.mk.injEq] at H
  obtain ⟨rfl, rfl, rfl⟩ := H
  go_enter Tryz.func144, Tryz.ntmps144
  go_wp2_with (first | ((with_reducible refine gd_ 2 rfl ?_); refine bxE 2 #[.string a0_0, .string a0_1, .string a0_2, .string a0_3] 63 ?_; intro gb428 hg w13 hbox hb; have BK428 := Z0.mk hbox; have GW428 := fE HB hg; have GE428 := fE HB hg; replace HB := fB HB hb; clear hb hbox hg; obtain ⟨hcz14_0, hcz14_1, hcz14_2, hcz14_3, hfz14_0, hfz14_1, hfz14_2, hfz14_3⟩ := b4 BK428) | ((with_reducible refine gc_ 37 rfl ?_); refine gL 17 Tryz.func37 (rAboth.calls k a0_0 a0_3 a0_2 a0_1 t429 t430 t431 _ ?side1 A2.out) ?_; (case side1 => exact LaidW.below hL bqs); rintro _ w15 ⟨rfl, hb⟩; refine ⟨_, rfl, ?_⟩; replace BK428 := fk BK428 hb; replace HB := fB HB hb; have hgcF := gcellF hgc HB.out; clear hb) | (go_at_call 66; (with_reducible refine (bIAdd.calls k t429 t430 t432 t433 _ ?side1 A4.out).mono ?_); (case side1 => exact LaidW.below hL bqs); rintro e w16 ⟨rfl, hb⟩; replace BK428 := fk BK428 hb; replace HB := fB HB hb; clear hb))
  go_ret3
  exact finE
 simp only [Option.some.injEq, Prod.mk.injEq] at H
 obtain ⟨rfl, rfl, rfl⟩ := H
 go_enter Tryz.func144, Tryz.ntmps144
 go_wp2_with (first | ((with_reducible refine gd_ 2 rfl ?_); refine bxE 2 #[.string a0_0, .string a0_1, .string a0_2, .string a0_3] 63 ?_; intro gb428 hg w17 hbox hb; have BK428 := Z0.mk hbox; have GW428 := fE HB hg; have GE428 := fE HB hg; replace HB := fB HB hb; clear hb hbox hg; obtain ⟨hcz18_0, hcz18_1, hcz18_2, hcz18_3, hfz18_0, hfz18_1, hfz18_2, hfz18_3⟩ := b4 BK428) | ((with_reducible refine gc_ 37 rfl ?_); refine gL 17 Tryz.func37 (rAboth.calls k a0_0 a0_3 a0_2 a0_1 t429 t430 t431 _ ?side1 A2.out) ?_; (case side1 => exact LaidW.below hL bqs); rintro _ w19 ⟨rfl, hb⟩; refine ⟨_, rfl, ?_⟩; replace BK428 := fk BK428 hb; replace HB := fB HB hb; have hgcF := gcellF hgc HB.out; clear hb))
 go_ret3
 exact finE
theorem rAsubop.calls (k : Nat) (a0_0 : ByteArray) (a0_1 : ByteArray) (a0_2 : ByteArray) (a0_3 : ByteArray) (r1 : ByteArray) (r2 : ByteArray) (r3 : Int) (gc : Nat) (w : World) (hgc : w.heap[gc]? = some (.cells #[.func (.func 114) #[] #[]] 49 (0, 0))) (hL : LaidW w) (h : rAsubop.f k a0_0 a0_1 a0_2 a0_3 = some (r1, r2, r3)) :
  Calls Tryz.prog 144 #[.agg #[.string a0_0, .string a0_1, .string a0_2, .string a0_3], .pointer (some ⟨gc, 0, none⟩)] w fun e w' => e = .returned (.tuple #[.string r1, .string r2, .int .i64 r3]) ∧ Below w.heap.size w w' := by
 have hu95 := Tryz.underlying63
 have HB := Z0.mk (Below.refl w.heap.size w)
 have H := h
 clear h
 unfold rAsubop.f at H
 obtain ⟨⟨t429, t430, t431⟩, A2, H⟩ := bnd H
 try dsimp only at H
 rcases je H with ⟨-, c3b0, c3b1, H⟩ | ⟨c3, c3b0, c3b1, H⟩
 ·obtain ⟨⟨t432, t433⟩, A4, H⟩ := bnd H
  try dsimp only at H
  rcases je H with ⟨-, c5b0, c5b1, H⟩ | ⟨c5, c5b0, c5b1, H⟩
  ·obtain ⟨⟨t434, t435⟩, A6, H⟩ := bnd H
   try dsimp only at H
   simp only [Option.some.injEq, Prod.mk.injEq] at H
   obtain ⟨rfl, rfl, rfl⟩ := H
   go_enter Tryz.func144, Tryz.ntmps144
   go_wp2_with (first | ((with_reducible refine gd_ 2 rfl ?_); refine bxE 2 #[.string a0_0, .string a0_1, .string a0_2, .string a0_3] 63 ?_; intro gb428 hg w7 hbox hb; have BK428 := Z0.mk hbox; have GW428 := fE HB hg; have GE428 := fE HB hg; replace HB := fB HB hb; clear hb hbox hg; obtain ⟨hcz8_0, hcz8_1, hcz8_2, hcz8_3, hfz8_0, hfz8_1, hfz8_2, hfz8_3⟩ := b4 BK428) | ((with_reducible refine gc_ 37 rfl ?_); refine gL 17 Tryz.func37 (rAboth.calls k a0_0 a0_3 a0_2 a0_1 t429 t430 t431 _ ?side1 A2.out) ?_; (case side1 => exact LaidW.below hL bqs); rintro _ w9 ⟨rfl, hb⟩; refine ⟨_, rfl, ?_⟩; replace BK428 := fk BK428 hb; replace HB := fB HB hb; have hgcF := gcellF hgc HB.out; clear hb) | (go_at_call 114; (with_reducible refine (bISub.calls k t429 t430 t432 t433 _ ?side1 A4.out).mono ?_); (case side1 => exact LaidW.below hL bqs); rintro e w10 ⟨rfl, hb⟩; replace BK428 := fk BK428 hb; replace HB := fB HB hb; clear hb; obtain ⟨hcz11_0, hcz11_1, hcz11_2, hcz11_3, hfz11_0, hfz11_1, hfz11_2, hfz11_3⟩ := b4 BK428) | ((with_reducible refine gc_ 53 rfl ?_); refine gL 39 Tryz.func53 (bIMul.calls k a0_1 a0_3 t434 t435 _ ?side1 A6.out) ?_; (case side1 => exact LaidW.below hL bqs); rintro _ w12 ⟨rfl, hb⟩; refine ⟨_, rfl, ?_⟩; replace BK428 := fk BK428 hb; replace HB := fB HB hb; clear hb))
   go_ret3
   exact finE
  simp only [Option.some.injEq, Prod.mk.injEq] at H
  obtain ⟨rfl, rfl, rfl⟩ := H
  go_enter Tryz.func144, Tryz.ntmps144
  go_wp2_with (first | ((with_reducible refine gd_ 2 rfl ?_); refine bxE 2 #[.string a0_0, .string a0_1, .string a0_2, .string a0_3] 63 ?_; intro gb428 hg w13 hbox hb; have BK428 := Z0.mk hbox; have GW428 := fE HB hg; have GE428 := fE HB hg; replace HB := fB HB hb; clear hb hbox hg; obtain ⟨hcz14_0, hcz14_1, hcz14_2, hcz14_3, hfz14_0, hfz14_1, hfz14_2, hfz14_3⟩ := b4 BK428) | ((with_reducible refine gc_ 37 rfl ?_); refine gL 17 Tryz.func37 (rAboth.calls k a0_0 a0_3 a0_2 a0_1 t429 t430 t431 _ ?side1 A2.out) ?_; (case side1 => exact LaidW.below hL bqs); rintro _ w15 ⟨rfl, hb⟩; refine ⟨_, rfl, ?_⟩; replace BK428 := fk BK428 hb; replace HB := fB HB hb; have hgcF := gcellF hgc HB.out; clear hb) | (go_at_call 114; (with_reducible refine (bISub.calls k t429 t430 t432 t433 _ ?side1 A4.out).mono ?_); (case side1 => exact LaidW.below hL bqs); rintro e w16 ⟨rfl, hb⟩; replace BK428 := fk BK428 hb; replace HB := fB HB hb; clear hb))
  go_ret3
  exact finE
 simp only [Option.some.injEq, Prod.mk.injEq] at H
 obtain ⟨rfl, rfl, rfl⟩ := H
 go_enter Tryz.func144, Tryz.ntmps144
 go_wp2_with (first | ((with_reducible refine gd_ 2 rfl ?_); refine bxE 2 #[.string a0_0, .string a0_1, .string a0_2, .string a0_3] 63 ?_; intro gb428 hg w17 hbox hb; have BK428 := Z0.mk hbox; have GW428 := fE HB hg; have GE428 := fE HB hg; replace HB := fB HB hb; clear hb hbox hg; obtain ⟨hcz18_0, hcz18_1, hcz18_2, hcz18_3, hfz18_0, hfz18_1, hfz18_2, hfz18_3⟩ := b4 BK428) | ((with_reducible refine gc_ 37 rfl ?_); refine gL 17 Tryz.func37 (rAboth.calls k a0_0 a0_3 a0_2 a0_1 t429 t430 t431 _ ?side1 A2.out) ?_; (case side1 => exact LaidW.below hL bqs); rintro _ w19 ⟨rfl, hb⟩; refine ⟨_, rfl, ?_⟩; replace BK428 := fk BK428 hb; replace HB := fB HB hb; have hgcF := gcellF hgc HB.out; clear hb))
 go_ret3
 exact finE
theorem rAoperations_1.calls (k : Nat) (a0_0 : ByteArray) (a0_1 : ByteArray) (a0_2 : ByteArray) (a0_3 : ByteArray) (r1 : ByteArray) (r2 : ByteArray) (r3 : Int) (w : World) (hL : LaidW w) (h : rAoperations_1.f k a0_0 a0_1 a0_2 a0_3 = some (r1, r2, r3)) :
  Calls Tryz.prog 115 #[.agg #[.string a0_0, .string a0_1, .string a0_2, .string a0_3]] w fun e w' => e = .returned (.tuple #[.string r1, .string r2, .int .i64 r3]) ∧ Below w.heap.size w w' := by
 have hu95 := Tryz.underlying63
 have HB := Z0.mk (Below.refl w.heap.size w)
 have H := h
 clear h
 unfold rAoperations_1.f at H
 obtain ⟨⟨t429, t430, t431⟩, A2, H⟩ := bnd H
 try dsimp only at H
 simp only [Option.some.injEq, Prod.mk.injEq] at H
 obtain ⟨rfl, rfl, rfl⟩ := H
 go_enter Tryz.func115, Tryz.ntmps115
 go_wp2_with (first | ((with_reducible refine gd_ 1 rfl ?_); refine bxE 1 #[.string a0_0, .string a0_1, .string a0_2, .string a0_3] 63 ?_; intro gb428 hg w3 hbox hb; have BK428 := Z0.mk hbox; have GW428 := fE HB hg; have GE428 := fE HB hg; replace HB := fB HB hb; clear hb hbox hg; obtain ⟨hcz4_0, hcz4_1, hcz4_2, hcz4_3, hfz4_0, hfz4_1, hfz4_2, hfz4_3⟩ := b4 BK428) | ((with_reducible refine gc_ 37 rfl ?_); refine gL 13 Tryz.func37 (rAboth.calls k a0_0 a0_2 a0_1 a0_3 t429 t430 t431 _ ?side1 A2.out) ?_; (case side1 => exact LaidW.below hL bqs); rintro _ w5 ⟨rfl, hb⟩; refine ⟨_, rfl, ?_⟩; replace BK428 := fk BK428 hb; replace HB := fB HB hb; clear hb))
 go_ret3
 exact finE
theorem rAoperations_2.calls (k : Nat) (a0_0 : ByteArray) (a0_1 : ByteArray) (a0_2 : ByteArray) (a0_3 : ByteArray) (r1 : ByteArray) (r2 : ByteArray) (r3 : Int) (w : World) (hL : LaidW w) (h : rAoperations_2.f k a0_0 a0_1 a0_2 a0_3 = some (r1, r2, r3)) :
  Calls Tryz.prog 116 #[.agg #[.string a0_0, .string a0_1, .string a0_2, .string a0_3]] w fun e w' => e = .returned (.tuple #[.string r1, .string r2, .int .i64 r3]) ∧ Below w.heap.size w w' := by
 have hu95 := Tryz.underlying63
 have HB := Z0.mk (Below.refl w.heap.size w)
 have H := h
 clear h
 unfold rAoperations_2.f at H
 rcases je H with ⟨-, c2b0, c2b1, H⟩ | ⟨c2, c2b0, c2b1, H⟩
 ·simp only [Option.some.injEq, Prod.mk.injEq] at H
  obtain ⟨rfl, rfl, rfl⟩ := H
  go_enter Tryz.func116, Tryz.ntmps116
  go_wp2_with (first | ((with_reducible refine gd_ 1 rfl ?_); refine bxE 1 #[.string a0_0, .string a0_1, .string a0_2, .string a0_3] 63 ?_; intro gb428 hg w3 hbox hb; have BK428 := Z0.mk hbox; have GW428 := fE HB hg; have GE428 := fE HB hg; replace HB := fB HB hb; clear hb hbox hg; obtain ⟨hcz4_0, hcz4_1, hcz4_2, hcz4_3, hfz4_0, hfz4_1, hfz4_2, hfz4_3⟩ := b4 BK428))
  go_ret3
  exact finE
 obtain ⟨⟨t429, t430, t431⟩, A5, H⟩ := bnd H
 try dsimp only at H
 simp only [Option.some.injEq, Prod.mk.injEq] at H
 obtain ⟨rfl, rfl, rfl⟩ := H
 go_enter Tryz.func116, Tryz.ntmps116
 go_wp2_with (first | ((with_reducible refine gd_ 1 rfl ?_); refine bxE 1 #[.string a0_0, .string a0_1, .string a0_2, .string a0_3] 63 ?_; intro gb428 hg w6 hbox hb; have BK428 := Z0.mk hbox; have GW428 := fE HB hg; have GE428 := fE HB hg; replace HB := fB HB hb; clear hb hbox hg; obtain ⟨hcz7_0, hcz7_1, hcz7_2, hcz7_3, hfz7_0, hfz7_1, hfz7_2, hfz7_3⟩ := b4 BK428) | ((with_reducible refine gc_ 37 rfl ?_); refine gL 16 Tryz.func37 (rAboth.calls k a0_0 a0_3 a0_1 a0_2 t429 t430 t431 _ ?side1 A5.out) ?_; (case side1 => exact LaidW.below hL bqs); rintro _ w8 ⟨rfl, hb⟩; refine ⟨_, rfl, ?_⟩; replace BK428 := fk BK428 hb; replace HB := fB HB hb; clear hb))
 go_ret3
 exact finE
end Go.Proofs.YtinpcbjjnlpblaaGreatDoor
namespace Go.Proofs.YtinpcbjjnlpblaaGreatDoor.PA
set_option linter.unusedVariables false
open Go.RowKit Go.Proofs.WWords Go.Proofs.WLast Go.Proofs.WMore
attribute [local go_sem] max2_int min2_int max_two min_two max_three min_three max_four min_four
set_option linter.unusedSimpArgs false
theorem rAcanonical.calls (a0 : ByteArray) (r : Bool) (w : World) (h : rAcanonical.f a0 = some r) :
  Calls Tryz.prog 46 #[.string a0] w fun e w' => e = .returned (.bool r) ∧ Below w.heap.size w w' := by
 have HB := Z0.mk (Below.refl w.heap.size w)
 have H := h
 clear h
 unfold rAcanonical.f at H
 obtain ⟨t110, A2, H⟩ := bnd H
 obtain rfl := Option.some.inj H
 go_enter Tryz.func46, Tryz.ntmps46
 go_wp2_with (first | ((with_reducible refine gc_ 67 rfl ?_); refine goB (some 4) Tryz.func67 #[.string a0] bq (bICheck.calls a0 t110 _ A2.out) ?_; clear HB; intro w3 HB))
 go_ret
 exact finE
end Go.Proofs.YtinpcbjjnlpblaaGreatDoor.PA
namespace Go.Proofs.YtinpcbjjnlpblaaGreatDoor
set_option linter.unusedVariables false
open Go.RowKit
def plainOp : Op → Bool
 | .move _ | .assign _ | .load _ _ | .binOp .. | .unOp .. | .indexAddr .. | .fieldAddr .. | .store .. => true
 | _ => false
theorem plain_about {P : Program} {o : Oper} (h : plainOp o.op = true) (w : World) (ρ : Operand → Value) : o.about P w ρ = none := by
 unfold Oper.about
 cases ho : o.op <;> first | rfl | (rw [ho] at h; cases h)
theorem plain_defer {o : Oper} (h : plainOp o.op = true) : ∀ c, o.op ≠ .defer c := by
 intro c hc
 rw [hc] at h
 cases h
def EndsPlain : Result Next → Prop
 | .ok (.value _) _ => True
 | .ok .skip _ => True
 | .halt _ _ => True
 | _ => False
theorem endsPlain_value {x : Result Value} : EndsPlain (x.andThen fun v w => .ok (.value v) w) := by
 cases x <;> exact trivial
theorem endsPlain_skip {x : Result Unit} : EndsPlain (x.andThen fun _ w => .ok .skip w) := by
 cases x <;> exact trivial
theorem plain_run {P : Program} {o : Oper} (h : plainOp o.op = true) (ρ : Operand → Value) (w : World) : EndsPlain ((execOp ρ o).run P w) := by
 unfold execOp
 cases ho : o.op <;> first | (rw [ho] at h; cases h; done) | skip
 all_goals simp only [Sem.run_bind, Sem.run_pure, bind_pure_comp, Sem.run_map]
 all_goals first | exact trivial | exact endsPlain_value | exact endsPlain_skip
theorem plain_wpIn {F : Fence} {n : Nat} {P : Program} {Q : Exit → Act → World → Prop} {o : Oper} (h : plainOp o.op = true) {a : Act} {w : World} {K K' : Act → World → Prop} (hK : ∀ a w, K a w → K' a w) (hw : o.wp P a w K Q) : o.wpIn F n P a w K' Q := by
 unfold Oper.wpIn
 refine ⟨fun f hf => (by rw [plain_about h] at hf; cases hf), ?_⟩
 rw [Oper.semAt_plain F _ _ (plain_defer h)]
 unfold Oper.wp at hw
 have he := plain_run (P := P) h a.eval w
 revert he hw
 generalize (execOp a.eval o).run P w = R
 intro hw he
 cases R with
 | ok x w' =>
  cases x <;> first | exact hK _ _ hw | exact he.elim
 | halt x w' => cases x <;> first | exact hw | exact hw.elim
theorem wpAnyIn_of_wpAny {F : Fence} {n : Nat} {P : Program} {md : Region.Mode} {ops : Array Oper} {Q : Exit → Act → World → Prop} (hp : ∀ (i : Nat) (o : Oper), ops[i]? = some o → plainOp o.op = true) (hlo : ¬ LetsOut Q) :
  ∀ (fuel : Nat) (listed : Array Bool) (a : Act) (w : World), wpAny P md ops Q fuel listed a w → wpAnyIn F n P md ops Q fuel listed a w
 | 0, _, _, _, h => h
 | fuel + 1, listed, a, w, h => ⟨h.1, fun i hi => by
  have h1 := h.2 i hi
  unfold wpOp at h1
  unfold wpOpIn
  cases ho : ops[i]? with
  | none => simp only [ho] at h1 ⊢; exact wpAnyIn_of_wpAny hp hlo fuel _ a w h1
  | some o =>
   simp only [ho] at h1 ⊢
   by_cases hw : Region.wanted o (yielded ops a.tmps) = true
   ·rw [if_pos hw] at h1 ⊢
    rcases h1 with h1 | h1
    ·exact plain_wpIn (hp i o ho) (fun a' w' h' => wpAnyIn_of_wpAny hp hlo fuel _ a' w' h') h1
    ·exact absurd h1.2 hlo
   ·rw [if_neg hw] at h1 ⊢
    exact ⟨fun f hf => (by rw [plain_about (hp i o ho)] at hf; cases hf), wpAnyIn_of_wpAny hp hlo fuel _ _ w h1⟩⟩
theorem plain_all {ops : Array Oper} (h : (ops.toList.all fun o => plainOp o.op) = true) : ∀ (i : Nat) (o : Oper), ops[i]? = some o → plainOp o.op = true := fun i o ho => by
 have hm : o ∈ ops.toList := List.mem_of_getElem? (by rw [Array.getElem?_toList]; exact ho)
 have := List.all_eq_true.1 h o hm
 simpa using this
def wpAnyS (P : Program) (md : Region.Mode) (ops : Array Oper) (Q : Exit → Act → World → Prop) (S : World → Prop) (z : Nat) : Nat → Array Bool → Act → World → Prop
 | 0, listed, a, w => Region.ready md ops listed = [] ∧ Q .normal a w
 | fuel + 1, listed, a, w =>
  (Region.ready md ops listed = [] → Q .normal a w) ∧
  ∀ i ∈ Region.ready md ops listed, wpOp P ops Q i (fun a' w' => ((listed.setIfInBounds i true).getD z true = false → S w') ∧ wpAnyS P md ops Q S z fuel (listed.setIfInBounds i true) a' w') a w
section
variable {P : Program} {ops : Array Oper} {Q : Exit → Act → World → Prop} {md : Region.Mode} {S : World → Prop} {z : Nat}
theorem wpAny_of_S : ∀ (fuel : Nat) (listed : Array Bool) (a : Act) (w : World), wpAnyS P md ops Q S z fuel listed a w → wpAny P md ops Q fuel listed a w
 | 0, _, _, _, h => h
 | fuel + 1, _, _, _, h => ⟨h.1, fun i hi => wpOp_mono (fun a' w' h' => wpAny_of_S fuel _ a' w' h'.2) (h.2 i hi)⟩
theorem wpAnyS_first {i : Nat} {oi : Oper} {v : Value} (hi : ops[i]? = some oi) (hsel : ∀ (j : Nat) (o : Oper) cs b, ops[j]? = some o → o.op ≠ .select cs b)
  (hQ : ∀ c a w, Q (.panic c) (a.put oi.dst v) w → Q (.panic c) a w) (hz : (ops[z]?.map fun oz => oz.after.toList.any fun e => Region.binds md e && e.on == i) = some true) :
  ∀ (fuel : Nat) (listed : Array Bool) (a : Act) (w : World),
   (∀ j oj, ops[j]? = some oj → j ≠ i → listed.getD j true = false → (∀ e ∈ oj.after, Region.binds md e = true → e.on ≠ i) → oi.apart ops oj = true) →
   i ∈ Region.ready md ops listed → listed.getD z true = false → YieldsIf P ops S oi v a → S w →
   wpAnyS P md ops Q S z fuel (listed.setIfInBounds i true) (a.put oi.dst v) w → wpAnyS P md ops Q S z (fuel + 1) listed a w := by
 intro fuel
 induction fuel with
 | zero =>
  intro listed a w _ hr _ hy hS H
  refine ⟨fun h => (by rw [h] at hr; cases hr), fun j hj => ?_⟩
  by_cases hji : j = i
  ·subst hji
   exact hy.wpOp hi hS ⟨fun _ => hS, H⟩
  have h0 := ready_mono hj hji
  rw [H.1] at h0
  cases h0
 | succ fuel ih =>
  intro listed a w hfree hr hlz hy hS H
  refine ⟨fun h => (by rw [h] at hr; cases hr), fun j hj => ?_⟩
  by_cases hji : j = i
  ·subst hji
   exact hy.wpOp hi hS ⟨fun _ => hS, H⟩
  have h1 := H.2 j (ready_mono hj hji)
  obtain ⟨hjun, oj, hoj, hall⟩ := mem_ready.1 hj
  have hnot : ∀ e ∈ oj.after, Region.binds md e = true → e.on ≠ i := fun e he hb heq => by
   have h1 := hall e he hb
   have h0 := (mem_ready.1 hr).1
   rw [heq] at h1
   rcases Nat.lt_or_ge i listed.size with h' | h'
   ·simp [h'] at h0 h1; rw [h0] at h1; cases h1
   simp [Array.getElem?_eq_none h'] at h1
  have hjz : j ≠ z := by
   rintro rfl
   rw [hoj] at hz
   simp only [Option.map_some, Option.some.injEq, List.any_eq_true, Bool.and_eq_true, beq_iff_eq] at hz
   obtain ⟨e, he, hb, hon⟩ := hz
   exact hnot e (by simpa using he) hb hon
  have h2 := wpOp_putIf hoj (hfree j oj hoj hji hjun hnot) (fun cs b => hsel i oi cs b hi) (fun cs b => hsel j oj cs b hoj) hQ hy h1
  have hfree' : ∀ k ok, ops[k]? = some ok → k ≠ i → (listed.setIfInBounds j true).getD k true = false →
   (∀ e ∈ ok.after, Region.binds md e = true → e.on ≠ i) → oi.apart ops ok = true := fun k ok hk hki hun hno => by
   refine hfree k ok hk hki ?_ hno
   by_cases hjk : j = k
   ·subst hjk; exact hjun
   rw [getD_set_ne true hjk] at hun; exact hun
  have hlz' : (listed.setIfInBounds j true).getD z true = false := by rw [getD_set_ne true hjz]; exact hlz
  have hiz : i ≠ z := by
   rintro rfl
   obtain ⟨h0, o', ho', hall'⟩ := mem_ready.1 hr
   rw [ho'] at hz
   simp only [Option.map_some, Option.some.injEq, List.any_eq_true, Bool.and_eq_true, beq_iff_eq] at hz
   obtain ⟨e, he, hb, hon⟩ := hz
   have h1 := hall' e (by simpa using he) hb
   rw [hon] at h1
   rcases Nat.lt_or_ge i listed.size with h' | h'
   ·simp [h'] at h0 h1; rw [h0] at h1; cases h1
   simp [Array.getElem?_eq_none h'] at h1
  refine wpOp_mono (fun a' w' h3 => ?_) h2
  have hS' : S w' := h3.2.1 (by rw [getD_set_ne true hjz, getD_set_ne true hiz]; exact hlz)
  refine ⟨fun _ => hS', ih (listed.setIfInBounds j true) a' w' hfree' (ready_mono hr (Ne.symm hji)) hlz' h3.1 hS' ?_⟩
  rw [Array.setIfInBounds_comm _ _ hji]
  exact h3.2.2
theorem wpAnyS_take {i : Nat} {oi : Oper} {v : Value} {fuel : Nat} {listed : Array Bool} {a : Act} {w : World} (hi : ops[i]? = some oi)
  (hs : Region.noSelect ops = true) (hf : Region.free md ops listed i = true) (hr : (Region.ready md ops listed).contains i = true)
  (hz : (ops[z]?.map fun oz => oz.after.toList.any fun e => Region.binds md e && e.on == i) = some true) (hlz : listed.getD z true = false)
  (hQ : ∀ c a w, Q (.panic c) (a.put oi.dst v) w → Q (.panic c) a w) (hy : YieldsIf P ops S oi v a) (hS : S w)
  (h : wpAnyS P md ops Q S z fuel (listed.setIfInBounds i true) (a.put oi.dst v) w) : wpAnyS P md ops Q S z (fuel + 1) listed a w :=
 wpAnyS_first hi (Region.noSelect_spec hs) hQ hz fuel listed a w (Region.free_spec hi hf) (by simpa using hr) hlz hy hS h
theorem wpAnyS_one {i : Nat} {fuel : Nat} {listed : Array Bool} {a : Act} {w : World} (hr : Region.ready md ops listed = [i])
  (h : wpOp P ops Q i (fun a' w' => ((listed.setIfInBounds i true).getD z true = false → S w') ∧ wpAnyS P md ops Q S z fuel (listed.setIfInBounds i true) a' w') a w) : wpAnyS P md ops Q S z (fuel + 1) listed a w :=
 ⟨fun h0 => (by rw [hr] at h0; cases h0), fun j hj => (by rw [hr, List.mem_singleton] at hj; rw [hj]; exact h)⟩
theorem wpAnyS_store {i : Nat} {o : Oper} {fuel : Nat} {listed : Array Bool} {a : Act} {w w1 : World} (hr : Region.ready md ops listed = [i]) (ho : ops[i]? = some o) (hw : Region.wanted o (yielded ops a.tmps) = true) (hrun : (execOp a.eval o).run P w = .ok .skip w1)
  (hS : (listed.setIfInBounds i true).getD z true = false → S w1) (h : wpAnyS P md ops Q S z fuel (listed.setIfInBounds i true) (a.put o.dst undef) w1) : wpAnyS P md ops Q S z (fuel + 1) listed a w := by
 refine wpAnyS_one hr ?_
 unfold wpOp
 simp only [ho, hw, if_true]
 refine .inl ?_
 unfold Oper.wp
 rw [hrun]
 exact ⟨hS, h⟩
theorem wpAnyS_done {listed : Array Bool} {a : Act} {w : World} (hr : Region.ready md ops listed = []) (h : Q .normal a w) : ∀ fuel, wpAnyS P md ops Q S z fuel listed a w
 | 0 => ⟨hr, h⟩
 | _ + 1 => ⟨fun _ => h, fun j hj => (by rw [hr] at hj; cases hj)⟩
end
theorem wpIn_region_heldP {F : Fence} {n : Nat} {P : Program} {ops : Array Oper} {Q : Exit → Act → World → Prop} {S : World → Prop} (z : Nat) {id : Nat} {a : Act} {w : World} (hm : P.follows .mixedOrders = true) (hp : (ops.toList.all fun o => plainOp o.op) = true) (hlo : ¬ LetsOut Q)
  (h : wpAnyS P .any ops Q S z ops.size (Array.replicate ops.size false) a w.drew) : (Code.region id ops true).wpIn F n P Q a w :=
 wpIn_region_any hm (wpAnyIn_of_wpAny (plain_all hp) hlo _ _ _ _ (wpAny_of_S _ _ _ _ h))
set_option linter.unusedVariables false
set_option linter.unusedSimpArgs false
open Go.RowKit Go.Shelf Go.Proofs.WWords
attribute [local go_sem] Oper.semAt_some
theorem fld_snoc (d : Int) {zs : List Int} (pre : List (BkT zs)) (x : BkT zs) : fld d (pre ++ [x]) = stp d (fld d pre) x.1.1 x.1.2 := by simp [fld]
theorem fld_length (d : Int) {zs : List Int} (pre : List (BkT zs)) : (fld d pre).1.length = zs.length := by
 suffices h : ∀ (p : List Int × Int), p.1.length = zs.length → (pre.foldl (fun p x => stp d p x.1.1 x.1.2) p).1.length = zs.length from h _ (by simp)
 induction pre with
 | nil => intro p h; exact h
 | cons x t ih => intro p h; exact ih _ (by simp [stp, h])
theorem fld_range {d : Int} (h0 : 0 < d) {zs : List Int} (hz : Sv.Digs Sv.LB zs) (pre : List (BkT zs)) : 0 ≤ (fld d pre).2 ∧ (fld d pre).2 < d := by
 suffices h : ∀ (p : List Int × Int), 0 ≤ p.2 ∧ p.2 < d → 0 ≤ (pre.foldl (fun p x => stp d p x.1.1 x.1.2) p).2 ∧ (pre.foldl (fun p x => stp d p x.1.1 x.1.2) p).2 < d from h _ ⟨by simp, by simpa using h0⟩
 induction pre with
 | nil => intro p h; exact h
 | cons x t ih =>
  intro p h
  refine ih _ ?_
  have hv := rd_range (by decide) hz x.1.1
  rw [← x.2.2.2] at hv
  have hn : 0 ≤ p.2 * 1000000000 + x.1.2 := by omega
  simp only [stp]
  exact ⟨Int.tmod_nonneg _ hn, Int.tmod_lt_of_pos _ h0⟩
def ShI (w : World) (s : Nat) (d : Int) {zs : List Int} (pre : List (BkT zs)) (W : World) : Prop :=
 W.ownsRow s 3 1 (.slice (some ⟨s + 1, 0, none⟩) zs.length zs.length) zs.length ((fld d pre).1.map encZ) ∧ Boxed W s 3 (.int .i64 d) ∧ Boxed W (s + 2) 78 (.slice (some ⟨s + 1, 0, none⟩) zs.length zs.length) ∧ Boxed W (s + 3) 3 (.int .i64 (fld d pre).2)
theorem owns_own {β : Type} (base e size : Nat) (v : β → Value) (n : β → Nat) (xs : β → List Value) : Own (fun (s : β) W => W.ownsRow base e size (v s) (n s) (xs s)) := fun s A B row h2 hg hr => by
 cases row with
 | none =>
  refine h2.kept hg ?_
  cases hv : (v s).ownBlock with
  | none => exact .inl rfl
  | some k => exact .inr (by simp)
 | some r =>
  obtain ⟨o, ho, hc⟩ := hr r rfl
  exact h2.kept hg (ownsRow_ne_a h2 ho (fun cur e => by rw [e] at hc; cases hc))
theorem ShI.own (w : World) (s : Nat) (d : Int) {zs : List Int} : Own (ShI w s d (zs := zs)) := fun pre A B row h hg hr =>
 ⟨owns_own s 3 1 (fun _ => _) (fun _ => _) (fun (pre : List (BkT zs)) => (fld d pre).1.map encZ) pre A B row h.1 hg hr, boxed_own _ _ (fun _ => _) pre A B row h.2.1 hg hr, boxed_own _ _ (fun _ => _) pre A B row h.2.2.1 hg hr, boxed_own _ _ (fun (pre : List (BkT zs)) => .int .i64 (fld d pre).2) pre A B row h.2.2.2 hg hr⟩
theorem makeIn {F : Fence} {n : Nat} (w : World) {ops : Array Oper} {rest : List Oper} {o : Oper} {a : Act} {Q : Exit → Act → World → Prop}
  (hg : o.guard = none) (l c : Operand) (hop : o.op = Op.makeSlice 78 l c) (m : Nat) (hl : a.eval l = .int .i64 m) (hc : a.eval c = .int .i64 m) (hm : m ≤ 17592186044416)
  (hK : wpListIn F n Tryz.prog ops Q rest (a.put o.dst (.slice (some ⟨w.heap.size, 0, none⟩) m m)) (w.alloc (.cells (madeCells #[.int .i64 0] m) 3))) :
  wpListIn F n Tryz.prog ops Q (o :: rest) a w := by
 refine wpListIn_plain hg fun K hK' => ?_
 have hrun := run_make_row' (P := Tryz.prog) 78 3 (.int .i64 0) 8 Tryz.underlying78 (by kernel_rfl) rfl .i64 .i64 m (by omega) (by omega) w
 unfold Oper.wpIn
 refine ⟨?_, ?_⟩
 ·simp [Oper.about, hop]
 rw [Oper.semAt_plain F _ _ (by rw [hop]; intro c hc'; cases hc')]
 simp [execOp, hop, hl, hc, hrun, Result.andThen]
 exact hK' _ _ hK
theorem short_in (n : Nat) (hn : 3 ≤ n) (A0 : Option Addr) (c0 : Nat) (l0 : List Int) (d : Int) (k : Nat) (t : List Int) (w : World)
  (hr0 : Kd.C (Kd.int .i64) w A0 l0.length l0) (hd0 : 0 < d) (hd1 : d < 1000000000) (hz : Sv.Digs Sv.LB l0) (hlen : l0.length ≤ 17592186044416)
  (ht : PA.bItrim.f k (fld d (bk l0 l0.length)).1 = some t) :
  CallsIn Fence.wide n Tryz.prog 106 #[.slice A0 l0.length c0, .int .i64 d] w fun e w' => ∃ v0_ : Value, e = .returned (.tuple #[v0_, .int .i64 (fld d (bk l0 l0.length)).2]) ∧ Kd.R (Kd.int .i64) 3 w' w.heap.size (fun _ => True) v0_ t ∧ Below w.heap.size w w' := by
 have hf128 : Fence.wide.fn 97 := trivial
 have hf147 : Fence.wide.fn 107 := trivial
 have h1' : 1 ≤ n := by omega
 refine callsIn_of_wp_marks Tryz.func106 rfl trivial ?_ rfl
 simp only [Tryz.ntmps106, List.size_toArray, List.length_cons, List.length_nil, Nat.reduceAdd, Nat.reduceSub, Array.replicate_succ, Array.replicate_zero, List.push_toArray, List.append_toArray, List.nil_append, List.cons_append]
 gi_wp2_with (first | (gi_at_make; refine makeIn _ rfl _ _ rfl l0.length rfl rfl hlen ?_) | (gi_at_call 97; refine (back_in Fence.wide (n - 1) hf128 rfl _ _ _ _).mono ?_; rintro e w' ⟨rfl, rfl⟩) | gi_in)
 obtain ⟨s, hs⟩ : ∃ s, w.heap.size = s := ⟨_, rfl⟩
 simp only [hs]
 obtain ⟨W0, hW0⟩ : ∃ W0, (((((w.alloc (.cells #[.int .i64 d] 3)).alloc (.cells (madeCells #[.int .i64 0] l0.length) 3)).alloc (.cells #[.slice (some ⟨s + 1, 0, none⟩) l0.length l0.length] 78)).alloc (.cells #[.int .i64 0] 3)).alloc (.cells #[.slice A0 l0.length c0] 78)) = W0 := ⟨_, rfl⟩
 have hB0 : Below s w W0 := by
  rw [← hW0]
  refine ((((((Below.refl _ w).alloc ?_ _).alloc ?_ _).alloc ?_ _).alloc ?_ _).alloc ?_ _) <;> first | omega | (simp; omega)
 have hs0 : W0.heap.size = s + 5 := by rw [← hW0]; simp [hs]
 have e1 : (w.alloc (.cells #[.int .i64 d] 3)).heap.size = s + 1 := by simp [hs]
 have e2 : ((w.alloc (.cells #[.int .i64 d] 3)).alloc (.cells (madeCells #[.int .i64 0] l0.length) 3)).heap.size = s + 2 := by simp [hs]
 have e3 : (((w.alloc (.cells #[.int .i64 d] 3)).alloc (.cells (madeCells #[.int .i64 0] l0.length) 3)).alloc (.cells #[.slice (some ⟨s + 1, 0, none⟩) l0.length l0.length] 78)).heap.size = s + 3 := by simp [hs]
 have e4 : ((((w.alloc (.cells #[.int .i64 d] 3)).alloc (.cells (madeCells #[.int .i64 0] l0.length) 3)).alloc (.cells #[.slice (some ⟨s + 1, 0, none⟩) l0.length l0.length] 78)).alloc (.cells #[.int .i64 0] 3)).heap.size = s + 4 := by simp [hs]
 have hI0 : ShI w s d ([] : List (BkT l0)) W0 := by
  rw [← hW0]
  refine ⟨?_, ?_, ?_, ?_⟩
  ·refine World.ownsRow.alloc (World.ownsRow.alloc (World.ownsRow.alloc ?_ _) _) _
   have h := World.ownsRow_lit (base := s) (e := 3) (size := 1) (w.alloc (.cells #[.int .i64 d] 3)) (madeCells #[.int .i64 0] l0.length) l0.length (by rw [e1]; omega) (by simp only [maxLen]; omega) (by simp [madeCells])
   rw [e1] at h
   have hm : (madeCells #[.int .i64 0] l0.length).toList = (fld d ([] : List (BkT l0))).1.map encZ := by
    apply List.ext_getElem
    ·simp [fld, madeCells]
    intro i h1 h2
    simp [fld, madeCells, Nat.mod_one]
   rw [← hm]
   exact h
  ·have := ((((Boxed.new w 3 (.int .i64 d)).alloc (.cells (madeCells #[.int .i64 0] l0.length) 3)).alloc (.cells #[.slice (some ⟨s + 1, 0, none⟩) l0.length l0.length] 78)).alloc (.cells #[.int .i64 0] 3)).alloc (.cells #[.slice A0 l0.length c0] 78)
   rw [hs] at this
   exact this
  ·have := ((Boxed.new ((w.alloc (.cells #[.int .i64 d] 3)).alloc (.cells (madeCells #[.int .i64 0] l0.length) 3)) 78 (.slice (some ⟨s + 1, 0, none⟩) l0.length l0.length)).alloc (.cells #[.int .i64 0] 3)).alloc (.cells #[.slice A0 l0.length c0] 78)
   rw [e2] at this
   exact this
  have := (Boxed.new (((w.alloc (.cells #[.int .i64 d] 3)).alloc (.cells (madeCells #[.int .i64 0] l0.length) 3)).alloc (.cells #[.slice (some ⟨s + 1, 0, none⟩) l0.length l0.length] 78)) 3 (.int .i64 0)).alloc (.cells #[.slice A0 l0.length c0] 78)
  rw [e3] at this
  exact this
 have hbx : Boxed W0 (s + 4) 78 (.slice A0 l0.length c0) := by
  have := Boxed.new ((((w.alloc (.cells #[.int .i64 d] 3)).alloc (.cells (madeCells #[.int .i64 0] l0.length) 3)).alloc (.cells #[.slice (some ⟨s + 1, 0, none⟩) l0.length l0.length] 78)).alloc (.cells #[.int .i64 0] 3)) 78 (.slice A0 l0.length c0)
  rw [e4, hW0] at this
  exact this
 rw [hW0]
 clear hW0 e1 e2 e3 e4
 have mixed : Tryz.prog.follows .mixedOrders = true := by kernel_rfl
 refine wpIn_rangeFunc_ownF rfl h1' (gf := 132) (lb := #[.pointer (some ⟨s + 1 + 1 + 1 + 1, 0, none⟩)]) rfl trivial (enters_of Tryz.func132 (by kernel_rfl) rfl)
  (back_stops Fence.wide (n - 1) trivial rfl (by omega) (s + 4) s A0 c0 l0 (by omega) W0 hbx (by omega) (fun W' hb => Kd.C_below hr0 (by rw [hs]; exact hB0.trans hb))) kb_t (kb_b (by omega) (by omega)) (Below.refl _ _) (fun _ => rfl)
  (fun pre W => ShI w s d pre W ∧ Below s w W) (fun c pre W => False)
  (OwnFrom.and (Own.from (ShI.own w s d) _) (ownFrom_below (by omega) (by omega)))
  (fun c s A B row hs hg hr => hs) ⟨hI0, hB0⟩
  ?act1 ?assign ?body ?done ?stop
 case assign =>
  intro l x W K hK
  simp only [enc2]
  gi_wp2
  exact hK
 case body =>
  rintro l pre x W ⟨⟨hrow, hbd, hbs, hbr⟩, hB⟩ _
  have hfr := fld_range hd0 hz pre
  have hfl := fld_length d pre
  have hv := rd_range (by decide) hz x.1.1
  rw [← x.2.2.2] at hv
  have hx0 := x.2.1
  have hx1 := x.2.2.1
  have hsn := fld_snoc d pre x
  obtain ⟨⟨i, v⟩, hx⟩ := x
  simp only [stp] at hv hx0 hx1 hsn
  obtain ⟨r, hr⟩ : ∃ r, (fld d pre).2 = r := ⟨_, rfl⟩
  obtain ⟨o, ho⟩ : ∃ o, (fld d pre).1 = o := ⟨_, rfl⟩
  rw [hr] at hfr hsn hbr
  rw [ho] at hrow hfl hsn
  have hLB : Sv.LB = 1000000000 := rfl
  rw [hLB] at hv
  have hcd := hbd.cell
  have hcs := hbs.cell
  have hcr := hbr.cell
  have hfr' := hbr.frozen
  have hci : W.cell? ⟨s + 1, i.toNat, none⟩ = some (.int .i64 (rd o i)) := by
   rw [hrow.cellAt i.toNat (by omega), List.getElem?_map]
   have hil : i.toNat < o.length := by omega
   simp [rd, List.getElem?_eq_getElem hil, List.getD_eq_getElem?_getD]
  have hcf := hrow.frozenAt i.toNat
  have hv0 := hv.1
  have hv1 := hv.2
  have hr0' := hfr.1
  have hr1' : r < 1000000000 := by omega
  have hdne : d ≠ 0 := by omega
  have HX := Lib.hid hsn
  have HF := Lib.hid hfl
  have HR := Lib.hid hr
  have HO := Lib.hid ho
  clear hsn hfl hr ho hfr hv hLB
  gi_wp2
  obtain ⟨z, hz'⟩ : ∃ z, r * 1000000000 + v = z := ⟨_, rfl⟩
  rw [hz']
  obtain ⟨W1, hW1⟩ : ∃ W1, W.setCell ⟨s + 3, 0, none⟩ (.int .i64 z) = W1 := ⟨_, rfl⟩
  simp only [hW1]
  have hz0 : 0 ≤ z := by omega
  have hz1 : z < 1000000000000000000 := by omega
  have hrow1 : W1.ownsRow s 3 1 (.slice (some ⟨s + 1, 0, none⟩) l0.length l0.length) l0.length (o.map encZ) := by
   rw [← hW1]; exact hrow.kept (grownBy_setCell0_a W (s + 3) (.int .i64 z)) (.inr (by simp [Value.ownBlock]))
  have hbd1 : Boxed W1 s 3 (.int .i64 d) := by rw [← hW1]; exact hbd.kept (grownBy_setCell0_a W (s + 3) (.int .i64 z)) (by simp)
  have hbs1 : Boxed W1 (s + 2) 78 (.slice (some ⟨s + 1, 0, none⟩) l0.length l0.length) := by rw [← hW1]; exact hbs.kept (grownBy_setCell0_a W (s + 3) (.int .i64 z)) (by simp)
  have hcd1 := hbd1.cell
  have hcs1 := hbs1.cell
  have hko : KeepsOthers W W1 := by rw [← hW1]; exact KeepsOthers.setCell _ _ _
  have hkb : KB s (s + 4) W W1 := by rw [← hW1]; exact (KB.refl _ _ W).setCell (p := ⟨s + 3, 0, none⟩) (by simp) (by simp) _
  have hbB : Below s w W1 := hB.trans hkb.1
  have hbr1 : Boxed W1 (s + 3) 3 (.int .i64 z) := by rw [← hW1]; exact hbr.set _
  have hcr1 := hbr1.cell
  have hfr1 := hbr1.frozen
  have hci1 : W1.cell? ⟨s + 1, i.toNat, none⟩ = some (.int .i64 (rd o i)) := by
   have hil : i.toNat < o.length := by have := HF.out; omega
   rw [hrow1.cellAt i.toNat (by have := HF.out; omega), List.getElem?_map]
   simp [rd, List.getElem?_eq_getElem hil, List.getD_eq_getElem?_getD]
  have hcf1 := hrow1.frozenAt i.toNat
  clear hcd hcs hcr hfr' hci hcf hrow hbd hbs hbr
  trace_state
  have hlo : ¬ LetsOut (Exit.inBlock 1 (ownPostK (KB s (s + 4)) (fun pre W => ShI w s d pre W ∧ Below s w W) (fun c pre W => False) (pre ++ [⟨(i, v), hx⟩]) W)) := by
   rintro ⟨_, _, h⟩
   exact h
  refine wpIn_region_heldP (S := fun w' => w'.cell? ⟨s, 0, none⟩ = some (.int .i64 d) ∧ w'.cell? ⟨s + 2, 0, none⟩ = some (.slice (some ⟨s + 1, 0, none⟩) l0.length l0.length) ∧ w'.cell? ⟨s + 3, 0, none⟩ = some (.int .i64 z)) 10 mixed (by kernel_rfl) hlo ?_
  have hq0 : 0 ≤ Int.tdiv z d := Int.tdiv_nonneg hz0 (by omega)
  have hq1 : Int.tdiv z d ≤ z := Int.tdiv_le_self _ hz0
  have hm0 : 0 ≤ Int.tmod z d := Int.tmod_nonneg _ hz0
  have hm1 : Int.tmod z d < d := Int.tmod_lt_of_pos _ hd0
  have hwq : IntKind.i64.wrap (Int.tdiv z d) = Int.tdiv z d := by rw [IntKind.wrap_i64]; omega
  have hwm : IntKind.i64.wrap (Int.tmod z d) = Int.tmod z d := by rw [IntKind.wrap_i64]; omega
  have hHeld : W1.drew.cell? ⟨s, 0, none⟩ = some (.int .i64 d) ∧ W1.drew.cell? ⟨s + 2, 0, none⟩ = some (.slice (some ⟨s + 1, 0, none⟩) l0.length l0.length) ∧ W1.drew.cell? ⟨s + 3, 0, none⟩ = some (.int .i64 z) := ⟨hcd1, hcs1, hcr1⟩
  refine wpAnyS_take (i := 0) (v := .slice (some ⟨s + 1, 0, none⟩) l0.length l0.length) rfl (by kernel_rfl) (by kernel_rfl) (by kernel_rfl) (by kernel_rfl) (by kernel_rfl) (fun _ _ _ h => h) (.inl ⟨by rfl, fun w hSw => by obtain ⟨s1, s2, s3⟩ := hSw; go_simp; all_goals first | with_reducible rfl | (rw [hwq]; done) | (rw [hwm]; done)⟩) hHeld ?_
  (try simp only [Act.put, List.setIfInBounds_toArray, List.set_cons_zero, List.set_cons_succ])
  refine wpAnyS_take (i := 1) (v := .int .i64 i) rfl (by kernel_rfl) (by kernel_rfl) (by kernel_rfl) (by kernel_rfl) (by kernel_rfl) (fun _ _ _ h => h) (.inl ⟨by rfl, fun w hSw => by obtain ⟨s1, s2, s3⟩ := hSw; go_simp; all_goals first | with_reducible rfl | (rw [hwq]; done) | (rw [hwm]; done)⟩) hHeld ?_
  (try simp only [Act.put, List.setIfInBounds_toArray, List.set_cons_zero, List.set_cons_succ])
  refine wpAnyS_take (i := 2) (v := .int .i64 z) rfl (by kernel_rfl) (by kernel_rfl) (by kernel_rfl) (by kernel_rfl) (by kernel_rfl) (fun _ _ _ h => h) (.inl ⟨by rfl, fun w hSw => by obtain ⟨s1, s2, s3⟩ := hSw; go_simp; all_goals first | with_reducible rfl | (rw [hwq]; done) | (rw [hwm]; done)⟩) hHeld ?_
  (try simp only [Act.put, List.setIfInBounds_toArray, List.set_cons_zero, List.set_cons_succ])
  refine wpAnyS_take (i := 3) (v := .int .i64 d) rfl (by kernel_rfl) (by kernel_rfl) (by kernel_rfl) (by kernel_rfl) (by kernel_rfl) (fun _ _ _ h => h) (.inl ⟨by rfl, fun w hSw => by obtain ⟨s1, s2, s3⟩ := hSw; go_simp; all_goals first | with_reducible rfl | (rw [hwq]; done) | (rw [hwm]; done)⟩) hHeld ?_
  (try simp only [Act.put, List.setIfInBounds_toArray, List.set_cons_zero, List.set_cons_succ])
  refine wpAnyS_take (i := 5) (v := .int .i64 z) rfl (by kernel_rfl) (by kernel_rfl) (by kernel_rfl) (by kernel_rfl) (by kernel_rfl) (fun _ _ _ h => h) (.inl ⟨by rfl, fun w hSw => by obtain ⟨s1, s2, s3⟩ := hSw; go_simp; all_goals first | with_reducible rfl | (rw [hwq]; done) | (rw [hwm]; done)⟩) hHeld ?_
  (try simp only [Act.put, List.setIfInBounds_toArray, List.set_cons_zero, List.set_cons_succ])
  refine wpAnyS_take (i := 6) (v := .int .i64 d) rfl (by kernel_rfl) (by kernel_rfl) (by kernel_rfl) (by kernel_rfl) (by kernel_rfl) (fun _ _ _ h => h) (.inl ⟨by rfl, fun w hSw => by obtain ⟨s1, s2, s3⟩ := hSw; go_simp; all_goals first | with_reducible rfl | (rw [hwq]; done) | (rw [hwm]; done)⟩) hHeld ?_
  (try simp only [Act.put, List.setIfInBounds_toArray, List.set_cons_zero, List.set_cons_succ])
  refine wpAnyS_take (i := 4) (v := .int .i64 (Int.tdiv z d)) rfl (by kernel_rfl) (by kernel_rfl) (by kernel_rfl) (by kernel_rfl) (by kernel_rfl) (fun _ _ _ h => h) (.inl ⟨by rfl, fun w hSw => by obtain ⟨s1, s2, s3⟩ := hSw; go_simp; all_goals first | with_reducible rfl | (rw [hwq]; done) | (rw [hwm]; done)⟩) hHeld ?_
  (try simp only [Act.put, List.setIfInBounds_toArray, List.set_cons_zero, List.set_cons_succ])
  refine wpAnyS_take (i := 7) (v := .int .i64 (Int.tmod z d)) rfl (by kernel_rfl) (by kernel_rfl) (by kernel_rfl) (by kernel_rfl) (by kernel_rfl) (fun _ _ _ h => h) (.inl ⟨by rfl, fun w hSw => by obtain ⟨s1, s2, s3⟩ := hSw; go_simp; all_goals first | with_reducible rfl | (rw [hwq]; done) | (rw [hwm]; done)⟩) hHeld ?_
  (try simp only [Act.put, List.setIfInBounds_toArray, List.set_cons_zero, List.set_cons_succ])
  refine wpAnyS_take (i := 8) (v := .pointer (some ⟨s + 1, i.toNat, none⟩)) rfl (by kernel_rfl) (by kernel_rfl) (by kernel_rfl) (by kernel_rfl) (by kernel_rfl) (fun _ _ _ h => h) (.inl ⟨by rfl, fun w hSw => by obtain ⟨s1, s2, s3⟩ := hSw; go_simp; all_goals first | with_reducible rfl | (rw [hwq]; done) | (rw [hwm]; done)⟩) hHeld ?_
  (try simp only [Act.put, List.setIfInBounds_toArray, List.set_cons_zero, List.set_cons_succ])
  have hbd1d : Boxed W1.drew s 3 (.int .i64 d) := hbd1
  have hbs1d : Boxed W1.drew (s + 2) 78 (.slice (some ⟨s + 1, 0, none⟩) l0.length l0.length) := hbs1
  have hbr1d : Boxed W1.drew (s + 3) 3 (.int .i64 z) := hbr1
  have hst := (hrow1.kept (w' := W1.drew) (row := none) ⟨rfl, rfl, rfl, Nat.le_refl _, fun _ _ _ => rfl⟩ (.inr (by simp [Value.ownBlock]))).stored i.toNat (.int .i64 (Int.tdiv z d))
  refine wpAnyS_store (i := 9) (w1 := W1.drew.setCell ⟨s + 1, i.toNat, none⟩ (.int .i64 (Int.tdiv z d))) (by kernel_rfl) rfl (by rfl) (by go_simp) (fun _ => ?_) ?_
  ·exact ⟨(hbd1d.kept hst.2 (by simp)).cell, (hbs1d.kept hst.2 (by simp)).cell, (hbr1d.kept hst.2 (by simp)).cell⟩
  (try simp only [Act.put, List.setIfInBounds_toArray, List.set_cons_zero, List.set_cons_succ])
  refine wpAnyS_store (i := 10) (w1 := (W1.drew.setCell ⟨s + 1, i.toNat, none⟩ (.int .i64 (Int.tdiv z d))).setCell ⟨s + 3, 0, none⟩ (.int .i64 (Int.tmod z d))) (by kernel_rfl) rfl (by rfl) (by go_simp) (fun h => by have h' : true = false := h; cases h') ?_
  refine wpAnyS_done (by kernel_rfl) ?_ _
  have hq2 : fld d (pre ++ [⟨(i, v), hx⟩]) = (o.set i.toNat (Int.tdiv z d), Int.tmod z d) := by rw [HX.out, hz']
  refine ⟨((hko.trans (KeepsOthers.drew _)).trans (KeepsOthers.setCell _ _ _)).trans (KeepsOthers.setCell _ _ _), (hkb.drew.setCell (p := ⟨s + 1, i.toNat, none⟩) (by simp) (by simp) _).setCell (p := ⟨s + 3, 0, none⟩) (by simp) (by simp) _, ⟨?_, ?_, ?_, ?_⟩, ((hbB.drew).setCell (p := ⟨s + 1, i.toNat, none⟩) (by simp) _).setCell (p := ⟨s + 3, 0, none⟩) (by simp) _⟩
  ·rw [hq2, List.map_set]
   exact hst.1.kept (grownBy_setCell0_a _ (s + 3) _) (.inr (by simp [Value.ownBlock]))
  ·exact (hbd1d.kept hst.2 (by simp)).kept (grownBy_setCell0_a _ (s + 3) _) (by simp)
  ·exact (hbs1d.kept hst.2 (by simp)).kept (grownBy_setCell0_a _ (s + 3) _) (by simp)
  rw [hq2]
  exact (hbr1d.kept hst.2 (by simp)).set _
 case done =>
  rintro D ys W hD rfl ⟨⟨hrow, hbd, hbs, hbr⟩, hB⟩ hK
  have hfl := fld_length d (bk l0 l0.length)
  obtain ⟨fo, hfo⟩ : ∃ fo, (fld d (bk l0 l0.length)).1 = fo := ⟨_, rfl⟩
  obtain ⟨fr, hfr⟩ : ∃ fr, (fld d (bk l0 l0.length)).2 = fr := ⟨_, rfl⟩
  rw [hfo] at hrow hfl ht
  rw [hfr] at hbr
  simp only [hfr]
  have hR : Kd.R (Kd.int .i64) 3 W.drew w.heap.size (fun k => k = s + 1) (.slice (some ⟨s + 1, 0, none⟩) l0.length l0.length) fo := by
   refine Kd.R_of_own (enc := .int .i64) ?_ (fun k hk => ?_)
   ·have := hrow.kept (w' := W.drew) (row := none) ⟨rfl, rfl, rfl, Nat.le_refl _, fun _ _ _ => rfl⟩ (.inr (by simp [Value.ownBlock]))
    rw [hfl, hs]
    exact this
   simpa [Value.ownBlock] using hk.symm
  have hBd : Below w.heap.size w W.drew := by rw [hs]; exact hB.drew
  have hbsd : Boxed W.drew (s + 2) 78 (.slice (some ⟨s + 1, 0, none⟩) l0.length l0.length) := hbs
  have hbrd : Boxed W.drew (s + 3) 3 (.int .i64 fr) := hbr
  have hKd : W.drew.heap[D]? = some (.deferred (some [])) := hK
  gi_wp2
  refine wpIn_wide.2 ?_
  go_region_held3 (fun w' => w'.cell? ⟨s + 2, 0, none⟩ = some (.slice (some ⟨s + 1, 0, none⟩) l0.length l0.length) ∧ w'.cell? ⟨s + 3, 0, none⟩ = some (.int .i64 fr)) (first | exact ⟨hbsd.cell, hbrd.cell⟩ | exact ⟨hc2.cell, hc3.cell⟩) (first | (go_at_call 107; refine (PA.bItrim.calls k (fun k_ => k_ = s + 1) _ fo t w _ hBd hR ht).mono ?_; rintro e w' ⟨v0, rfl, ho, hb, hk⟩; have hc2 : Boxed w' (s + 2) 78 (.slice (some ⟨s + 1, 0, none⟩) l0.length l0.length) := (hk.2 (s + 2) hbsd.lt (by omega)).trans hbsd; have hc3 : Boxed w' (s + 3) 3 (.int .i64 fr) := (hk.2 (s + 3) hbrd.lt (by omega)).trans hbrd))
  gi_wp2
  refine ⟨by simp, .inl ⟨_, _, rfl, run_takeDeferred (show w'.heap[D]? = some (.deferred (some [])) from (hk.2 D (Array.getElem?_eq_some_iff.1 hKd).1 (by omega)).trans hKd), ?_⟩⟩
  have hKe : w'.heap[D]? = some (.deferred (some [])) := (hk.2 D (Array.getElem?_eq_some_iff.1 hKd).1 (by omega)).trans hKd
  refine ⟨.tuple #[v0, .int .i64 fr], ?_, v0, by rw [hfr], ?_, hb.trans (by rw [hs]; exact belowK_b (w := w) (by omega) w' D _ _ (by omega) hKe rfl rfl)⟩
  ·simp [results, Tryz.f106, go_sem]
  obtain ⟨inner, ho2⟩ := Kd.R_own ho
  have hne := ownsRow_ne_a ho2 hKe (fun cur e => by cases e)
  exact Kd.R_mono (Kd.R_grown (Kd.R_tight rfl ho) (grownBy_putObj' w' D (.deferred none)) (fun k hk e => by rw [← hk] at hne; rcases hne with h | h; exact (by cases h); exact h e)) (fun _ _ => trivial)
 case stop =>
  rintro D c pre W hD hp hf hK
  exact hf.elim
theorem bIshort.calls (k : Nat) (A0 : Option Addr) (c0 : Nat) (l0 : List Int) (a1 : Int) (r1 : List Int) (r2 : Int) (w : World) (hr0 : Kd.C (Kd.int .i64) w A0 l0.length l0) (hc0 : l0.length ≤ c0) (h : bIshort.f k l0 a1 = some (r1, r2)) :
  Calls Tryz.prog 106 #[.slice A0 l0.length c0, .int .i64 a1] w fun e w' => ∃ v0_ : Value, e = .returned (.tuple #[v0_, .int .i64 r2]) ∧ Kd.R (Kd.int .i64) 3 w' w.heap.size (fun _ => True) v0_ r1 ∧ Below w.heap.size w w' := by
 unfold bIshort.f at h
 split at h
 ·rename_i hc
  obtain ⟨t, ht, h⟩ := Option.bind_eq_some_iff.mp h
  simp only [Option.some.injEq, Prod.mk.injEq] at h
  obtain ⟨rfl, rfl⟩ := h
  exact callsIn_wide.1 (short_in 3 (by omega) A0 c0 l0 a1 k t w hr0 hc.1 hc.2.1 hc.2.2.1 hc.2.2.2 ht)
 cases h
set_option linter.unusedVariables false
open Go.RowKit Go.Proofs.WWords Go.Proofs.WLast Go.Proofs.WMore
theorem add_off (g o j : Nat) : (⟨g, o, none⟩ : Addr).add j = ⟨g, o + j, none⟩ := by unfold Addr.add; split <;> simp_all
def WR (pre post : List Int) (o cF : Nat) (w : World) (base : Nat) (ok : Nat → Prop) (v : Value) (xs : List Int) : Prop :=
 (∀ k, v.ownBlock = some k → ok k) ∧ pre.length = o ∧ ∃ g cap, v = .slice (some ⟨g, o, none⟩) xs.length cap ∧ xs.length ≤ cap ∧ Kd.R (Kd.int .i64) 3 w base (fun k => k = g) (.slice (some ⟨g, 0, none⟩) (pre ++ xs ++ post).length cF) (pre ++ xs ++ post)
section
variable {pre post xs : List Int} {o cF base n c g cap : Nat} {w w' w1 W : World} {ok ok' ok1 : Nat → Prop} {v : Value} {A : Option Addr}
theorem WR_mono (h : WR pre post o cF w base ok v xs) (hok : ∀ k, ok k → ok' k) : WR pre post o cF w base ok' v xs := ⟨fun k hk => hok k (h.1 k hk), h.2⟩
theorem WR_below (h : WR pre post o cF w base ok v xs) (hb : Below w.heap.size w w1) : WR pre post o cF w1 base ok v xs := by
 obtain ⟨h0, ho, g, cap, hv, hl, hr⟩ := h
 exact ⟨h0, ho, g, cap, hv, hl, Kd.R_below hr hb⟩
theorem WR_alloc (h : WR pre post o cF w base ok v xs) (b : Obj) : WR pre post o cF (w.alloc b) base ok v xs := WR_below h (below_alloc (Below.refl _ _) b)
theorem WR_drew (h : WR pre post o cF w base ok v xs) : WR pre post o cF w.drew base ok v xs := WR_below h (below_drew (Below.refl _ _))
theorem WR_drewN (h : WR pre post o cF w base ok v xs) (m : Nat) : WR pre post o cF (w.drewN m) base ok v xs := WR_below h (pw_below_drewN (Below.refl _ _) m)
theorem WR_at {m : Nat} (hq : w.drewN m = w') (h : WR pre post o cF w base ok v xs) : WR pre post o cF w' base ok v xs := by subst hq; exact WR_drewN h m
theorem WR_slice (h : WR pre post o cF w base ok v xs) : ∃ A c, v = .slice A xs.length c := by
 obtain ⟨_, _, g, cap, hv, _⟩ := h
 exact ⟨_, _, hv⟩
theorem WR_tight (_ : (Kd.int .i64).E = []) (h : WR pre post o cF w base ok v xs) : WR pre post o cF w base (fun k => some k = v.ownBlock) v xs := ⟨fun _ hk => hk.symm, h.2⟩
theorem WR_reok (hE : (Kd.int .i64).E = []) (h : WR pre post o cF w base ok1 v xs) (hok : ∀ k, v.ownBlock = some k → ok k) : WR pre post o cF w base ok v xs := WR_mono (WR_tight hE h) (fun k hk => hok k hk.symm)
theorem WR_full (h : WR pre post o cF w base ok (.slice (some ⟨g, o, none⟩) n cap) xs) : n = xs.length ∧ n ≤ cap ∧ pre.length = o ∧ ok g ∧ Kd.R (Kd.int .i64) 3 w base (fun k => k = g) (.slice (some ⟨g, 0, none⟩) (pre ++ xs ++ post).length cF) (pre ++ xs ++ post) := by
 obtain ⟨h0, ho, g', cap', hv, hl, hr⟩ := h
 simp only [Value.slice.injEq, Option.some.injEq, Addr.mk.injEq, and_true] at hv
 obtain ⟨rfl, rfl, rfl⟩ := hv
 exact ⟨rfl, hl, ho, h0 _ (by simp [Value.ownBlock]), hr⟩
theorem WR_form (h : WR pre post o cF w base ok v xs) (hp : 0 < xs.length) : ∃ g cap, v = .slice (some ⟨g, o, none⟩) xs.length cap ∧ base ≤ g ∧ g < w.heap.size ∧ ∃ cells, w.heap[g]? = some (.cells cells 3 (0, 0)) := by
 obtain ⟨h0, ho, g, cap, hv, hl, hr⟩ := h
 obtain ⟨g', cap', he, hb, hlt, hc⟩ := Kd.R_form hr (by simp; omega)
 simp only [Value.slice.injEq, Option.some.injEq, Addr.mk.injEq, and_true, true_and] at he
 obtain ⟨rfl, rfl⟩ := he
 exact ⟨g, cap, hv, hb, hlt, hc⟩
theorem WR_slice2 (h : WR pre post o cF w base ok v xs) : ∃ g c, v = .slice (some ⟨g, o, none⟩) xs.length c := by
 obtain ⟨_, _, g, cap, hv, _⟩ := h
 exact ⟨_, _, hv⟩
theorem WR_form2 (h : WR pre post o cF w base ok (.slice (some ⟨g, o, none⟩) n c) xs) (hp : 0 < xs.length) : base ≤ g ∧ g < w.heap.size ∧ ∃ cells, w.heap[g]? = some (.cells cells 3 (0, 0)) := by
 obtain ⟨g', cap', he, h1, h2, h3⟩ := WR_form h hp
 simp only [Value.slice.injEq, Option.some.injEq, Addr.mk.injEq, and_true] at he
 obtain ⟨rfl, _, _⟩ := he
 exact ⟨h1, h2, h3⟩
theorem WR_celln (d : Int) (h : WR pre post o cF W base ok (.slice (some ⟨g, o, none⟩) n cap) xs) (i : Int) (h0 : 0 ≤ i) (hi : i < n) : W.cell? ⟨g, o + i.toNat, none⟩ = some (.int .i64 (rdOf d xs i)) ∧ W.frozen? ⟨g, o + i.toNat, none⟩ = false := by
 obtain ⟨rfl, _, ho, _, hr⟩ := WR_full h
 have hk := Kd.R_celln d hr ((o + i.toNat : Nat) : Int) (by omega) (by simp; omega)
 rw [Int.toNat_natCast] at hk
 refine ⟨?_, hk.2⟩
 rw [hk.1]
 congr 2
 unfold rdOf
 rw [Int.toNat_natCast, List.append_assoc, List.getD_eq_getElem?_getD, List.getD_eq_getElem?_getD, List.getElem?_append_right (by omega), ho, Nat.add_sub_cancel_left, List.getElem?_append_left (by omega)]
theorem WR_reads' (h : WR pre post o cF w base ok (.slice A n c) xs) : n = xs.length ∧ n ≤ c ∧ Kd.C (Kd.int .i64) w A xs.length xs := by
 obtain ⟨A', c', hA⟩ := WR_slice h
 obtain ⟨h0, ho, g, cap, hv, hl, hr⟩ := h
 simp only [Value.slice.injEq] at hv
 obtain ⟨rfl, rfl, rfl⟩ := hv
 have hmax := Kd.C_max (Kd.R_reads' hr).2.2
 refine ⟨rfl, hl, Kd.C_of_reads (d := (0 : Int)) ⟨rfl, by simp at hmax; omega, fun _ => ⟨_, rfl, fun j hj => ?_⟩⟩⟩
 have hk := (WR_celln (ok := fun _ => True) 0 ⟨fun _ _ => trivial, ho, g, _, rfl, hl, hr⟩ (j : Int) (by omega) (by omega)).1
 simp only [Int.toNat_natCast, rdOf] at hk
 rw [add_off]
 exact hk
theorem WR_putg (h : WR pre post o cF W base ok (.slice (some ⟨g, o, none⟩) n cap) xs) (i : Int) (hi : i.toNat < xs.length) (x : Int) : WR pre post o cF (W.setCell ⟨g, o + i.toNat, none⟩ (.int .i64 x)) base ok (.slice (some ⟨g, o, none⟩) n cap) (xs.set i.toNat x) ∧ W.grownBy (W.setCell ⟨g, o + i.toNat, none⟩ (.int .i64 x)) (some g) := by
 obtain ⟨hn, hl, ho, hok, hr⟩ := WR_full h
 have hk := Kd.R_putg hr ((o + i.toNat : Nat) : Int) x
 rw [Int.toNat_natCast] at hk
 have e : (pre ++ xs ++ post).set (o + i.toNat) x = pre ++ xs.set i.toNat x ++ post := by
  rw [List.append_assoc, List.set_append_right _ _ (by omega), ho, Nat.add_sub_cancel_left, List.set_append_left _ _ (by omega), List.append_assoc]
 rw [e] at hk
 refine ⟨⟨h.1, ho, g, cap, by rw [List.length_set, hn], by rw [List.length_set]; omega, ?_⟩, hk.2⟩
 have e2 : (pre ++ xs.set i.toNat x ++ post).length = (pre ++ xs ++ post).length := by simp
 rw [e2]
 exact hk.1
end
end Go.Proofs.YtinpcbjjnlpblaaGreatDoor
