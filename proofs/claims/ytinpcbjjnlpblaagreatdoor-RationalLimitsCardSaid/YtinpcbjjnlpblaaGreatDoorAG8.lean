import Derived.Test.YtinpcbjjnlpblaaGreatDoorAG1
import Derived.Test.YtinpcbjjnlpblaaGreatDoorAD
import Derived.Test.YtinpcbjjnlpblaaGreatDoorAG2
import Derived.Test.YtinpcbjjnlpblaaGreatDoorAG3
import Derived.Test.YtinpcbjjnlpblaaGreatDoorAG6
import Derived.Test.YtinpcbjjnlpblaaGreatDoorAG4
import Derived.Test.YtinpcbjjnlpblaaGreatDoorAG7
set_option maxHeartbeats 8000000
set_option maxRecDepth 100000
set_option linter.unusedVariables false
namespace Go.Proofs.YtinpcbjjnlpblaaGreatDoor.PA
set_option linter.unusedVariables false
open Go.RowKit Go.Proofs.WWords Go.Proofs.WLast Go.Proofs.WMore
attribute [local go_sem] max2_int min2_int max_two min_two max_three min_three max_four min_four
set_option linter.unusedSimpArgs false
def bIquotient.T3 : Bool × List (List Nat × List Nat) := (true, [([], []), ([0], [0]), ([], []), ([2], [2]), ([], []), ([3, 4], [3, 4]), ([1, 0, 1], [1]), ([5, 6, 0, 1, 2, 3, 4, 5, 6], [5])])
def bIquotient.B3 : List Nat := [0, 1, 0, 4, 0, 28, 3, 127]
theorem bIquotient.tab3 : rtab .any (opsOf Tryz.f58 3) = bIquotient.T3 := by kernel_rfl
theorem bIquotient.bits3 : waitsOk bIquotient.T3.2 bIquotient.B3 = true := by kernel_rfl
def bIquotient.T5 : Bool × List (List Nat × List Nat) := (true, [([], []), ([], []), ([0, 1], [0, 1]), ([], []), ([3], [3]), ([], []), ([4, 5, 2], [4, 5]), ([2, 6, 0, 1, 2], [0, 2]), ([6, 7, 0, 1, 2, 3, 4, 5, 6, 7], [5, 6])])
def bIquotient.B5 : List Nat := [0, 0, 3, 0, 8, 0, 63, 127, 255]
theorem bIquotient.tab5 : rtab .any (opsOf Tryz.f58 5) = bIquotient.T5 := by kernel_rfl
theorem bIquotient.bits5 : waitsOk bIquotient.T5.2 bIquotient.B5 = true := by kernel_rfl
def bIquotient.T6 : Bool × List (List Nat × List Nat) := (true, [([], []), ([0], [0]), ([], []), ([2], [2]), ([], []), ([3, 4], [3, 4]), ([1, 0, 1], [1]), ([5, 6, 0, 1, 2, 3, 4, 5, 6], [5])])
def bIquotient.B6 : List Nat := [0, 1, 0, 4, 0, 28, 3, 127]
theorem bIquotient.tab6 : rtab .any (opsOf Tryz.f58 6) = bIquotient.T6 := by kernel_rfl
theorem bIquotient.bits6 : waitsOk bIquotient.T6.2 bIquotient.B6 = true := by kernel_rfl
theorem bIquotient.calls (k : Nat) (a0_0 : Bool) (P0_1_ : Nat → Prop) (u9000_ : Value) (l0_1 : List Int) (a1_0 : Bool) (A1_1 : Option Addr) (c1_1 : Nat) (l1_1 : List Int) (r1 : Bool) (r2 : List Int) (r3 : Bool) (r4 : List Int) (w0 w : World) (hB : Below w0.heap.size w0 w) (ho0_1 : Kd.R (Kd.int .i64) 3 w w0.heap.size P0_1_ u9000_ l0_1) (hr1_1 : ∀ W_, Kept w W_ (fun k_ => P0_1_ k_) → Kd.C (Kd.int .i64) W_ A1_1 l1_1.length l1_1) (hc1_1 : l1_1.length ≤ c1_1) (h : bIquotient.f k a0_0 l0_1 a1_0 l1_1 = some (r1, r2, r3, r4)) :
  Calls Tryz.prog 58 #[.agg #[.bool a0_0, u9000_], .agg #[.bool a1_0, .slice A1_1 l1_1.length c1_1]] w fun e w' => ∃ v1_ v3_ : Value, e = .returned (.tuple #[.agg #[.bool r1, v1_], .agg #[.bool r3, v3_]]) ∧ Kd.R (Kd.int .i64) 3 w' w0.heap.size (fun k_ => (P0_1_ k_ ∨ w.heap.size ≤ k_) ∧ some k_ ≠ (v3_ : Value).ownBlock) v1_ r2 ∧ Kd.R (Kd.int .i64) 3 w' w0.heap.size (fun k_ => (P0_1_ k_ ∨ w.heap.size ≤ k_) ∧ some k_ ≠ (v1_ : Value).ownBlock) v3_ r4 ∧ Below w0.heap.size w0 w' ∧ Kept w w' (fun k_ => P0_1_ k_) := by
 have hu88 := Tryz.underlying80
 have HO0_1 := Z0.mk (show Kd.R (Kd.int .i64) 3 w w0.heap.size (fun k_ => (P0_1_ k_ ∨ w.heap.size ≤ k_)) u9000_ l0_1 from Kd.R_mono ho0_1 (fun k_ hk => (.inl hk)))
 have HR1_1 := Z0.mk hr1_1
 have HC1_1 := Z0.mk hc1_1
 clear hr1_1 hc1_1
 have HK := Z0.mk (Kept.refl w (fun k_ => P0_1_ k_))
 have HW0 := Z0.mk hB.size
 have HB := Z0.mk hB
 clear hB
 have H := h
 clear h
 unfold bIquotient.f at H
 obtain ⟨⟨t245, t248⟩, A3, H⟩ := bnd H
 try dsimp only at H
 rcases jn H with ⟨c4, H⟩ | ⟨c4, H⟩
 ·have c4b0 : (a0_0 == a1_0) = true := c4
  (try (have c4b1 : decide (a0_0 = a1_0) = true := by simpa using c4))
  (try (have c4b2 : (a0_0 == a1_0) = true := by simpa using c4))
  clear c4
  simp only [Option.some.injEq, Prod.mk.injEq] at H
  obtain ⟨rfl, rfl, rfl, rfl⟩ := H
  obtain ⟨Ao5, co5, eo5⟩ := Kd.R_slice HO0_1.out
  subst eo5
  go_enter Tryz.func58, Tryz.ntmps58
  try go_wp2_with (first | ((with_reducible refine gd_ 2 rfl ?_); refine bxE 2 #[.bool a0_0, .slice Ao5 l0_1.length co5] 80 ?_; intro gb241 hg w6 hbox hb; have BK241 := Z0.mk hbox; have GW241 := fW HK hg; have GE241 := fE HB hg; replace HO0_1 := fR HO0_1 hb; replace HK := fK HK hb; replace HB := fB HB hb; clear hb hbox hg) | ((with_reducible refine gd_ 3 rfl ?_); refine bxE 3 #[.bool a1_0, .slice A1_1 l1_1.length c1_1] 80 ?_; intro gb242 hg w7 hbox hb; have BK242 := Z0.mk hbox; have GW242 := fW HK hg; have GE242 := fE HB hg; have NB241_242 := fl BK241 hg; have NB242_241 := fg BK241 hg; replace HO0_1 := fR HO0_1 hb; replace BK241 := fk BK241 hb; replace HK := fK HK hb; replace HB := fB HB hb; clear hb hbox hg) | ((with_reducible refine gd_ 4 rfl ?_); refine bxE 4 #[.bool false, .slice none 0 0] 80 ?_; intro gb243 hg w8 hbox hb; have BK243 := Z0.mk hbox; have GW243 := fW HK hg; have GE243 := fE HB hg; have NB241_243 := fl BK241 hg; have NB243_241 := fg BK241 hg; have NB242_243 := fl BK242 hg; have NB243_242 := fg BK242 hg; replace HO0_1 := fR HO0_1 hb; replace BK241 := fk BK241 hb; replace BK242 := fk BK242 hb; replace HK := fK HK hb; replace HB := fB HB hb; clear hb hbox hg) | ((with_reducible refine gd_ 5 rfl ?_); refine bxE 5 #[.bool false, .slice none 0 0] 80 ?_; intro gb244 hg w9 hbox hb; have BK244 := Z0.mk hbox; have GW244 := fW HK hg; have GE244 := fE HB hg; have NB241_244 := fl BK241 hg; have NB244_241 := fg BK241 hg; have NB242_244 := fl BK242 hg; have NB244_242 := fg BK242 hg; have NB243_244 := fl BK243 hg; have NB244_243 := fg BK243 hg; replace HO0_1 := fR HO0_1 hb; replace BK241 := fk BK241 hb; replace BK242 := fk BK242 hb; replace BK243 := fk BK243 hb; replace HK := fK HK hb; replace HB := fB HB hb; clear hb hbox hg; have hnb10 := NB241_242.out; have hnc10 := NB242_241.out; have hnb11 := NB241_243.out; have hnc11 := NB243_241.out; have hnb12 := NB241_244.out; have hnc12 := NB244_241.out; obtain ⟨hcz13_0, hcz13_1, hfz13_0, hfz13_1⟩ := b2 BK241; have hnb14 := NB242_243.out; have hnc14 := NB243_242.out; have hnb15 := NB242_244.out; have hnc15 := NB244_242.out; obtain ⟨hcz16_0, hcz16_1, hfz16_0, hfz16_1⟩ := b2 BK242) | ((with_reducible refine gc_ 62 rfl ?_); refine gL 13 Tryz.func62 (bIdivide.calls k (fun k_ => some k_ = (.slice Ao5 l0_1.length co5 : Value).ownBlock) (.slice Ao5 l0_1.length co5) l0_1 _ _ l1_1 t245 t248 w0 _ ?side1 ?side2 ?side3 ?side4 A3.out) ?_; (case side1 => repeat (first | (with_reducible first | exact HB.out | apply below_alloc | apply pw_below_drewN | apply below_drew1 | refine below_set ?_ GE241.out | refine below_set ?_ GE242.out | refine below_set ?_ GE243.out | refine below_set ?_ GE244.out) | exact HB.out)); (case side2 => exact Kd.R_tight rfl HO0_1.out); (case side3 => exact Kd.C_kept_call HR1_1.out kqs (fun k_ hs_ => (fun e_ => (HO0_1.out.1 k_ e_.symm)) hs_)); (case side4 => exact HC1_1.out); rintro _ w17 ⟨v246, v249, rfl, ho0, ho1, hb, hkp⟩; refine ⟨_, rfl, ?_⟩; have HO247 := Z0.mk (Kd.R_mono (ok' := fun k_ => (P0_1_ k_ ∨ w.heap.size ≤ k_) ∧ some k_ ≠ (v249 : Value).ownBlock) ho0 (fun k_ hk_ => ⟨Or.elim hk_.1 (fun hs_ => (HO0_1.out.1 k_ (hs_).symm)) (fun hn_ => (.inr (Nat.le_trans (by first | exact HK.out.1 | exact (show Kept w _ (fun k_ => P0_1_ k_) from kqs).1) hn_))), hk_.2⟩)); have HO250 := Z0.mk (Kd.R_mono (ok' := fun k_ => (P0_1_ k_ ∨ w.heap.size ≤ k_) ∧ some k_ ≠ (v246 : Value).ownBlock) ho1 (fun k_ hk_ => ⟨Or.elim hk_.1 (fun hs_ => (HO0_1.out.1 k_ (hs_).symm)) (fun hn_ => (.inr (Nat.le_trans (by first | exact HK.out.1 | exact (show Kept w _ (fun k_ => P0_1_ k_) from kqs).1) hn_))), hk_.2⟩)); replace BK241 := Z0.mk (blk_kept (hq BK241) hkp (fun hs_ => (fun e_ => (Kd.R_ne HO0_1.out BK241.out (by decide)) e_) hs_)); replace BK242 := Z0.mk (blk_kept (hq BK242) hkp (fun hs_ => (fun e_ => (Kd.R_ne HO0_1.out BK242.out (by decide)) e_) hs_)); replace BK243 := Z0.mk (blk_kept (hq BK243) hkp (fun hs_ => (fun e_ => (Kd.R_ne HO0_1.out BK243.out (by decide)) e_) hs_)); replace BK244 := Z0.mk (blk_kept (hq BK244) hkp (fun hs_ => (fun e_ => (Kd.R_ne HO0_1.out BK244.out (by decide)) e_) hs_)); replace HK := Z0.mk (Kept.then_ (S := (fun k_ => P0_1_ k_)) kqs hkp (fun k_ hs_ => (fun e_ => (HO0_1.out.1 k_ e_.symm)) hs_)); replace HB := Z0.mk (hb); clear HO0_1; clear hb hkp ho0 ho1; obtain ⟨hcz18_0, hcz18_1, hfz18_0, hfz18_1⟩ := b2 BK241; obtain ⟨hcz19_0, hcz19_1, hfz19_0, hfz19_1⟩ := b2 BK242))
  replace HO247 := Z0.mk (Kd.R_drew HO247.out)
  replace HO250 := Z0.mk (Kd.R_drew HO250.out)
  replace BK241 := Z0.mk (blk_drew BK241.out)
  replace BK242 := Z0.mk (blk_drew BK242.out)
  replace BK243 := Z0.mk (blk_drew BK243.out)
  replace BK244 := Z0.mk (blk_drew BK244.out)
  replace HK := Z0.mk (Kept.drew HK.out)
  replace HB := Z0.mk (below_drew1 HB.out)
  obtain ⟨Ao21, co21, eo21⟩ := Kd.R_slice HO247.out
  (first | subst eo21 | (injection eo21 with f1_ f2_ f3_; have f4_ := f1_.symm; have f5_ := f3_.symm; clear f1_ f2_ f3_; subst f4_; subst f5_))
  obtain ⟨Ao22, co22, eo22⟩ := Kd.R_slice HO250.out
  (first | subst eo22 | (injection eo22 with f1_ f2_ f3_; have f4_ := f1_.symm; have f5_ := f3_.symm; clear f1_ f2_ f3_; subst f4_; subst f5_))
  refine start_ (n := 8) (S := fun w' => w'.cell? ⟨gb242, 0, none⟩ = some (.bool a1_0) ∧ w'.cell? ⟨gb242, 1, none⟩ = some (.slice A1_1 l1_1.length c1_1)) (ds := []) #[false, false, false, false, false, false, false, false] (by kernel_rfl) rfl rfl ⟨(blk_cell BK242.out 0).trans rfl, (blk_cell BK242.out 1).trans rfl⟩ (fun hHeld => ?_); refine with_tabW bIquotient.tab3 bIquotient.bits3 (fun HT_ HW_ => ?_)
  generalize w17.drew = w20 at HO247 HO250 BK241 BK242 BK243 BK244 HK HB hHeld ⊢
  refine pure_ (i := 0) (N := some 21) (v := ?_) (a' := ?_) #[true, false, false, false, false, false, false, false] rfl rfl (any_of HT_.out (by kernel_rfl)) (fun _ _ _ h => h) (Or.inl ⟨by rfl, ?_⟩) ?_ ?_
  rotate_left
  ·intro w'
   go_simp
   with_reducible rfl
  rotate_left
  ·simp only [Act.put, List.setIfInBounds_toArray, List.set_cons_zero, List.set_cons_succ, i64_w, i32_w]
   rfl
  refine pure_ (i := 1) (N := some 22) (v := ?_) (a' := ?_) #[true, true, false, false, false, false, false, false] rfl rfl (any_of HT_.out (by kernel_rfl)) (fun _ _ _ h => h) (Or.inl ⟨by rfl, ?_⟩) ?_ ?_
  rotate_left
  ·intro w'
   go_simp
   with_reducible rfl
  rotate_left
  ·simp only [Act.put, List.setIfInBounds_toArray, List.set_cons_zero, List.set_cons_succ, i64_w, i32_w]
   rfl
  refine pure_ (i := 2) (N := some 23) (v := ?_) (a' := ?_) #[true, true, true, false, false, false, false, false] rfl rfl (any_of HT_.out (by kernel_rfl)) (fun _ _ _ h => h) (Or.inl ⟨by rfl, ?_⟩) ?_ ?_
  rotate_left
  ·intro w'
   go_simp
   with_reducible rfl
  rotate_left
  ·simp only [Act.put, List.setIfInBounds_toArray, List.set_cons_zero, List.set_cons_succ, i64_w, i32_w]
   rfl
  refine pure_ (i := 4) (N := some 25) (v := ?_) (a' := ?_) #[true, true, true, false, true, false, false, false] rfl rfl (any_of HT_.out (by kernel_rfl)) (fun _ _ _ h => h) (Or.inl ⟨by rfl, ?_⟩) ?_ ?_
  rotate_left
  ·intro w'
   go_simp
   with_reducible rfl
  rotate_left
  ·simp only [Act.put, List.setIfInBounds_toArray, List.set_cons_zero, List.set_cons_succ, i64_w, i32_w]
   rfl
  refine take_ (i := 3) (N := some 24) (v := ?_) (a' := ?_) #[true, true, true, true, true, false, false, false] rfl rfl (take_ofW HT_.out HW_.out (by kernel_rfl)) (fun _ _ _ h => h) (Or.inl ⟨by rfl, ?_⟩) hHeld ?_ ?_
  rotate_left
  ·rintro w' ⟨s0, s1⟩
   go_simp
   with_reducible rfl
  rotate_left
  ·simp only [Act.put, List.setIfInBounds_toArray, List.set_cons_zero, List.set_cons_succ, i64_w, i32_w]
   rfl
  refine pure_ (i := 5) (N := some 26) (v := ?_) (a' := ?_) #[true, true, true, true, true, true, false, false] rfl rfl (any_of HT_.out (by kernel_rfl)) (fun _ _ _ h => h) (Or.inl ⟨by rfl, ?_⟩) ?_ ?_
  rotate_left
  ·intro w'
   go_simp
   with_reducible rfl
  rotate_left
  ·simp only [Act.put, List.setIfInBounds_toArray, List.set_cons_zero, List.set_cons_succ, i64_w, i32_w]
   rfl
  refine one_ (i := 6) (N := none) #[true, true, true, true, true, true, true, false] rfl rfl (one_of HT_.out (by kernel_rfl)) (by decide) (fun K hK => ?_)
  have hs23 : w20.cell? ⟨gb243, 0, none⟩ = some (.bool false) := (blk_cell BK243.out 0).trans rfl
  have hfs23 := blk_frozen BK243.out 0
  have hns23_0 := NB241_243.out
  have hns23_1 := NB242_243.out
  have hns23_3 := NB244_243.out
  have hms23_0 := NB243_241.out
  have hms23_1 := NB243_242.out
  have hms23_3 := NB243_244.out
  have hs24 : w20.cell? ⟨gb243, 1, none⟩ = some (.slice none 0 0) := (blk_cell BK243.out 1).trans rfl
  have hfs24 := blk_frozen BK243.out 1
  have hns24_0 := NB241_243.out
  have hns24_1 := NB242_243.out
  have hns24_3 := NB244_243.out
  have hms24_0 := NB243_241.out
  have hms24_1 := NB243_242.out
  have hms24_3 := NB243_244.out
  refine skip_ (w1 := ?_) (by rfl) rfl ?_ ?_
  rotate_left
  ·go_simp
   rfl
  refine hK.out _ _ ⟨((cell_far (p := ⟨gb243, _, none⟩) NB242_243.out _).trans (((cell_far (p := ⟨gb243, _, none⟩) NB242_243.out _).trans (hHeld.1)))), ((cell_far (p := ⟨gb243, _, none⟩) NB242_243.out _).trans (((cell_far (p := ⟨gb243, _, none⟩) NB242_243.out _).trans (hHeld.2))))⟩ (fun hHeld => ?_)
  clear hK K
  refine one_ (i := 7) (N := none) #[true, true, true, true, true, true, true, true] rfl rfl (one_of HT_.out (by kernel_rfl)) (by decide) (fun K hK => ?_)
  have hs25 : w20.cell? ⟨gb244, 0, none⟩ = some (.bool false) := (blk_cell BK244.out 0).trans rfl
  have hfs25 := blk_frozen BK244.out 0
  have hns25_0 := NB241_244.out
  have hns25_1 := NB242_244.out
  have hns25_2 := NB243_244.out
  have hms25_0 := NB244_241.out
  have hms25_1 := NB244_242.out
  have hms25_2 := NB244_243.out
  have hs26 : w20.cell? ⟨gb244, 1, none⟩ = some (.slice none 0 0) := (blk_cell BK244.out 1).trans rfl
  have hfs26 := blk_frozen BK244.out 1
  have hns26_0 := NB241_244.out
  have hns26_1 := NB242_244.out
  have hns26_2 := NB243_244.out
  have hms26_0 := NB244_241.out
  have hms26_1 := NB244_242.out
  have hms26_2 := NB244_243.out
  refine skip_ (w1 := ?_) (by rfl) rfl ?_ ?_
  rotate_left
  ·go_simp
   rfl
  refine hK.out _ _ ⟨((cell_far (p := ⟨gb244, _, none⟩) NB242_244.out _).trans (((cell_far (p := ⟨gb244, _, none⟩) NB242_244.out _).trans (hHeld.1)))), ((cell_far (p := ⟨gb244, _, none⟩) NB242_244.out _).trans (((cell_far (p := ⟨gb244, _, none⟩) NB242_244.out _).trans (hHeld.2))))⟩ (fun hHeld => ?_)
  clear hK K
  refine done_ (done_of HT_.out (by kernel_rfl)) ?_
  try go_wp2
  refine bodyPost_ret (results_cc rfl _ _ gb243 gb244 80 80 #[.bool false, .slice Ao21 t245.length co21] #[.bool a1_0, .slice Ao22 t248.length co22] (0, 0) (0, 0) _ _ rfl (by (with_reducible repeat (first | refine blk_drewN ?_ _ | refine blk_drew ?_ | refine blk_alloc ?_ _)); refine blk_far ?_ NB243_244.out _; (with_reducible repeat (first | refine blk_drewN ?_ _ | refine blk_drew ?_ | refine blk_alloc ?_ _)); refine blk_far ?_ NB243_244.out _; (with_reducible repeat (first | refine blk_drewN ?_ _ | refine blk_drew ?_ | refine blk_alloc ?_ _)); refine blk_put (cs := #[.bool false, .slice none 0 0]) ?_ 1 _ rfl; (with_reducible repeat (first | refine blk_drewN ?_ _ | refine blk_drew ?_ | refine blk_alloc ?_ _)); refine blk_put (cs := #[.bool false, .slice none 0 0]) ?_ 0 _ rfl; (with_reducible repeat (first | refine blk_drewN ?_ _ | refine blk_drew ?_ | refine blk_alloc ?_ _)); exact BK243.out) Tryz.underlying80 rfl (by kernel_rfl) rfl (by (with_reducible repeat (first | refine blk_drewN ?_ _ | refine blk_drew ?_ | refine blk_alloc ?_ _)); refine blk_put (cs := #[.bool a1_0, .slice none 0 0]) ?_ 1 _ rfl; (with_reducible repeat (first | refine blk_drewN ?_ _ | refine blk_drew ?_ | refine blk_alloc ?_ _)); refine blk_put (cs := #[.bool false, .slice none 0 0]) ?_ 0 _ rfl; (with_reducible repeat (first | refine blk_drewN ?_ _ | refine blk_drew ?_ | refine blk_alloc ?_ _)); refine blk_far ?_ NB244_243.out _; (with_reducible repeat (first | refine blk_drewN ?_ _ | refine blk_drew ?_ | refine blk_alloc ?_ _)); refine blk_far ?_ NB244_243.out _; (with_reducible repeat (first | refine blk_drewN ?_ _ | refine blk_drew ?_ | refine blk_alloc ?_ _)); exact BK244.out) Tryz.underlying80 rfl (by kernel_rfl)) rfl ?_
  exact ⟨_, _, fe, by (with_reducible repeat (first | apply Kd.R_alloc | apply Kd.R_drewN | apply Kd.R_drew)); exact Kd.R_mono (Kd.R_far (p := ⟨gb244, 1, none⟩) (Kd.R_far (p := ⟨gb244, 0, none⟩) (Kd.R_far (p := ⟨gb243, 1, none⟩) (Kd.R_far (p := ⟨gb243, 0, none⟩) (Kd.R_types (Kd.R_types HO247.out BK243.out (by decide)) BK244.out (by decide)) (fun _ hk => hk.1.2) (.bool false)) (fun _ hk => hk.1.2) (.slice Ao21 t245.length co21)) (fun _ hk => hk.2) (.bool a1_0)) (fun _ hk => hk.2) (.slice Ao22 t248.length co22)) (fun _ hk => ⟨hk.1.1.1, hk.1.1.2⟩), by (with_reducible repeat (first | apply Kd.R_alloc | apply Kd.R_drewN | apply Kd.R_drew)); exact Kd.R_mono (Kd.R_far (p := ⟨gb244, 1, none⟩) (Kd.R_far (p := ⟨gb244, 0, none⟩) (Kd.R_far (p := ⟨gb243, 1, none⟩) (Kd.R_far (p := ⟨gb243, 0, none⟩) (Kd.R_types (Kd.R_types HO250.out BK243.out (by decide)) BK244.out (by decide)) (fun _ hk => hk.1.2) (.bool false)) (fun _ hk => hk.1.2) (.slice Ao21 t245.length co21)) (fun _ hk => hk.2) (.bool a1_0)) (fun _ hk => hk.2) (.slice Ao22 t248.length co22)) (fun _ hk => ⟨hk.1.1.1, hk.1.1.2⟩), bqs, kqs⟩
 have c4b0 : (a0_0 == a1_0) = false := by simpa using c4
 (try (have c4b1 : decide (a0_0 = a1_0) = false := by simpa using c4))
 (try (have c4b2 : (a0_0 == a1_0) = false := by simpa using c4))
 (try (have c4b3 : ¬ (a0_0 = a1_0) := by simpa using c4))
 clear c4
 rcases jg H with ⟨c27, c27b0, H⟩ | ⟨c27, c27b0, H⟩
 ·have c27b1 : decide (0 < t248.length) = true := decide_eq_true (by omega)
  clear c27
  generalize hy251 : (([1] : List Int) : List Int) = y251 at H
  have Ny251 := Z0.mk hy251.symm
  clear hy251
  obtain ⟨t254, A28, H⟩ := bnd H
  obtain ⟨t257, A29, H⟩ := bnd H
  simp only [Option.some.injEq, Prod.mk.injEq] at H
  obtain ⟨rfl, rfl, rfl, rfl⟩ := H
  obtain ⟨Ao30, co30, eo30⟩ := Kd.R_slice HO0_1.out
  subst eo30
  go_enter Tryz.func58, Tryz.ntmps58
  try go_wp2_with (first | ((with_reducible refine gd_ 2 rfl ?_); refine bxE 2 #[.bool a0_0, .slice Ao30 l0_1.length co30] 80 ?_; intro gb241 hg w31 hbox hb; have BK241 := Z0.mk hbox; have GW241 := fW HK hg; have GE241 := fE HB hg; replace HO0_1 := fR HO0_1 hb; replace HK := fK HK hb; replace HB := fB HB hb; clear hb hbox hg) | ((with_reducible refine gd_ 3 rfl ?_); refine bxE 3 #[.bool a1_0, .slice A1_1 l1_1.length c1_1] 80 ?_; intro gb242 hg w32 hbox hb; have BK242 := Z0.mk hbox; have GW242 := fW HK hg; have GE242 := fE HB hg; have NB241_242 := fl BK241 hg; have NB242_241 := fg BK241 hg; replace HO0_1 := fR HO0_1 hb; replace BK241 := fk BK241 hb; replace HK := fK HK hb; replace HB := fB HB hb; clear hb hbox hg) | ((with_reducible refine gd_ 4 rfl ?_); refine bxE 4 #[.bool false, .slice none 0 0] 80 ?_; intro gb243 hg w33 hbox hb; have BK243 := Z0.mk hbox; have GW243 := fW HK hg; have GE243 := fE HB hg; have NB241_243 := fl BK241 hg; have NB243_241 := fg BK241 hg; have NB242_243 := fl BK242 hg; have NB243_242 := fg BK242 hg; replace HO0_1 := fR HO0_1 hb; replace BK241 := fk BK241 hb; replace BK242 := fk BK242 hb; replace HK := fK HK hb; replace HB := fB HB hb; clear hb hbox hg) | ((with_reducible refine gd_ 5 rfl ?_); refine bxE 5 #[.bool false, .slice none 0 0] 80 ?_; intro gb244 hg w34 hbox hb; have BK244 := Z0.mk hbox; have GW244 := fW HK hg; have GE244 := fE HB hg; have NB241_244 := fl BK241 hg; have NB244_241 := fg BK241 hg; have NB242_244 := fl BK242 hg; have NB244_242 := fg BK242 hg; have NB243_244 := fl BK243 hg; have NB244_243 := fg BK243 hg; replace HO0_1 := fR HO0_1 hb; replace BK241 := fk BK241 hb; replace BK242 := fk BK242 hb; replace BK243 := fk BK243 hb; replace HK := fK HK hb; replace HB := fB HB hb; clear hb hbox hg; have hnb35 := NB241_242.out; have hnc35 := NB242_241.out; have hnb36 := NB241_243.out; have hnc36 := NB243_241.out; have hnb37 := NB241_244.out; have hnc37 := NB244_241.out; obtain ⟨hcz38_0, hcz38_1, hfz38_0, hfz38_1⟩ := b2 BK241; have hnb39 := NB242_243.out; have hnc39 := NB243_242.out; have hnb40 := NB242_244.out; have hnc40 := NB244_242.out; obtain ⟨hcz41_0, hcz41_1, hfz41_0, hfz41_1⟩ := b2 BK242) | ((with_reducible refine gc_ 62 rfl ?_); refine gL 13 Tryz.func62 (bIdivide.calls k (fun k_ => some k_ = (.slice Ao30 l0_1.length co30 : Value).ownBlock) (.slice Ao30 l0_1.length co30) l0_1 _ _ l1_1 t245 t248 w0 _ ?side1 ?side2 ?side3 ?side4 A3.out) ?_; (case side1 => repeat (first | (with_reducible first | exact HB.out | apply below_alloc | apply pw_below_drewN | apply below_drew1 | refine below_set ?_ GE241.out | refine below_set ?_ GE242.out | refine below_set ?_ GE243.out | refine below_set ?_ GE244.out) | exact HB.out)); (case side2 => exact Kd.R_tight rfl HO0_1.out); (case side3 => exact Kd.C_kept_call HR1_1.out kqs (fun k_ hs_ => (fun e_ => (HO0_1.out.1 k_ e_.symm)) hs_)); (case side4 => exact HC1_1.out); rintro _ w42 ⟨v246, v249, rfl, ho0, ho1, hb, hkp⟩; refine ⟨_, rfl, ?_⟩; have HO247 := Z0.mk (Kd.R_mono (ok' := fun k_ => (P0_1_ k_ ∨ w.heap.size ≤ k_) ∧ some k_ ≠ (v249 : Value).ownBlock) ho0 (fun k_ hk_ => ⟨Or.elim hk_.1 (fun hs_ => (HO0_1.out.1 k_ (hs_).symm)) (fun hn_ => (.inr (Nat.le_trans (by first | exact HK.out.1 | exact (show Kept w _ (fun k_ => P0_1_ k_) from kqs).1) hn_))), hk_.2⟩)); have HO250 := Z0.mk (Kd.R_mono (ok' := fun k_ => (P0_1_ k_ ∨ w.heap.size ≤ k_) ∧ some k_ ≠ (v246 : Value).ownBlock) ho1 (fun k_ hk_ => ⟨Or.elim hk_.1 (fun hs_ => (HO0_1.out.1 k_ (hs_).symm)) (fun hn_ => (.inr (Nat.le_trans (by first | exact HK.out.1 | exact (show Kept w _ (fun k_ => P0_1_ k_) from kqs).1) hn_))), hk_.2⟩)); replace BK241 := Z0.mk (blk_kept (hq BK241) hkp (fun hs_ => (fun e_ => (Kd.R_ne HO0_1.out BK241.out (by decide)) e_) hs_)); replace BK242 := Z0.mk (blk_kept (hq BK242) hkp (fun hs_ => (fun e_ => (Kd.R_ne HO0_1.out BK242.out (by decide)) e_) hs_)); replace BK243 := Z0.mk (blk_kept (hq BK243) hkp (fun hs_ => (fun e_ => (Kd.R_ne HO0_1.out BK243.out (by decide)) e_) hs_)); replace BK244 := Z0.mk (blk_kept (hq BK244) hkp (fun hs_ => (fun e_ => (Kd.R_ne HO0_1.out BK244.out (by decide)) e_) hs_)); replace HK := Z0.mk (Kept.then_ (S := (fun k_ => P0_1_ k_)) kqs hkp (fun k_ hs_ => (fun e_ => (HO0_1.out.1 k_ e_.symm)) hs_)); replace HB := Z0.mk (hb); clear HO0_1; clear hb hkp ho0 ho1; obtain ⟨hcz43_0, hcz43_1, hfz43_0, hfz43_1⟩ := b2 BK241; obtain ⟨hcz44_0, hcz44_1, hfz44_0, hfz44_1⟩ := b2 BK242; obtain ⟨Ao45, co45, eo45⟩ := Kd.R_slice HO250.out; subst eo45))
  replace HO247 := Z0.mk (Kd.R_drew HO247.out)
  replace HO250 := Z0.mk (Kd.R_drew HO250.out)
  replace BK241 := Z0.mk (blk_drew BK241.out)
  replace BK242 := Z0.mk (blk_drew BK242.out)
  replace BK243 := Z0.mk (blk_drew BK243.out)
  replace BK244 := Z0.mk (blk_drew BK244.out)
  replace HK := Z0.mk (Kept.drew HK.out)
  replace HB := Z0.mk (below_drew1 HB.out)
  refine start_ (n := 9) (S := fun w' => w'.cell? ⟨gb242, 0, none⟩ = some (.bool a1_0) ∧ w'.cell? ⟨gb242, 1, none⟩ = some (.slice A1_1 l1_1.length c1_1)) (ds := []) #[false, false, false, false, false, false, false, false, false] (by kernel_rfl) rfl rfl ⟨(blk_cell BK242.out 0).trans rfl, (blk_cell BK242.out 1).trans rfl⟩ (fun hHeld => ?_); refine with_tabW bIquotient.tab5 bIquotient.bits5 (fun HT_ HW_ => ?_)
  generalize w42.drew = w46 at HO247 HO250 BK241 BK242 BK243 BK244 HK HB hHeld ⊢
  refine pure_ (i := 0) (N := some 30) (v := ?_) (a' := ?_) #[true, false, false, false, false, false, false, false, false] rfl rfl (any_of HT_.out (by kernel_rfl)) (fun _ _ _ h => h) (Or.inl ⟨by rfl, ?_⟩) ?_ ?_
  rotate_left
  ·intro w'
   go_simp
   with_reducible rfl
  rotate_left
  ·simp only [Act.put, List.setIfInBounds_toArray, List.set_cons_zero, List.set_cons_succ, i64_w, i32_w]
   rfl
  refine pure_ (i := 3) (N := some 33) (v := ?_) (a' := ?_) #[true, false, false, true, false, false, false, false, false] rfl rfl (any_of HT_.out (by kernel_rfl)) (fun _ _ _ h => h) (Or.inl ⟨by rfl, ?_⟩) ?_ ?_
  rotate_left
  ·intro w'
   go_simp
   with_reducible rfl
  rotate_left
  ·simp only [Act.put, List.setIfInBounds_toArray, List.set_cons_zero, List.set_cons_succ, i64_w, i32_w]
   rfl
  refine pure_ (i := 5) (N := some 35) (v := ?_) (a' := ?_) #[true, false, false, true, false, true, false, false, false] rfl rfl (any_of HT_.out (by kernel_rfl)) (fun _ _ _ h => h) (Or.inl ⟨by rfl, ?_⟩) ?_ ?_
  rotate_left
  ·intro w'
   go_simp
   with_reducible rfl
  rotate_left
  ·simp only [Act.put, List.setIfInBounds_toArray, List.set_cons_zero, List.set_cons_succ, i64_w, i32_w]
   rfl
  refine take_ (i := 4) (N := some 34) (v := ?_) (a' := ?_) #[true, false, false, true, true, true, false, false, false] rfl rfl (take_ofW HT_.out HW_.out (by kernel_rfl)) (fun _ _ _ h => h) (Or.inl ⟨by rfl, ?_⟩) hHeld ?_ ?_
  rotate_left
  ·rintro w' ⟨s0, s1⟩
   go_simp
   with_reducible rfl
  rotate_left
  ·simp only [Act.put, List.setIfInBounds_toArray, List.set_cons_zero, List.set_cons_succ, i64_w, i32_w]
   rfl
  refine one_ (i := 1) (N := some 31) #[true, true, false, true, true, true, false, false, false] rfl rfl (one_of HT_.out (by kernel_rfl)) (by decide) (fun K hK => ?_)
  refine Kd.R_lit_step (Kd.int .i64) _ 3 ?hg (N := 31) ?hd (xs := ([1] : List Int)) (inner := [.int .i64 1]) (ok := fun _ => True) (okp := fun _ => True) ?hr ?hp (fun _ hk => hk) trivial (Below.refl _ _) (Nat.le_refl _) (by simp) ?_; (case hd => rfl); (case hg => rfl); (case hr => first | (go_simp; done) | (go_simp; rfl)); (case hp => exact (Reps.one (show Kd.M (Kd.int .i64) _ _ _ 1 [.int .i64 1] from rfl) (Reps.none _ _)))
  intro v252 w47 ho48 hb hg_ hnew_
  clear hg_ hnew_
  (first | rw [← Ny251.out] at ho48 | (simp only [Int.reduceToNat] at ho48; rw [← Ny251.out] at ho48))
  have HO253 := Z0.mk (Kd.R_lower (Kd.R_new' (Kd.R_new' (Kd.R_newM (M := fun k_ => (P0_1_ k_ ∨ w.heap.size ≤ k_)) ho48 (by first | exact HK.out.1 | exact (show Kept w _ (fun k_ => P0_1_ k_) from kqs).1) (fun k_ h_ => .inr h_)) (Kd.R_lt (rq HO247))) (Kd.R_lt (rq HO250))) (below_size bqs))
  replace HO247 := Z0.mk (Kd.R_elder' (rq HO247) (Kd.R_base ho48) hb)
  replace HO250 := Z0.mk (Kd.R_elder' (rq HO250) (Kd.R_base ho48) hb)
  replace BK241 := fk BK241 hb
  replace BK242 := fk BK242 hb
  replace BK243 := fk BK243 hb
  replace BK244 := fk BK244 hb
  replace HK := fK HK hb
  replace HB := fB HB hb
  clear hb ho48
  obtain ⟨Ao49, co49, eo49⟩ := Kd.R_slice HO247.out
  (first | subst eo49 | (injection eo49 with f1_ f2_ f3_; have f4_ := f1_.symm; have f5_ := f3_.symm; clear f1_ f2_ f3_; subst f4_; subst f5_))
  obtain ⟨Ao50, co50, eo50⟩ := Kd.R_slice HO253.out
  (first | subst eo50 | (injection eo50 with f1_ f2_ f3_; have f4_ := f1_.symm; have f5_ := f3_.symm; clear f1_ f2_ f3_; subst f4_; subst f5_))
  refine hK.out _ _ ⟨(blk_cell BK242.out 0).trans rfl, (blk_cell BK242.out 1).trans rfl⟩ (fun hHeld => ?_)
  clear hK K
  refine norm_ (a' := ?_) ?_ ?_
  rotate_left
  ·show Act.put _ (some 31) _ = _
   simp only [Act.put, List.setIfInBounds_toArray, List.set_cons_zero, List.set_cons_succ, i64_w, i32_w]
   rfl
  refine one_ (i := 2) (N := some 32) #[true, true, true, true, true, true, false, false, false] rfl rfl (one_of HT_.out (by kernel_rfl)) (by decide) (fun K hK => ?_)
  refine goes_ Tryz.func102 (by kernel_rfl) rfl #[.slice Ao49 t245.length co49, .slice Ao50 y251.length co50] (by rfl) rfl rfl (by (try simp only [List.map_toArray, List.map_cons, List.map_nil]); first | done | rfl | (simp only [List.length_drop, List.length_take]; rfl)) ?_
  with_reducible refine (bIplus.calls k _ _ t245 _ _ y251 t254 _ ?side1 ?side2 ?side3 ?side4 A28.out).mono ?_
  (case side1 => exact cq (Kd.R_reads' HO247.out).2.2)
  (case side2 => exact (Kd.R_reads' HO247.out).2.1)
  (case side3 => exact cq (Kd.R_reads' HO253.out).2.2)
  (case side4 => exact (Kd.R_reads' HO253.out).2.1)
  rintro e w51 ⟨v255, rfl, ho0, hb⟩
  refine ⟨_, rfl, ?_⟩
  have HO256 := Z0.mk (Kd.R_lower (Kd.R_new' (Kd.R_new' (Kd.R_new' (Kd.R_newM (M := fun k_ => (P0_1_ k_ ∨ w.heap.size ≤ k_)) ho0 (by first | exact HK.out.1 | exact (show Kept w _ (fun k_ => P0_1_ k_) from kqs).1) (fun k_ h_ => .inr h_)) (Kd.R_lt (rq HO247))) (Kd.R_lt (rq HO250))) (Kd.R_lt (rq HO253))) (below_size bqs))
  replace HO247 := Z0.mk (Kd.R_elder' (rq HO247) (Kd.R_base ho0) hb)
  replace HO250 := Z0.mk (Kd.R_elder' (rq HO250) (Kd.R_base ho0) hb)
  replace HO253 := Z0.mk (Kd.R_elder' (rq HO253) (Kd.R_base ho0) hb)
  replace BK241 := fk BK241 hb
  replace BK242 := fk BK242 hb
  replace BK243 := fk BK243 hb
  replace BK244 := fk BK244 hb
  replace HK := fK HK hb
  replace HB := fB HB hb
  (try clear hb)
  (try clear hb2)
  (try clear hk)
  (try clear hi)
  (try clear ho0)
  refine hK.out _ _ ⟨(blk_cell BK242.out 0).trans rfl, (blk_cell BK242.out 1).trans rfl⟩ (fun hHeld => ?_)
  clear hK K
  refine norm_ (a' := ?_) ?_ ?_
  rotate_left
  ·show Act.put _ (some 32) _ = _
   simp only [Act.put, List.setIfInBounds_toArray, List.set_cons_zero, List.set_cons_succ, i64_w, i32_w]
   rfl
  refine one_ (i := 6) (N := some 36) #[true, true, true, true, true, true, true, false, false] rfl rfl (one_of HT_.out (by kernel_rfl)) (by decide) (fun K hK => ?_)
  refine goes_ Tryz.func103 (by kernel_rfl) rfl #[.slice A1_1 l1_1.length c1_1, .slice Ao45 t248.length co45] (by rfl) rfl rfl (by (try simp only [List.map_toArray, List.map_cons, List.map_nil]); first | done | rfl | (simp only [List.length_drop, List.length_take]; rfl)) ?_
  with_reducible refine (bIminus.calls k _ _ l1_1 _ _ t248 t257 _ ?side1 ?side2 ?side3 ?side4 A29.out).mono ?_
  (case side1 => exact Kd.C_kept_now HR1_1.out kqs)
  (case side2 => exact HC1_1.out)
  (case side3 => exact cq (Kd.R_reads' HO250.out).2.2)
  (case side4 => exact (Kd.R_reads' HO250.out).2.1)
  rintro e w52 ⟨v258, rfl, ho0, hb⟩
  refine ⟨_, rfl, ?_⟩
  have HO259 := Z0.mk (Kd.R_lower (Kd.R_new' (Kd.R_new' (Kd.R_new' (Kd.R_new' (Kd.R_newM (M := fun k_ => (P0_1_ k_ ∨ w.heap.size ≤ k_)) ho0 (by first | exact HK.out.1 | exact (show Kept w _ (fun k_ => P0_1_ k_) from kqs).1) (fun k_ h_ => .inr h_)) (Kd.R_lt (rq HO247))) (Kd.R_lt (rq HO250))) (Kd.R_lt (rq HO253))) (Kd.R_lt (rq HO256))) (below_size bqs))
  replace HO247 := Z0.mk (Kd.R_elder' (rq HO247) (Kd.R_base ho0) hb)
  replace HO250 := Z0.mk (Kd.R_elder' (rq HO250) (Kd.R_base ho0) hb)
  replace HO253 := Z0.mk (Kd.R_elder' (rq HO253) (Kd.R_base ho0) hb)
  replace HO256 := Z0.mk (Kd.R_elder' (rq HO256) (Kd.R_base ho0) hb)
  replace BK241 := fk BK241 hb
  replace BK242 := fk BK242 hb
  replace BK243 := fk BK243 hb
  replace BK244 := fk BK244 hb
  replace HK := fK HK hb
  replace HB := fB HB hb
  (try clear hb)
  (try clear hb2)
  (try clear hk)
  (try clear hi)
  (try clear ho0)
  refine hK.out _ _ ⟨(blk_cell BK242.out 0).trans rfl, (blk_cell BK242.out 1).trans rfl⟩ (fun hHeld => ?_)
  clear hK K
  refine norm_ (a' := ?_) ?_ ?_
  rotate_left
  ·show Act.put _ (some 36) _ = _
   simp only [Act.put, List.setIfInBounds_toArray, List.set_cons_zero, List.set_cons_succ, i64_w, i32_w]
   rfl
  refine pure_ (i := 7) (N := some 6) (v := ?_) (a' := ?_) #[true, true, true, true, true, true, true, true, false] rfl rfl (any_of HT_.out (by kernel_rfl)) (fun _ _ _ h => h) (Or.inl ⟨by rfl, ?_⟩) ?_ ?_
  rotate_left
  ·intro w'
   go_simp
   with_reducible rfl
  rotate_left
  ·simp only [Act.put, List.setIfInBounds_toArray, List.set_cons_zero, List.set_cons_succ, i64_w, i32_w]
   rfl
  refine pure_ (i := 8) (N := some 7) (v := ?_) (a' := ?_) #[true, true, true, true, true, true, true, true, true] rfl rfl (any_of HT_.out (by kernel_rfl)) (fun _ _ _ h => h) (Or.inl ⟨by rfl, ?_⟩) ?_ ?_
  rotate_left
  ·intro w'
   go_simp
   with_reducible rfl
  rotate_left
  ·simp only [Act.put, List.setIfInBounds_toArray, List.set_cons_zero, List.set_cons_succ, i64_w, i32_w]
   rfl
  refine done_ (done_of HT_.out (by kernel_rfl)) ?_
  try go_wp2
  replace HO247 := Z0.mk (Kd.R_drew HO247.out)
  replace HO250 := Z0.mk (Kd.R_drew HO250.out)
  replace HO253 := Z0.mk (Kd.R_drew HO253.out)
  replace HO256 := Z0.mk (Kd.R_drew HO256.out)
  replace HO259 := Z0.mk (Kd.R_drew HO259.out)
  replace BK241 := Z0.mk (blk_drew BK241.out)
  replace BK242 := Z0.mk (blk_drew BK242.out)
  replace BK243 := Z0.mk (blk_drew BK243.out)
  replace BK244 := Z0.mk (blk_drew BK244.out)
  replace HK := Z0.mk (Kept.drew HK.out)
  replace HB := Z0.mk (below_drew1 HB.out)
  obtain ⟨Ao54, co54, eo54⟩ := Kd.R_slice HO256.out
  (first | subst eo54 | (injection eo54 with f1_ f2_ f3_; have f4_ := f1_.symm; have f5_ := f3_.symm; clear f1_ f2_ f3_; subst f4_; subst f5_))
  obtain ⟨Ao55, co55, eo55⟩ := Kd.R_slice HO259.out
  (first | subst eo55 | (injection eo55 with f1_ f2_ f3_; have f4_ := f1_.symm; have f5_ := f3_.symm; clear f1_ f2_ f3_; subst f4_; subst f5_))
  refine start_ (n := 8) (S := fun w' => w'.cell? ⟨gb242, 0, none⟩ = some (.bool a1_0) ∧ w'.cell? ⟨gb242, 1, none⟩ = some (.slice A1_1 l1_1.length c1_1)) (ds := []) #[false, false, false, false, false, false, false, false] (by kernel_rfl) rfl rfl ⟨(blk_cell BK242.out 0).trans rfl, (blk_cell BK242.out 1).trans rfl⟩ (fun hHeld => ?_); refine with_tabW bIquotient.tab6 bIquotient.bits6 (fun HT_ HW_ => ?_)
  generalize w52.drew = w53 at HO247 HO250 HO253 HO256 HO259 BK241 BK242 BK243 BK244 HK HB hHeld ⊢
  refine pure_ (i := 0) (N := some 37) (v := ?_) (a' := ?_) #[true, false, false, false, false, false, false, false] rfl rfl (any_of HT_.out (by kernel_rfl)) (fun _ _ _ h => h) (Or.inl ⟨by rfl, ?_⟩) ?_ ?_
  rotate_left
  ·intro w'
   go_simp
   with_reducible rfl
  rotate_left
  ·simp only [Act.put, List.setIfInBounds_toArray, List.set_cons_zero, List.set_cons_succ, i64_w, i32_w]
   rfl
  refine pure_ (i := 1) (N := some 38) (v := ?_) (a' := ?_) #[true, true, false, false, false, false, false, false] rfl rfl (any_of HT_.out (by kernel_rfl)) (fun _ _ _ h => h) (Or.inl ⟨by rfl, ?_⟩) ?_ ?_
  rotate_left
  ·intro w'
   go_simp
   with_reducible rfl
  rotate_left
  ·simp only [Act.put, List.setIfInBounds_toArray, List.set_cons_zero, List.set_cons_succ, i64_w, i32_w]
   rfl
  refine pure_ (i := 2) (N := some 39) (v := ?_) (a' := ?_) #[true, true, true, false, false, false, false, false] rfl rfl (any_of HT_.out (by kernel_rfl)) (fun _ _ _ h => h) (Or.inl ⟨by rfl, ?_⟩) ?_ ?_
  rotate_left
  ·intro w'
   go_simp
   with_reducible rfl
  rotate_left
  ·simp only [Act.put, List.setIfInBounds_toArray, List.set_cons_zero, List.set_cons_succ, i64_w, i32_w]
   rfl
  refine pure_ (i := 4) (N := some 41) (v := ?_) (a' := ?_) #[true, true, true, false, true, false, false, false] rfl rfl (any_of HT_.out (by kernel_rfl)) (fun _ _ _ h => h) (Or.inl ⟨by rfl, ?_⟩) ?_ ?_
  rotate_left
  ·intro w'
   go_simp
   with_reducible rfl
  rotate_left
  ·simp only [Act.put, List.setIfInBounds_toArray, List.set_cons_zero, List.set_cons_succ, i64_w, i32_w]
   rfl
  refine take_ (i := 3) (N := some 40) (v := ?_) (a' := ?_) #[true, true, true, true, true, false, false, false] rfl rfl (take_ofW HT_.out HW_.out (by kernel_rfl)) (fun _ _ _ h => h) (Or.inl ⟨by rfl, ?_⟩) hHeld ?_ ?_
  rotate_left
  ·rintro w' ⟨s0, s1⟩
   go_simp
   with_reducible rfl
  rotate_left
  ·simp only [Act.put, List.setIfInBounds_toArray, List.set_cons_zero, List.set_cons_succ, i64_w, i32_w]
   rfl
  refine pure_ (i := 5) (N := some 42) (v := ?_) (a' := ?_) #[true, true, true, true, true, true, false, false] rfl rfl (any_of HT_.out (by kernel_rfl)) (fun _ _ _ h => h) (Or.inl ⟨by rfl, ?_⟩) ?_ ?_
  rotate_left
  ·intro w'
   go_simp
   with_reducible rfl
  rotate_left
  ·simp only [Act.put, List.setIfInBounds_toArray, List.set_cons_zero, List.set_cons_succ, i64_w, i32_w]
   rfl
  refine one_ (i := 6) (N := none) #[true, true, true, true, true, true, true, false] rfl rfl (one_of HT_.out (by kernel_rfl)) (by decide) (fun K hK => ?_)
  have hs56 : w53.cell? ⟨gb243, 0, none⟩ = some (.bool false) := (blk_cell BK243.out 0).trans rfl
  have hfs56 := blk_frozen BK243.out 0
  have hns56_0 := NB241_243.out
  have hns56_1 := NB242_243.out
  have hns56_3 := NB244_243.out
  have hms56_0 := NB243_241.out
  have hms56_1 := NB243_242.out
  have hms56_3 := NB243_244.out
  have hs57 : w53.cell? ⟨gb243, 1, none⟩ = some (.slice none 0 0) := (blk_cell BK243.out 1).trans rfl
  have hfs57 := blk_frozen BK243.out 1
  have hns57_0 := NB241_243.out
  have hns57_1 := NB242_243.out
  have hns57_3 := NB244_243.out
  have hms57_0 := NB243_241.out
  have hms57_1 := NB243_242.out
  have hms57_3 := NB243_244.out
  refine skip_ (w1 := ?_) (by rfl) rfl ?_ ?_
  rotate_left
  ·go_simp
   rfl
  refine hK.out _ _ ⟨((cell_far (p := ⟨gb243, _, none⟩) NB242_243.out _).trans (((cell_far (p := ⟨gb243, _, none⟩) NB242_243.out _).trans (hHeld.1)))), ((cell_far (p := ⟨gb243, _, none⟩) NB242_243.out _).trans (((cell_far (p := ⟨gb243, _, none⟩) NB242_243.out _).trans (hHeld.2))))⟩ (fun hHeld => ?_)
  clear hK K
  refine one_ (i := 7) (N := none) #[true, true, true, true, true, true, true, true] rfl rfl (one_of HT_.out (by kernel_rfl)) (by decide) (fun K hK => ?_)
  have hs58 : w53.cell? ⟨gb244, 0, none⟩ = some (.bool false) := (blk_cell BK244.out 0).trans rfl
  have hfs58 := blk_frozen BK244.out 0
  have hns58_0 := NB241_244.out
  have hns58_1 := NB242_244.out
  have hns58_2 := NB243_244.out
  have hms58_0 := NB244_241.out
  have hms58_1 := NB244_242.out
  have hms58_2 := NB244_243.out
  have hs59 : w53.cell? ⟨gb244, 1, none⟩ = some (.slice none 0 0) := (blk_cell BK244.out 1).trans rfl
  have hfs59 := blk_frozen BK244.out 1
  have hns59_0 := NB241_244.out
  have hns59_1 := NB242_244.out
  have hns59_2 := NB243_244.out
  have hms59_0 := NB244_241.out
  have hms59_1 := NB244_242.out
  have hms59_2 := NB244_243.out
  refine skip_ (w1 := ?_) (by rfl) rfl ?_ ?_
  rotate_left
  ·go_simp
   rfl
  refine hK.out _ _ ⟨((cell_far (p := ⟨gb244, _, none⟩) NB242_244.out _).trans (((cell_far (p := ⟨gb244, _, none⟩) NB242_244.out _).trans (hHeld.1)))), ((cell_far (p := ⟨gb244, _, none⟩) NB242_244.out _).trans (((cell_far (p := ⟨gb244, _, none⟩) NB242_244.out _).trans (hHeld.2))))⟩ (fun hHeld => ?_)
  clear hK K
  refine done_ (done_of HT_.out (by kernel_rfl)) ?_
  try go_wp2
  refine bodyPost_ret (results_cc rfl _ _ gb243 gb244 80 80 #[.bool true, .slice Ao54 t254.length co54] #[.bool a1_0, .slice Ao55 t257.length co55] (0, 0) (0, 0) _ _ rfl (by (with_reducible repeat (first | refine blk_drewN ?_ _ | refine blk_drew ?_ | refine blk_alloc ?_ _)); refine blk_far ?_ NB243_244.out _; (with_reducible repeat (first | refine blk_drewN ?_ _ | refine blk_drew ?_ | refine blk_alloc ?_ _)); refine blk_far ?_ NB243_244.out _; (with_reducible repeat (first | refine blk_drewN ?_ _ | refine blk_drew ?_ | refine blk_alloc ?_ _)); refine blk_put (cs := #[.bool true, .slice none 0 0]) ?_ 1 _ rfl; (with_reducible repeat (first | refine blk_drewN ?_ _ | refine blk_drew ?_ | refine blk_alloc ?_ _)); refine blk_put (cs := #[.bool false, .slice none 0 0]) ?_ 0 _ rfl; (with_reducible repeat (first | refine blk_drewN ?_ _ | refine blk_drew ?_ | refine blk_alloc ?_ _)); exact BK243.out) Tryz.underlying80 rfl (by kernel_rfl) rfl (by (with_reducible repeat (first | refine blk_drewN ?_ _ | refine blk_drew ?_ | refine blk_alloc ?_ _)); refine blk_put (cs := #[.bool a1_0, .slice none 0 0]) ?_ 1 _ rfl; (with_reducible repeat (first | refine blk_drewN ?_ _ | refine blk_drew ?_ | refine blk_alloc ?_ _)); refine blk_put (cs := #[.bool false, .slice none 0 0]) ?_ 0 _ rfl; (with_reducible repeat (first | refine blk_drewN ?_ _ | refine blk_drew ?_ | refine blk_alloc ?_ _)); refine blk_far ?_ NB244_243.out _; (with_reducible repeat (first | refine blk_drewN ?_ _ | refine blk_drew ?_ | refine blk_alloc ?_ _)); refine blk_far ?_ NB244_243.out _; (with_reducible repeat (first | refine blk_drewN ?_ _ | refine blk_drew ?_ | refine blk_alloc ?_ _)); exact BK244.out) Tryz.underlying80 rfl (by kernel_rfl)) rfl ?_
  exact ⟨_, _, fe, by (with_reducible repeat (first | apply Kd.R_alloc | apply Kd.R_drewN | apply Kd.R_drew)); exact Kd.R_mono (Kd.R_far (p := ⟨gb244, 1, none⟩) (Kd.R_far (p := ⟨gb244, 0, none⟩) (Kd.R_far (p := ⟨gb243, 1, none⟩) (Kd.R_far (p := ⟨gb243, 0, none⟩) (Kd.R_types (Kd.R_types HO256.out BK243.out (by decide)) BK244.out (by decide)) (fun _ hk => hk.1.2) (.bool true)) (fun _ hk => hk.1.2) (.slice Ao54 t254.length co54)) (fun _ hk => hk.2) (.bool a1_0)) (fun _ hk => hk.2) (.slice Ao55 t257.length co55)) (fun _ hk => ⟨hk.1.1.1.1.1.1.1, hk.1.1.2⟩), by (with_reducible repeat (first | apply Kd.R_alloc | apply Kd.R_drewN | apply Kd.R_drew)); exact Kd.R_mono (Kd.R_far (p := ⟨gb244, 1, none⟩) (Kd.R_far (p := ⟨gb244, 0, none⟩) (Kd.R_far (p := ⟨gb243, 1, none⟩) (Kd.R_far (p := ⟨gb243, 0, none⟩) (Kd.R_types (Kd.R_types HO259.out BK243.out (by decide)) BK244.out (by decide)) (fun _ hk => hk.1.2) (.bool true)) (fun _ hk => hk.1.2) (.slice Ao54 t254.length co54)) (fun _ hk => hk.2) (.bool a1_0)) (fun _ hk => hk.2) (.slice Ao55 t257.length co55)) (fun _ hk => ⟨hk.1.1.1.1.1.1.1, hk.1.1.2⟩), bqs, kqs⟩
 have c27b1 : decide (0 < t248.length) = false := decide_eq_false (by omega)
 clear c27
 simp only [Option.some.injEq, Prod.mk.injEq] at H
 obtain ⟨rfl, rfl, rfl, rfl⟩ := H
 obtain ⟨Ao60, co60, eo60⟩ := Kd.R_slice HO0_1.out
 subst eo60
 go_enter Tryz.func58, Tryz.ntmps58
 try go_wp2_with (first | ((with_reducible refine gd_ 2 rfl ?_); refine bxE 2 #[.bool a0_0, .slice Ao60 l0_1.length co60] 80 ?_; intro gb241 hg w61 hbox hb; have BK241 := Z0.mk hbox; have GW241 := fW HK hg; have GE241 := fE HB hg; replace HO0_1 := fR HO0_1 hb; replace HK := fK HK hb; replace HB := fB HB hb; clear hb hbox hg) | ((with_reducible refine gd_ 3 rfl ?_); refine bxE 3 #[.bool a1_0, .slice A1_1 l1_1.length c1_1] 80 ?_; intro gb242 hg w62 hbox hb; have BK242 := Z0.mk hbox; have GW242 := fW HK hg; have GE242 := fE HB hg; have NB241_242 := fl BK241 hg; have NB242_241 := fg BK241 hg; replace HO0_1 := fR HO0_1 hb; replace BK241 := fk BK241 hb; replace HK := fK HK hb; replace HB := fB HB hb; clear hb hbox hg) | ((with_reducible refine gd_ 4 rfl ?_); refine bxE 4 #[.bool false, .slice none 0 0] 80 ?_; intro gb243 hg w63 hbox hb; have BK243 := Z0.mk hbox; have GW243 := fW HK hg; have GE243 := fE HB hg; have NB241_243 := fl BK241 hg; have NB243_241 := fg BK241 hg; have NB242_243 := fl BK242 hg; have NB243_242 := fg BK242 hg; replace HO0_1 := fR HO0_1 hb; replace BK241 := fk BK241 hb; replace BK242 := fk BK242 hb; replace HK := fK HK hb; replace HB := fB HB hb; clear hb hbox hg) | ((with_reducible refine gd_ 5 rfl ?_); refine bxE 5 #[.bool false, .slice none 0 0] 80 ?_; intro gb244 hg w64 hbox hb; have BK244 := Z0.mk hbox; have GW244 := fW HK hg; have GE244 := fE HB hg; have NB241_244 := fl BK241 hg; have NB244_241 := fg BK241 hg; have NB242_244 := fl BK242 hg; have NB244_242 := fg BK242 hg; have NB243_244 := fl BK243 hg; have NB244_243 := fg BK243 hg; replace HO0_1 := fR HO0_1 hb; replace BK241 := fk BK241 hb; replace BK242 := fk BK242 hb; replace BK243 := fk BK243 hb; replace HK := fK HK hb; replace HB := fB HB hb; clear hb hbox hg; have hnb65 := NB241_242.out; have hnc65 := NB242_241.out; have hnb66 := NB241_243.out; have hnc66 := NB243_241.out; have hnb67 := NB241_244.out; have hnc67 := NB244_241.out; obtain ⟨hcz68_0, hcz68_1, hfz68_0, hfz68_1⟩ := b2 BK241; have hnb69 := NB242_243.out; have hnc69 := NB243_242.out; have hnb70 := NB242_244.out; have hnc70 := NB244_242.out; obtain ⟨hcz71_0, hcz71_1, hfz71_0, hfz71_1⟩ := b2 BK242) | ((with_reducible refine gc_ 62 rfl ?_); refine gL 13 Tryz.func62 (bIdivide.calls k (fun k_ => some k_ = (.slice Ao60 l0_1.length co60 : Value).ownBlock) (.slice Ao60 l0_1.length co60) l0_1 _ _ l1_1 t245 t248 w0 _ ?side1 ?side2 ?side3 ?side4 A3.out) ?_; (case side1 => repeat (first | (with_reducible first | exact HB.out | apply below_alloc | apply pw_below_drewN | apply below_drew1 | refine below_set ?_ GE241.out | refine below_set ?_ GE242.out | refine below_set ?_ GE243.out | refine below_set ?_ GE244.out) | exact HB.out)); (case side2 => exact Kd.R_tight rfl HO0_1.out); (case side3 => exact Kd.C_kept_call HR1_1.out kqs (fun k_ hs_ => (fun e_ => (HO0_1.out.1 k_ e_.symm)) hs_)); (case side4 => exact HC1_1.out); rintro _ w72 ⟨v246, v249, rfl, ho0, ho1, hb, hkp⟩; refine ⟨_, rfl, ?_⟩; have HO247 := Z0.mk (Kd.R_mono (ok' := fun k_ => (P0_1_ k_ ∨ w.heap.size ≤ k_) ∧ some k_ ≠ (v249 : Value).ownBlock) ho0 (fun k_ hk_ => ⟨Or.elim hk_.1 (fun hs_ => (HO0_1.out.1 k_ (hs_).symm)) (fun hn_ => (.inr (Nat.le_trans (by first | exact HK.out.1 | exact (show Kept w _ (fun k_ => P0_1_ k_) from kqs).1) hn_))), hk_.2⟩)); have HO250 := Z0.mk (Kd.R_mono (ok' := fun k_ => (P0_1_ k_ ∨ w.heap.size ≤ k_) ∧ some k_ ≠ (v246 : Value).ownBlock) ho1 (fun k_ hk_ => ⟨Or.elim hk_.1 (fun hs_ => (HO0_1.out.1 k_ (hs_).symm)) (fun hn_ => (.inr (Nat.le_trans (by first | exact HK.out.1 | exact (show Kept w _ (fun k_ => P0_1_ k_) from kqs).1) hn_))), hk_.2⟩)); replace BK241 := Z0.mk (blk_kept (hq BK241) hkp (fun hs_ => (fun e_ => (Kd.R_ne HO0_1.out BK241.out (by decide)) e_) hs_)); replace BK242 := Z0.mk (blk_kept (hq BK242) hkp (fun hs_ => (fun e_ => (Kd.R_ne HO0_1.out BK242.out (by decide)) e_) hs_)); replace BK243 := Z0.mk (blk_kept (hq BK243) hkp (fun hs_ => (fun e_ => (Kd.R_ne HO0_1.out BK243.out (by decide)) e_) hs_)); replace BK244 := Z0.mk (blk_kept (hq BK244) hkp (fun hs_ => (fun e_ => (Kd.R_ne HO0_1.out BK244.out (by decide)) e_) hs_)); replace HK := Z0.mk (Kept.then_ (S := (fun k_ => P0_1_ k_)) kqs hkp (fun k_ hs_ => (fun e_ => (HO0_1.out.1 k_ e_.symm)) hs_)); replace HB := Z0.mk (hb); clear HO0_1; clear hb hkp ho0 ho1; obtain ⟨hcz73_0, hcz73_1, hfz73_0, hfz73_1⟩ := b2 BK241; obtain ⟨hcz74_0, hcz74_1, hfz74_0, hfz74_1⟩ := b2 BK242; obtain ⟨Ao75, co75, eo75⟩ := Kd.R_slice HO250.out; subst eo75))
 replace HO247 := Z0.mk (Kd.R_drew HO247.out)
 replace HO250 := Z0.mk (Kd.R_drew HO250.out)
 replace BK241 := Z0.mk (blk_drew BK241.out)
 replace BK242 := Z0.mk (blk_drew BK242.out)
 replace BK243 := Z0.mk (blk_drew BK243.out)
 replace BK244 := Z0.mk (blk_drew BK244.out)
 replace HK := Z0.mk (Kept.drew HK.out)
 replace HB := Z0.mk (below_drew1 HB.out)
 obtain ⟨Ao77, co77, eo77⟩ := Kd.R_slice HO247.out
 (first | subst eo77 | (injection eo77 with f1_ f2_ f3_; have f4_ := f1_.symm; have f5_ := f3_.symm; clear f1_ f2_ f3_; subst f4_; subst f5_))
 refine start_ (n := 8) (S := fun w' => w'.cell? ⟨gb242, 0, none⟩ = some (.bool a1_0) ∧ w'.cell? ⟨gb242, 1, none⟩ = some (.slice A1_1 l1_1.length c1_1)) (ds := []) #[false, false, false, false, false, false, false, false] (by kernel_rfl) rfl rfl ⟨(blk_cell BK242.out 0).trans rfl, (blk_cell BK242.out 1).trans rfl⟩ (fun hHeld => ?_); refine with_tabW bIquotient.tab6 bIquotient.bits6 (fun HT_ HW_ => ?_)
 generalize w72.drew = w76 at HO247 HO250 BK241 BK242 BK243 BK244 HK HB hHeld ⊢
 refine pure_ (i := 0) (N := some 37) (v := ?_) (a' := ?_) #[true, false, false, false, false, false, false, false] rfl rfl (any_of HT_.out (by kernel_rfl)) (fun _ _ _ h => h) (Or.inl ⟨by rfl, ?_⟩) ?_ ?_
 rotate_left
 ·intro w'
  go_simp
  with_reducible rfl
 rotate_left
 ·simp only [Act.put, List.setIfInBounds_toArray, List.set_cons_zero, List.set_cons_succ, i64_w, i32_w]
  rfl
 refine pure_ (i := 1) (N := some 38) (v := ?_) (a' := ?_) #[true, true, false, false, false, false, false, false] rfl rfl (any_of HT_.out (by kernel_rfl)) (fun _ _ _ h => h) (Or.inl ⟨by rfl, ?_⟩) ?_ ?_
 rotate_left
 ·intro w'
  go_simp
  with_reducible rfl
 rotate_left
 ·simp only [Act.put, List.setIfInBounds_toArray, List.set_cons_zero, List.set_cons_succ, i64_w, i32_w]
  rfl
 refine pure_ (i := 2) (N := some 39) (v := ?_) (a' := ?_) #[true, true, true, false, false, false, false, false] rfl rfl (any_of HT_.out (by kernel_rfl)) (fun _ _ _ h => h) (Or.inl ⟨by rfl, ?_⟩) ?_ ?_
 rotate_left
 ·intro w'
  go_simp
  with_reducible rfl
 rotate_left
 ·simp only [Act.put, List.setIfInBounds_toArray, List.set_cons_zero, List.set_cons_succ, i64_w, i32_w]
  rfl
 refine pure_ (i := 4) (N := some 41) (v := ?_) (a' := ?_) #[true, true, true, false, true, false, false, false] rfl rfl (any_of HT_.out (by kernel_rfl)) (fun _ _ _ h => h) (Or.inl ⟨by rfl, ?_⟩) ?_ ?_
 rotate_left
 ·intro w'
  go_simp
  with_reducible rfl
 rotate_left
 ·simp only [Act.put, List.setIfInBounds_toArray, List.set_cons_zero, List.set_cons_succ, i64_w, i32_w]
  rfl
 refine take_ (i := 3) (N := some 40) (v := ?_) (a' := ?_) #[true, true, true, true, true, false, false, false] rfl rfl (take_ofW HT_.out HW_.out (by kernel_rfl)) (fun _ _ _ h => h) (Or.inl ⟨by rfl, ?_⟩) hHeld ?_ ?_
 rotate_left
 ·rintro w' ⟨s0, s1⟩
  go_simp
  with_reducible rfl
 rotate_left
 ·simp only [Act.put, List.setIfInBounds_toArray, List.set_cons_zero, List.set_cons_succ, i64_w, i32_w]
  rfl
 refine pure_ (i := 5) (N := some 42) (v := ?_) (a' := ?_) #[true, true, true, true, true, true, false, false] rfl rfl (any_of HT_.out (by kernel_rfl)) (fun _ _ _ h => h) (Or.inl ⟨by rfl, ?_⟩) ?_ ?_
 rotate_left
 ·intro w'
  go_simp
  with_reducible rfl
 rotate_left
 ·simp only [Act.put, List.setIfInBounds_toArray, List.set_cons_zero, List.set_cons_succ, i64_w, i32_w]
  rfl
 refine one_ (i := 6) (N := none) #[true, true, true, true, true, true, true, false] rfl rfl (one_of HT_.out (by kernel_rfl)) (by decide) (fun K hK => ?_)
 have hs78 : w76.cell? ⟨gb243, 0, none⟩ = some (.bool false) := (blk_cell BK243.out 0).trans rfl
 have hfs78 := blk_frozen BK243.out 0
 have hns78_0 := NB241_243.out
 have hns78_1 := NB242_243.out
 have hns78_3 := NB244_243.out
 have hms78_0 := NB243_241.out
 have hms78_1 := NB243_242.out
 have hms78_3 := NB243_244.out
 have hs79 : w76.cell? ⟨gb243, 1, none⟩ = some (.slice none 0 0) := (blk_cell BK243.out 1).trans rfl
 have hfs79 := blk_frozen BK243.out 1
 have hns79_0 := NB241_243.out
 have hns79_1 := NB242_243.out
 have hns79_3 := NB244_243.out
 have hms79_0 := NB243_241.out
 have hms79_1 := NB243_242.out
 have hms79_3 := NB243_244.out
 refine skip_ (w1 := ?_) (by rfl) rfl ?_ ?_
 rotate_left
 ·go_simp
  rfl
 refine hK.out _ _ ⟨((cell_far (p := ⟨gb243, _, none⟩) NB242_243.out _).trans (((cell_far (p := ⟨gb243, _, none⟩) NB242_243.out _).trans (hHeld.1)))), ((cell_far (p := ⟨gb243, _, none⟩) NB242_243.out _).trans (((cell_far (p := ⟨gb243, _, none⟩) NB242_243.out _).trans (hHeld.2))))⟩ (fun hHeld => ?_)
 clear hK K
 refine one_ (i := 7) (N := none) #[true, true, true, true, true, true, true, true] rfl rfl (one_of HT_.out (by kernel_rfl)) (by decide) (fun K hK => ?_)
 have hs80 : w76.cell? ⟨gb244, 0, none⟩ = some (.bool false) := (blk_cell BK244.out 0).trans rfl
 have hfs80 := blk_frozen BK244.out 0
 have hns80_0 := NB241_244.out
 have hns80_1 := NB242_244.out
 have hns80_2 := NB243_244.out
 have hms80_0 := NB244_241.out
 have hms80_1 := NB244_242.out
 have hms80_2 := NB244_243.out
 have hs81 : w76.cell? ⟨gb244, 1, none⟩ = some (.slice none 0 0) := (blk_cell BK244.out 1).trans rfl
 have hfs81 := blk_frozen BK244.out 1
 have hns81_0 := NB241_244.out
 have hns81_1 := NB242_244.out
 have hns81_2 := NB243_244.out
 have hms81_0 := NB244_241.out
 have hms81_1 := NB244_242.out
 have hms81_2 := NB244_243.out
 refine skip_ (w1 := ?_) (by rfl) rfl ?_ ?_
 rotate_left
 ·go_simp
  rfl
 refine hK.out _ _ ⟨((cell_far (p := ⟨gb244, _, none⟩) NB242_244.out _).trans (((cell_far (p := ⟨gb244, _, none⟩) NB242_244.out _).trans (hHeld.1)))), ((cell_far (p := ⟨gb244, _, none⟩) NB242_244.out _).trans (((cell_far (p := ⟨gb244, _, none⟩) NB242_244.out _).trans (hHeld.2))))⟩ (fun hHeld => ?_)
 clear hK K
 refine done_ (done_of HT_.out (by kernel_rfl)) ?_
 try go_wp2
 refine bodyPost_ret (results_cc rfl _ _ gb243 gb244 80 80 #[.bool true, .slice Ao77 t245.length co77] #[.bool a1_0, .slice Ao75 t248.length co75] (0, 0) (0, 0) _ _ rfl (by (with_reducible repeat (first | refine blk_drewN ?_ _ | refine blk_drew ?_ | refine blk_alloc ?_ _)); refine blk_far ?_ NB243_244.out _; (with_reducible repeat (first | refine blk_drewN ?_ _ | refine blk_drew ?_ | refine blk_alloc ?_ _)); refine blk_far ?_ NB243_244.out _; (with_reducible repeat (first | refine blk_drewN ?_ _ | refine blk_drew ?_ | refine blk_alloc ?_ _)); refine blk_put (cs := #[.bool true, .slice none 0 0]) ?_ 1 _ rfl; (with_reducible repeat (first | refine blk_drewN ?_ _ | refine blk_drew ?_ | refine blk_alloc ?_ _)); refine blk_put (cs := #[.bool false, .slice none 0 0]) ?_ 0 _ rfl; (with_reducible repeat (first | refine blk_drewN ?_ _ | refine blk_drew ?_ | refine blk_alloc ?_ _)); exact BK243.out) Tryz.underlying80 rfl (by kernel_rfl) rfl (by (with_reducible repeat (first | refine blk_drewN ?_ _ | refine blk_drew ?_ | refine blk_alloc ?_ _)); refine blk_put (cs := #[.bool a1_0, .slice none 0 0]) ?_ 1 _ rfl; (with_reducible repeat (first | refine blk_drewN ?_ _ | refine blk_drew ?_ | refine blk_alloc ?_ _)); refine blk_put (cs := #[.bool false, .slice none 0 0]) ?_ 0 _ rfl; (with_reducible repeat (first | refine blk_drewN ?_ _ | refine blk_drew ?_ | refine blk_alloc ?_ _)); refine blk_far ?_ NB244_243.out _; (with_reducible repeat (first | refine blk_drewN ?_ _ | refine blk_drew ?_ | refine blk_alloc ?_ _)); refine blk_far ?_ NB244_243.out _; (with_reducible repeat (first | refine blk_drewN ?_ _ | refine blk_drew ?_ | refine blk_alloc ?_ _)); exact BK244.out) Tryz.underlying80 rfl (by kernel_rfl)) rfl ?_
 exact ⟨_, _, fe, by (with_reducible repeat (first | apply Kd.R_alloc | apply Kd.R_drewN | apply Kd.R_drew)); exact Kd.R_mono (Kd.R_far (p := ⟨gb244, 1, none⟩) (Kd.R_far (p := ⟨gb244, 0, none⟩) (Kd.R_far (p := ⟨gb243, 1, none⟩) (Kd.R_far (p := ⟨gb243, 0, none⟩) (Kd.R_types (Kd.R_types HO247.out BK243.out (by decide)) BK244.out (by decide)) (fun _ hk => hk.1.2) (.bool true)) (fun _ hk => hk.1.2) (.slice Ao77 t245.length co77)) (fun _ hk => hk.2) (.bool a1_0)) (fun _ hk => hk.2) (.slice Ao75 t248.length co75)) (fun _ hk => ⟨hk.1.1.1, hk.1.1.2⟩), by (with_reducible repeat (first | apply Kd.R_alloc | apply Kd.R_drewN | apply Kd.R_drew)); exact Kd.R_mono (Kd.R_far (p := ⟨gb244, 1, none⟩) (Kd.R_far (p := ⟨gb244, 0, none⟩) (Kd.R_far (p := ⟨gb243, 1, none⟩) (Kd.R_far (p := ⟨gb243, 0, none⟩) (Kd.R_types (Kd.R_types HO250.out BK243.out (by decide)) BK244.out (by decide)) (fun _ hk => hk.1.2) (.bool true)) (fun _ hk => hk.1.2) (.slice Ao77 t245.length co77)) (fun _ hk => hk.2) (.bool a1_0)) (fun _ hk => hk.2) (.slice Ao75 t248.length co75)) (fun _ hk => ⟨hk.1.1.1, hk.1.1.2⟩), bqs, kqs⟩
theorem bIdivided.calls (k : Nat) (a0 : ByteArray) (a1 : ByteArray) (r1 : ByteArray) (r2 : ByteArray) (r3 : Int) (w : World) (hL : LaidW w) (h : bIdivided.f k a0 a1 = some (r1, r2, r3)) :
  Calls Tryz.prog 69 #[.string a0, .string a1] w fun e w' => e = .returned (.tuple #[.string r1, .string r2, .int .i64 r3]) ∧ Below w.heap.size w w' := by
 have hu88 := Tryz.underlying80
 have HB := Z0.mk (Below.refl w.heap.size w)
 have H := h
 clear h
 unfold bIdivided.f at H
 obtain ⟨⟨t260, t261, t264, t265, t268⟩, A3, H⟩ := bnd H
 try dsimp only at H
 rcases je H with ⟨-, c4b0, c4b1, H⟩ | ⟨c4, c4b0, c4b1, H⟩
 ·rcases je H with ⟨-, c5b0, c5b1, H⟩ | ⟨c5, c5b0, c5b1, H⟩
  ·simp only [Option.some.injEq, Prod.mk.injEq] at H
   obtain ⟨rfl, rfl, rfl⟩ := H
   go_enter Tryz.func69, Tryz.ntmps69
   go_wp2_with (first | ((with_reducible refine gc_ 54 rfl ?_); refine gL 15 Tryz.func54 (bIpair.calls _ _ _ _ _ _ _ _ _ A3.out) ?_; rintro _ w6 ⟨v262, v266, rfl, ho0, ho1, hb⟩; refine ⟨_, rfl, ?_⟩; have HO263 := fN ho0; have HO267 := fN ho1; replace HB := fB HB hb; clear hb ho0 ho1) | ((with_reducible refine gd_ 7 rfl ?_); refine bxE 7 #[.bool false, .slice none 0 0] 80 ?_; intro gb269 hg w7 hbox hb; have BK269 := Z0.mk hbox; have GW269 := fE HB hg; have GE269 := fE HB hg; replace HO263 := fR HO263 hb; replace HO267 := fR HO267 hb; replace HB := fB HB hb; clear hb hbox hg) | ((with_reducible refine gd_ 8 rfl ?_); refine bxE 8 #[.bool false, .slice none 0 0] 80 ?_; intro gb270 hg w8 hbox hb; have BK270 := Z0.mk hbox; have GW270 := fE HB hg; have GE270 := fE HB hg; have NB269_270 := fl BK269 hg; have NB270_269 := fg BK269 hg; replace HO263 := fR HO263 hb; replace HO267 := fR HO267 hb; replace BK269 := fk BK269 hb; replace HB := fB HB hb; clear hb hbox hg; have hnb9 := NB269_270.out; have hnc9 := NB270_269.out; obtain ⟨hcz10_0, hcz10_1, hfz10_0, hfz10_1⟩ := b2 BK269; obtain ⟨Ao11, co11, eo11⟩ := Kd.R_slice HO263.out; subst eo11; obtain ⟨hcz12_0, hcz12_1, hfz12_0, hfz12_1⟩ := b2 BK270; obtain ⟨Ao13, co13, eo13⟩ := Kd.R_slice HO267.out; subst eo13))
   go_ret3
   exact finE
  have c5b2 : ¬ (t265 = []) := fun h_ => c5 (by rw [h_]; rfl)
  obtain ⟨⟨t271, t272, t275, t276⟩, A14, H⟩ := bnd H
  try dsimp only at H
  obtain ⟨t281, A15, H⟩ := bnd H
  obtain ⟨t282, A16, H⟩ := bnd H
  simp only [Option.some.injEq, Prod.mk.injEq] at H
  obtain ⟨rfl, rfl, rfl⟩ := H
  go_enter Tryz.func69, Tryz.ntmps69
  try go_wp2_with (first | ((with_reducible refine gc_ 54 rfl ?_); refine gL 15 Tryz.func54 (bIpair.calls _ _ _ _ _ _ _ _ _ A3.out) ?_; rintro _ w17 ⟨v262, v266, rfl, ho0, ho1, hb⟩; refine ⟨_, rfl, ?_⟩; have HO263 := fN ho0; have HO267 := fN ho1; replace HB := fB HB hb; clear hb ho0 ho1) | ((with_reducible refine gd_ 7 rfl ?_); refine bxE 7 #[.bool false, .slice none 0 0] 80 ?_; intro gb269 hg w18 hbox hb; have BK269 := Z0.mk hbox; have GW269 := fE HB hg; have GE269 := fE HB hg; replace HO263 := fR HO263 hb; replace HO267 := fR HO267 hb; replace HB := fB HB hb; clear hb hbox hg) | ((with_reducible refine gd_ 8 rfl ?_); refine bxE 8 #[.bool false, .slice none 0 0] 80 ?_; intro gb270 hg w19 hbox hb; have BK270 := Z0.mk hbox; have GW270 := fE HB hg; have GE270 := fE HB hg; have NB269_270 := fl BK269 hg; have NB270_269 := fg BK269 hg; replace HO263 := fR HO263 hb; replace HO267 := fR HO267 hb; replace BK269 := fk BK269 hb; replace HB := fB HB hb; clear hb hbox hg; have hnb20 := NB269_270.out; have hnc20 := NB270_269.out; obtain ⟨hcz21_0, hcz21_1, hfz21_0, hfz21_1⟩ := b2 BK269; obtain ⟨Ao22, co22, eo22⟩ := Kd.R_slice HO263.out; subst eo22) | ((with_reducible refine gate_store (t := 80) (p := 7) rfl ?_); refine store_event (t := 80) (p := 7) (v := ?vo_w23) (w1 := ((w19.setCell ⟨gb269, 0, none⟩ (.bool t260)).setCell ⟨gb269, 1, none⟩ (.slice Ao22 t261.length co22))) ?hg ?ho ?hn ?hr ?_; (case ho => rfl); (case hg => rfl); (case hn => rfl); (case hr => first | (go_simp; done) | (go_simp; rfl)); intro w23 hw; have n0_ : Z0 (Kd.R (Kd.int .i64) 3 w23 w.heap.size (fun k_ => some k_ ≠ (v266 : Value).ownBlock) (.slice Ao22 t261.length co22) t261) := ⟨(by rw [hw]; exact (by (with_reducible repeat (first | apply Kd.R_alloc | apply Kd.R_drewN | apply Kd.R_drew)); exact Kd.R_mono (Kd.R_far (p := ⟨gb269, 1, none⟩) (Kd.R_far (p := ⟨gb269, 0, none⟩) (Kd.R_types HO263.out BK269.out (by decide)) (fun _ hk => hk.2) (.bool t260)) (fun _ hk => hk.2) (.slice Ao22 t261.length co22)) (fun _ hk => hk.1)))⟩; have n1_ : Z0 (Kd.R (Kd.int .i64) 3 w23 w.heap.size (fun k_ => some k_ ≠ (.slice Ao22 t261.length co22 : Value).ownBlock) v266 t265) := ⟨(by rw [hw]; exact (by (with_reducible repeat (first | apply Kd.R_alloc | apply Kd.R_drewN | apply Kd.R_drew)); exact Kd.R_mono (Kd.R_far (p := ⟨gb269, 1, none⟩) (Kd.R_far (p := ⟨gb269, 0, none⟩) (Kd.R_types HO267.out BK269.out (by decide)) (fun _ hk => hk.2) (.bool t260)) (fun _ hk => hk.2) (.slice Ao22 t261.length co22)) (fun _ hk => hk.1)))⟩; have n2_ : Z0 (w23.heap[gb269]? = some (.cells #[.bool t260, .slice Ao22 t261.length co22] 80 (0, 0))) := ⟨(by rw [hw]; exact (by (with_reducible repeat (first | refine blk_drewN ?_ _ | refine blk_drew ?_ | refine blk_alloc ?_ _)); refine blk_put (cs := #[.bool t260, .slice none 0 0]) ?_ 1 _ rfl; (with_reducible repeat (first | refine blk_drewN ?_ _ | refine blk_drew ?_ | refine blk_alloc ?_ _)); refine blk_put (cs := #[.bool false, .slice none 0 0]) ?_ 0 _ rfl; (with_reducible repeat (first | refine blk_drewN ?_ _ | refine blk_drew ?_ | refine blk_alloc ?_ _)); exact BK269.out))⟩; have n3_ : Z0 (w23.heap[gb270]? = some (.cells #[.bool false, .slice none 0 0] 80 (0, 0))) := ⟨(by rw [hw]; exact (by (with_reducible repeat (first | refine blk_drewN ?_ _ | refine blk_drew ?_ | refine blk_alloc ?_ _)); refine blk_far ?_ NB270_269.out _; (with_reducible repeat (first | refine blk_drewN ?_ _ | refine blk_drew ?_ | refine blk_alloc ?_ _)); refine blk_far ?_ NB270_269.out _; (with_reducible repeat (first | refine blk_drewN ?_ _ | refine blk_drew ?_ | refine blk_alloc ?_ _)); exact BK270.out))⟩; have n4_ : Z0 (Below w.heap.size w w23) := ⟨(by rw [hw]; exact bqs)⟩; clear hw; clear HO263; clear HO267; clear BK269; clear BK270; clear HB; have HO263 := n0_; have HO267 := n1_; have BK269 := n2_; have BK270 := n3_; have HB := n4_; clear n0_ n1_ n2_ n3_ n4_; obtain ⟨hcz24_0, hcz24_1, hfz24_0, hfz24_1⟩ := b2 BK270; obtain ⟨Ao25, co25, eo25⟩ := Kd.R_slice HO267.out; subst eo25) | ((with_reducible refine gate_store (t := 80) (p := 8) rfl ?_); refine store_event (t := 80) (p := 8) (v := ?vo_w26) (w1 := ((w23.setCell ⟨gb270, 0, none⟩ (.bool t264)).setCell ⟨gb270, 1, none⟩ (.slice Ao25 t265.length co25))) ?hg ?ho ?hn ?hr ?_; (case ho => rfl); (case hg => rfl); (case hn => rfl); (case hr => first | (go_simp; done) | (go_simp; rfl)); intro w26 hw; have n0_ : Z0 (Kd.R (Kd.int .i64) 3 w26 w.heap.size (fun k_ => some k_ ≠ (.slice Ao25 t265.length co25 : Value).ownBlock) (.slice Ao22 t261.length co22) t261) := ⟨(by rw [hw]; exact (by (with_reducible repeat (first | apply Kd.R_alloc | apply Kd.R_drewN | apply Kd.R_drew)); exact Kd.R_mono (Kd.R_far (p := ⟨gb270, 1, none⟩) (Kd.R_far (p := ⟨gb270, 0, none⟩) (Kd.R_types HO263.out BK270.out (by decide)) (fun _ hk => hk.2) (.bool t264)) (fun _ hk => hk.2) (.slice Ao25 t265.length co25)) (fun _ hk => hk.1)))⟩; have n1_ : Z0 (Kd.R (Kd.int .i64) 3 w26 w.heap.size (fun k_ => some k_ ≠ (.slice Ao22 t261.length co22 : Value).ownBlock) (.slice Ao25 t265.length co25) t265) := ⟨(by rw [hw]; exact (by (with_reducible repeat (first | apply Kd.R_alloc | apply Kd.R_drewN | apply Kd.R_drew)); exact Kd.R_mono (Kd.R_far (p := ⟨gb270, 1, none⟩) (Kd.R_far (p := ⟨gb270, 0, none⟩) (Kd.R_types HO267.out BK270.out (by decide)) (fun _ hk => hk.2) (.bool t264)) (fun _ hk => hk.2) (.slice Ao25 t265.length co25)) (fun _ hk => hk.1)))⟩; have n2_ : Z0 (w26.heap[gb269]? = some (.cells #[.bool t260, .slice Ao22 t261.length co22] 80 (0, 0))) := ⟨(by rw [hw]; exact (by (with_reducible repeat (first | refine blk_drewN ?_ _ | refine blk_drew ?_ | refine blk_alloc ?_ _)); refine blk_far ?_ NB269_270.out _; (with_reducible repeat (first | refine blk_drewN ?_ _ | refine blk_drew ?_ | refine blk_alloc ?_ _)); refine blk_far ?_ NB269_270.out _; (with_reducible repeat (first | refine blk_drewN ?_ _ | refine blk_drew ?_ | refine blk_alloc ?_ _)); exact BK269.out))⟩; have n3_ : Z0 (w26.heap[gb270]? = some (.cells #[.bool t264, .slice Ao25 t265.length co25] 80 (0, 0))) := ⟨(by rw [hw]; exact (by (with_reducible repeat (first | refine blk_drewN ?_ _ | refine blk_drew ?_ | refine blk_alloc ?_ _)); refine blk_put (cs := #[.bool t264, .slice none 0 0]) ?_ 1 _ rfl; (with_reducible repeat (first | refine blk_drewN ?_ _ | refine blk_drew ?_ | refine blk_alloc ?_ _)); refine blk_put (cs := #[.bool false, .slice none 0 0]) ?_ 0 _ rfl; (with_reducible repeat (first | refine blk_drewN ?_ _ | refine blk_drew ?_ | refine blk_alloc ?_ _)); exact BK270.out))⟩; have n4_ : Z0 (Below w.heap.size w w26) := ⟨(by rw [hw]; exact bqs)⟩; clear hw; clear HO263; clear HO267; clear BK269; clear BK270; clear HB; have HO263 := n0_; have HO267 := n1_; have BK269 := n2_; have BK270 := n3_; have HB := n4_; clear n0_ n1_ n2_ n3_ n4_; obtain ⟨hcz27_0, hcz27_1, hfz27_0, hfz27_1⟩ := b2 BK270; obtain ⟨hcz28_0, hcz28_1, hfz28_0, hfz28_1⟩ := b2 BK269) | ((with_reducible refine gc_ 58 rfl ?_); refine gL 29 Tryz.func58 (bIquotient.calls k t260 (fun k_ => some k_ = (.slice Ao22 t261.length co22 : Value).ownBlock) (.slice Ao22 t261.length co22) t261 t264 _ _ t265 t271 t272 t275 t276 w _ ?side1 ?side2 ?side3 ?side4 A14.out) ?_; (case side1 => repeat (first | (with_reducible first | exact HB.out | apply below_alloc | apply pw_below_drewN | apply below_drew1 | refine below_set ?_ GE269.out | refine below_set ?_ GE270.out) | exact HB.out)); (case side2 => exact Kd.R_tight rfl HO263.out); (case side3 => exact Kd.C_kept_own (HO267.out) (fun k_ hk_ hs_ => (hk_) hs_)); (case side4 => exact (Kd.R_reads' HO267.out).2.1); rintro _ w29 ⟨v273, v277, rfl, ho0, ho1, hb, hkp⟩; refine ⟨_, rfl, ?_⟩; have HO274 := Z0.mk (Kd.R_mono (ok' := fun k_ => some k_ ≠ (v277 : Value).ownBlock ∧ some k_ ≠ (.slice Ao25 t265.length co25 : Value).ownBlock) ho0 (fun k_ hk_ => ⟨hk_.2, Or.elim hk_.1 (fun hs_ => fun e_ => (((HO267.out).1 k_ e_.symm)) hs_) (fun hn_ => (Kd.fresh' (Kd.R_lt (rq HO267)) k_ hn_))⟩)); have HO278 := Z0.mk (Kd.R_mono (ok' := fun k_ => some k_ ≠ (v273 : Value).ownBlock ∧ some k_ ≠ (.slice Ao25 t265.length co25 : Value).ownBlock) ho1 (fun k_ hk_ => ⟨hk_.2, Or.elim hk_.1 (fun hs_ => fun e_ => (((HO267.out).1 k_ e_.symm)) hs_) (fun hn_ => (Kd.fresh' (Kd.R_lt (rq HO267)) k_ hn_))⟩)); replace HO267 := Z0.mk (Kd.R_mono (ok' := fun k_ => some k_ ≠ (v273 : Value).ownBlock ∧ some k_ ≠ (v277 : Value).ownBlock) (Kd.R_keptB (HO267.out) hkp (fun k_ hk_ hs_ => (hk_) hs_)) (fun k_ hk_ => ⟨fun e_ => Or.elim (ho0.1 k_ e_.symm).1 (fun hs_ => hk_.2.1 hs_) (fun hn_ => Nat.not_le.2 hk_.2.2 hn_), fun e_ => Or.elim (ho1.1 k_ e_.symm).1 (fun hs_ => hk_.2.1 hs_) (fun hn_ => Nat.not_le.2 hk_.2.2 hn_)⟩)); replace BK269 := Z0.mk (blk_kept (hq BK269) hkp (fun hs_ => (fun e_ => (Kd.R_ne HO263.out BK269.out (by decide)) e_) hs_)); replace BK270 := Z0.mk (blk_kept (hq BK270) hkp (fun hs_ => (fun e_ => (Kd.R_ne HO263.out BK270.out (by decide)) e_) hs_)); replace HB := Z0.mk (hb); clear HO263; clear hb hkp ho0 ho1) | ((with_reducible refine gd_ 10 rfl ?_); refine bxE 10 #[.bool false, .slice none 0 0] 80 ?_; intro gb279 hg w30 hbox hb; have BK279 := Z0.mk hbox; have GW279 := fE HB hg; have GE279 := fE HB hg; have NB269_279 := fl BK269 hg; have NB279_269 := fg BK269 hg; have NB270_279 := fl BK270 hg; have NB279_270 := fg BK270 hg; replace HO267 := fR HO267 hb; replace HO274 := fR HO274 hb; replace HO278 := fR HO278 hb; replace BK269 := fk BK269 hb; replace BK270 := fk BK270 hb; replace HB := fB HB hb; clear hb hbox hg) | ((with_reducible refine gd_ 11 rfl ?_); refine bxE 11 #[.bool false, .slice none 0 0] 80 ?_; intro gb280 hg w31 hbox hb; have BK280 := Z0.mk hbox; have GW280 := fE HB hg; have GE280 := fE HB hg; have NB269_280 := fl BK269 hg; have NB280_269 := fg BK269 hg; have NB270_280 := fl BK270 hg; have NB280_270 := fg BK270 hg; have NB279_280 := fl BK279 hg; have NB280_279 := fg BK279 hg; replace HO267 := fR HO267 hb; replace HO274 := fR HO274 hb; replace HO278 := fR HO278 hb; replace BK269 := fk BK269 hb; replace BK270 := fk BK270 hb; replace BK279 := fk BK279 hb; replace HB := fB HB hb; clear hb hbox hg; have hnb32 := NB279_269.out; have hnc32 := NB269_279.out; have hnb33 := NB279_270.out; have hnc33 := NB270_279.out; have hnb34 := NB279_280.out; have hnc34 := NB280_279.out; obtain ⟨hcz35_0, hcz35_1, hfz35_0, hfz35_1⟩ := b2 BK279; obtain ⟨Ao36, co36, eo36⟩ := Kd.R_slice HO274.out; subst eo36; have hnb37 := NB280_269.out; have hnc37 := NB269_280.out; have hnb38 := NB280_270.out; have hnc38 := NB270_280.out; obtain ⟨hcz39_0, hcz39_1, hfz39_0, hfz39_1⟩ := b2 BK280; obtain ⟨Ao40, co40, eo40⟩ := Kd.R_slice HO278.out; subst eo40))
  have n0_ : Z0 (Kd.R (Kd.int .i64) 3 ((((w31.setCell ⟨gb279, 0, none⟩ (.bool t271)).setCell ⟨gb279, 1, none⟩ (.slice Ao36 t272.length co36)).setCell ⟨gb280, 0, none⟩ (.bool t275)).setCell ⟨gb280, 1, none⟩ (.slice Ao40 t276.length co40)) w.heap.size (fun k_ => some k_ ≠ (.slice Ao36 t272.length co36 : Value).ownBlock ∧ some k_ ≠ (.slice Ao40 t276.length co40 : Value).ownBlock) (.slice Ao25 t265.length co25) t265) := ⟨by (with_reducible repeat (first | apply Kd.R_alloc | apply Kd.R_drewN | apply Kd.R_drew)); exact Kd.R_mono (Kd.R_far (p := ⟨gb280, 1, none⟩) (Kd.R_far (p := ⟨gb280, 0, none⟩) (Kd.R_far (p := ⟨gb279, 1, none⟩) (Kd.R_far (p := ⟨gb279, 0, none⟩) (Kd.R_types (Kd.R_types HO267.out BK279.out (by decide)) BK280.out (by decide)) (fun _ hk => hk.1.2) (.bool t271)) (fun _ hk => hk.1.2) (.slice Ao36 t272.length co36)) (fun _ hk => hk.2) (.bool t275)) (fun _ hk => hk.2) (.slice Ao40 t276.length co40)) (fun _ hk => ⟨hk.1.1.1, hk.1.1.2⟩)⟩
  have n1_ : Z0 (Kd.R (Kd.int .i64) 3 ((((w31.setCell ⟨gb279, 0, none⟩ (.bool t271)).setCell ⟨gb279, 1, none⟩ (.slice Ao36 t272.length co36)).setCell ⟨gb280, 0, none⟩ (.bool t275)).setCell ⟨gb280, 1, none⟩ (.slice Ao40 t276.length co40)) w.heap.size (fun k_ => some k_ ≠ (.slice Ao25 t265.length co25 : Value).ownBlock ∧ some k_ ≠ (.slice Ao40 t276.length co40 : Value).ownBlock) (.slice Ao36 t272.length co36) t272) := ⟨by (with_reducible repeat (first | apply Kd.R_alloc | apply Kd.R_drewN | apply Kd.R_drew)); exact Kd.R_mono (Kd.R_far (p := ⟨gb280, 1, none⟩) (Kd.R_far (p := ⟨gb280, 0, none⟩) (Kd.R_far (p := ⟨gb279, 1, none⟩) (Kd.R_far (p := ⟨gb279, 0, none⟩) (Kd.R_types (Kd.R_types HO274.out BK279.out (by decide)) BK280.out (by decide)) (fun _ hk => hk.1.2) (.bool t271)) (fun _ hk => hk.1.2) (.slice Ao36 t272.length co36)) (fun _ hk => hk.2) (.bool t275)) (fun _ hk => hk.2) (.slice Ao40 t276.length co40)) (fun _ hk => ⟨hk.1.1.2, hk.1.1.1⟩)⟩
  have n2_ : Z0 (Kd.R (Kd.int .i64) 3 ((((w31.setCell ⟨gb279, 0, none⟩ (.bool t271)).setCell ⟨gb279, 1, none⟩ (.slice Ao36 t272.length co36)).setCell ⟨gb280, 0, none⟩ (.bool t275)).setCell ⟨gb280, 1, none⟩ (.slice Ao40 t276.length co40)) w.heap.size (fun k_ => some k_ ≠ (.slice Ao25 t265.length co25 : Value).ownBlock ∧ some k_ ≠ (.slice Ao36 t272.length co36 : Value).ownBlock) (.slice Ao40 t276.length co40) t276) := ⟨by (with_reducible repeat (first | apply Kd.R_alloc | apply Kd.R_drewN | apply Kd.R_drew)); exact Kd.R_mono (Kd.R_far (p := ⟨gb280, 1, none⟩) (Kd.R_far (p := ⟨gb280, 0, none⟩) (Kd.R_far (p := ⟨gb279, 1, none⟩) (Kd.R_far (p := ⟨gb279, 0, none⟩) (Kd.R_types (Kd.R_types HO278.out BK279.out (by decide)) BK280.out (by decide)) (fun _ hk => hk.1.2) (.bool t271)) (fun _ hk => hk.1.2) (.slice Ao36 t272.length co36)) (fun _ hk => hk.2) (.bool t275)) (fun _ hk => hk.2) (.slice Ao40 t276.length co40)) (fun _ hk => ⟨hk.1.1.2, hk.1.1.1⟩)⟩
  have n3_ : Z0 (((((w31.setCell ⟨gb279, 0, none⟩ (.bool t271)).setCell ⟨gb279, 1, none⟩ (.slice Ao36 t272.length co36)).setCell ⟨gb280, 0, none⟩ (.bool t275)).setCell ⟨gb280, 1, none⟩ (.slice Ao40 t276.length co40)).heap[gb269]? = some (.cells #[.bool t260, .slice Ao22 t261.length co22] 80 (0, 0))) := ⟨by (with_reducible repeat (first | refine blk_drewN ?_ _ | refine blk_drew ?_ | refine blk_alloc ?_ _)); refine blk_far ?_ NB269_280.out _; (with_reducible repeat (first | refine blk_drewN ?_ _ | refine blk_drew ?_ | refine blk_alloc ?_ _)); refine blk_far ?_ NB269_280.out _; (with_reducible repeat (first | refine blk_drewN ?_ _ | refine blk_drew ?_ | refine blk_alloc ?_ _)); refine blk_far ?_ NB269_279.out _; (with_reducible repeat (first | refine blk_drewN ?_ _ | refine blk_drew ?_ | refine blk_alloc ?_ _)); refine blk_far ?_ NB269_279.out _; (with_reducible repeat (first | refine blk_drewN ?_ _ | refine blk_drew ?_ | refine blk_alloc ?_ _)); exact BK269.out⟩
  have n4_ : Z0 (((((w31.setCell ⟨gb279, 0, none⟩ (.bool t271)).setCell ⟨gb279, 1, none⟩ (.slice Ao36 t272.length co36)).setCell ⟨gb280, 0, none⟩ (.bool t275)).setCell ⟨gb280, 1, none⟩ (.slice Ao40 t276.length co40)).heap[gb270]? = some (.cells #[.bool t264, .slice Ao25 t265.length co25] 80 (0, 0))) := ⟨by (with_reducible repeat (first | refine blk_drewN ?_ _ | refine blk_drew ?_ | refine blk_alloc ?_ _)); refine blk_far ?_ NB270_280.out _; (with_reducible repeat (first | refine blk_drewN ?_ _ | refine blk_drew ?_ | refine blk_alloc ?_ _)); refine blk_far ?_ NB270_280.out _; (with_reducible repeat (first | refine blk_drewN ?_ _ | refine blk_drew ?_ | refine blk_alloc ?_ _)); refine blk_far ?_ NB270_279.out _; (with_reducible repeat (first | refine blk_drewN ?_ _ | refine blk_drew ?_ | refine blk_alloc ?_ _)); refine blk_far ?_ NB270_279.out _; (with_reducible repeat (first | refine blk_drewN ?_ _ | refine blk_drew ?_ | refine blk_alloc ?_ _)); exact BK270.out⟩
  have n5_ : Z0 (((((w31.setCell ⟨gb279, 0, none⟩ (.bool t271)).setCell ⟨gb279, 1, none⟩ (.slice Ao36 t272.length co36)).setCell ⟨gb280, 0, none⟩ (.bool t275)).setCell ⟨gb280, 1, none⟩ (.slice Ao40 t276.length co40)).heap[gb279]? = some (.cells #[.bool t271, .slice Ao36 t272.length co36] 80 (0, 0))) := ⟨by (with_reducible repeat (first | refine blk_drewN ?_ _ | refine blk_drew ?_ | refine blk_alloc ?_ _)); refine blk_far ?_ NB279_280.out _; (with_reducible repeat (first | refine blk_drewN ?_ _ | refine blk_drew ?_ | refine blk_alloc ?_ _)); refine blk_far ?_ NB279_280.out _; (with_reducible repeat (first | refine blk_drewN ?_ _ | refine blk_drew ?_ | refine blk_alloc ?_ _)); refine blk_put (cs := #[.bool t271, .slice none 0 0]) ?_ 1 _ rfl; (with_reducible repeat (first | refine blk_drewN ?_ _ | refine blk_drew ?_ | refine blk_alloc ?_ _)); refine blk_put (cs := #[.bool false, .slice none 0 0]) ?_ 0 _ rfl; (with_reducible repeat (first | refine blk_drewN ?_ _ | refine blk_drew ?_ | refine blk_alloc ?_ _)); exact BK279.out⟩
  have n6_ : Z0 (((((w31.setCell ⟨gb279, 0, none⟩ (.bool t271)).setCell ⟨gb279, 1, none⟩ (.slice Ao36 t272.length co36)).setCell ⟨gb280, 0, none⟩ (.bool t275)).setCell ⟨gb280, 1, none⟩ (.slice Ao40 t276.length co40)).heap[gb280]? = some (.cells #[.bool t275, .slice Ao40 t276.length co40] 80 (0, 0))) := ⟨by (with_reducible repeat (first | refine blk_drewN ?_ _ | refine blk_drew ?_ | refine blk_alloc ?_ _)); refine blk_put (cs := #[.bool t275, .slice none 0 0]) ?_ 1 _ rfl; (with_reducible repeat (first | refine blk_drewN ?_ _ | refine blk_drew ?_ | refine blk_alloc ?_ _)); refine blk_put (cs := #[.bool false, .slice none 0 0]) ?_ 0 _ rfl; (with_reducible repeat (first | refine blk_drewN ?_ _ | refine blk_drew ?_ | refine blk_alloc ?_ _)); refine blk_far ?_ NB280_279.out _; (with_reducible repeat (first | refine blk_drewN ?_ _ | refine blk_drew ?_ | refine blk_alloc ?_ _)); refine blk_far ?_ NB280_279.out _; (with_reducible repeat (first | refine blk_drewN ?_ _ | refine blk_drew ?_ | refine blk_alloc ?_ _)); exact BK280.out⟩
  have n7_ : Z0 (Below w.heap.size w ((((w31.setCell ⟨gb279, 0, none⟩ (.bool t271)).setCell ⟨gb279, 1, none⟩ (.slice Ao36 t272.length co36)).setCell ⟨gb280, 0, none⟩ (.bool t275)).setCell ⟨gb280, 1, none⟩ (.slice Ao40 t276.length co40))) := ⟨bqs⟩
  (try clear HO267)
  (try clear HO274)
  (try clear HO278)
  (try clear BK269)
  (try clear BK270)
  (try clear BK279)
  (try clear BK280)
  (try clear HB)
  generalize ((((w31.setCell ⟨gb279, 0, none⟩ (.bool t271)).setCell ⟨gb279, 1, none⟩ (.slice Ao36 t272.length co36)).setCell ⟨gb280, 0, none⟩ (.bool t275)).setCell ⟨gb280, 1, none⟩ (.slice Ao40 t276.length co40)) = w41 at n0_ n1_ n2_ n3_ n4_ n5_ n6_ n7_ ⊢
  have HO267 := n0_
  have HO274 := n1_
  have HO278 := n2_
  have BK269 := n3_
  have BK270 := n4_
  have BK279 := n5_
  have BK280 := n6_
  have HB := n7_
  clear n0_ n1_ n2_ n3_ n4_ n5_ n6_ n7_
  replace HO267 := Z0.mk (Kd.R_drew HO267.out)
  replace HO274 := Z0.mk (Kd.R_drew HO274.out)
  replace HO278 := Z0.mk (Kd.R_drew HO278.out)
  replace BK269 := Z0.mk (blk_drew BK269.out)
  replace BK270 := Z0.mk (blk_drew BK270.out)
  replace BK279 := Z0.mk (blk_drew BK279.out)
  replace BK280 := Z0.mk (blk_drew BK280.out)
  replace HB := Z0.mk (below_drew1 HB.out)
  refine start_ (n := 7) (S := fun w' => w'.cell? ⟨gb279, 0, none⟩ = some (.bool t271) ∧ w'.cell? ⟨gb279, 1, none⟩ = some (.slice Ao36 t272.length co36) ∧ w'.cell? ⟨gb280, 0, none⟩ = some (.bool t275) ∧ w'.cell? ⟨gb280, 1, none⟩ = some (.slice Ao40 t276.length co40)) (ds := []) #[false, false, false, false, false, false, false] (by kernel_rfl) rfl rfl ⟨(blk_cell BK279.out 0).trans rfl, (blk_cell BK279.out 1).trans rfl, (blk_cell BK280.out 0).trans rfl, (blk_cell BK280.out 1).trans rfl⟩ (fun hHeld => ?_)
  generalize w41.drew = w42 at HO267 HO274 HO278 BK269 BK270 BK279 BK280 HB hHeld ⊢
  refine take_ (i := 0) (N := some 32) (v := ?_) (a' := ?_) #[true, false, false, false, false, false, false] rfl rfl (by kernel_rfl) (fun _ _ _ h => h) (Or.inl ⟨by rfl, ?_⟩) hHeld ?_ ?_
  rotate_left
  ·rintro w' ⟨s0, s1, s2, s3⟩
   go_simp
   with_reducible rfl
  rotate_left
  ·simp only [Act.put, List.setIfInBounds_toArray, List.set_cons_zero, List.set_cons_succ, i64_w, i32_w]
   rfl
  refine take_ (i := 2) (N := some 34) (v := ?_) (a' := ?_) #[true, false, true, false, false, false, false] rfl rfl (by kernel_rfl) (fun _ _ _ h => h) (Or.inl ⟨by rfl, ?_⟩) hHeld ?_ ?_
  rotate_left
  ·rintro w' ⟨s0, s1, s2, s3⟩
   go_simp
   with_reducible rfl
  rotate_left
  ·simp only [Act.put, List.setIfInBounds_toArray, List.set_cons_zero, List.set_cons_succ, i64_w, i32_w]
   rfl
  refine one_ (i := 1) (N := some 33) #[true, true, true, false, false, false, false] rfl rfl (by kernel_rfl) (by decide) (fun K hK => ?_)
  refine goes_ Tryz.func56 (by kernel_rfl) rfl #[.agg #[.bool t271, .slice Ao36 t272.length co36]] (by rfl) rfl rfl (by (try simp only [List.map_toArray, List.map_cons, List.map_nil]); first | done | rfl | (simp only [List.length_drop, List.length_take]; rfl)) ?_
  with_reducible refine (bInumber_text.calls t271 _ _ t272 t281 _ ?side3 ?side1 ?side2 A15.out).mono ?_
  (case side1 => exact cq (Kd.R_reads' HO274.out).2.2)
  (case side2 => exact (Kd.R_reads' HO274.out).2.1)
  (case side3 => exact LaidW.below hL bqs)
  rintro e w43 ⟨rfl, hb⟩
  refine ⟨_, rfl, ?_⟩
  replace HO267 := fR HO267 hb
  replace HO274 := fR HO274 hb
  replace HO278 := fR HO278 hb
  replace BK269 := fk BK269 hb
  replace BK270 := fk BK270 hb
  replace BK279 := fk BK279 hb
  replace BK280 := fk BK280 hb
  replace HB := fB HB hb
  (try clear hb)
  (try clear hb2)
  (try clear hk)
  (try clear hi)
  refine hK.out _ _ ⟨(blk_cell BK279.out 0).trans rfl, (blk_cell BK279.out 1).trans rfl, (blk_cell BK280.out 0).trans rfl, (blk_cell BK280.out 1).trans rfl⟩ (fun hHeld => ?_)
  clear hK K
  refine norm_ (a' := ?_) ?_ ?_
  rotate_left
  ·show Act.put _ (some 33) _ = _
   simp only [Act.put, List.setIfInBounds_toArray, List.set_cons_zero, List.set_cons_succ, i64_w, i32_w]
   rfl
  refine one_ (i := 3) (N := some 35) #[true, true, true, true, false, false, false] rfl rfl (by kernel_rfl) (by decide) (fun K hK => ?_)
  refine goes_ Tryz.func56 (by kernel_rfl) rfl #[.agg #[.bool t275, .slice Ao40 t276.length co40]] (by rfl) rfl rfl (by (try simp only [List.map_toArray, List.map_cons, List.map_nil]); first | done | rfl | (simp only [List.length_drop, List.length_take]; rfl)) ?_
  with_reducible refine (bInumber_text.calls t275 _ _ t276 t282 _ ?side3 ?side1 ?side2 A16.out).mono ?_
  (case side1 => exact cq (Kd.R_reads' HO278.out).2.2)
  (case side2 => exact (Kd.R_reads' HO278.out).2.1)
  (case side3 => exact LaidW.below hL bqs)
  rintro e w44 ⟨rfl, hb⟩
  refine ⟨_, rfl, ?_⟩
  replace HO267 := fR HO267 hb
  replace HO274 := fR HO274 hb
  replace HO278 := fR HO278 hb
  replace BK269 := fk BK269 hb
  replace BK270 := fk BK270 hb
  replace BK279 := fk BK279 hb
  replace BK280 := fk BK280 hb
  replace HB := fB HB hb
  (try clear hb)
  (try clear hb2)
  (try clear hk)
  (try clear hi)
  refine hK.out _ _ ⟨(blk_cell BK279.out 0).trans rfl, (blk_cell BK279.out 1).trans rfl, (blk_cell BK280.out 0).trans rfl, (blk_cell BK280.out 1).trans rfl⟩ (fun hHeld => ?_)
  clear hK K
  refine norm_ (a' := ?_) ?_ ?_
  rotate_left
  ·show Act.put _ (some 35) _ = _
   simp only [Act.put, List.setIfInBounds_toArray, List.set_cons_zero, List.set_cons_succ, i64_w, i32_w]
   rfl
  refine pure_ (i := 4) (N := some 4) (v := ?_) (a' := ?_) #[true, true, true, true, true, false, false] rfl rfl (by kernel_rfl) (fun _ _ _ h => h) (Or.inl ⟨by rfl, ?_⟩) ?_ ?_
  rotate_left
  ·intro w'
   go_simp
   with_reducible rfl
  rotate_left
  ·simp only [Act.put, List.setIfInBounds_toArray, List.set_cons_zero, List.set_cons_succ, i64_w, i32_w]
   rfl
  refine pure_ (i := 5) (N := some 5) (v := ?_) (a' := ?_) #[true, true, true, true, true, true, false] rfl rfl (by kernel_rfl) (fun _ _ _ h => h) (Or.inl ⟨by rfl, ?_⟩) ?_ ?_
  rotate_left
  ·intro w'
   go_simp
   with_reducible rfl
  rotate_left
  ·simp only [Act.put, List.setIfInBounds_toArray, List.set_cons_zero, List.set_cons_succ, i64_w, i32_w]
   rfl
  refine pure_ (i := 6) (N := some 6) (v := ?_) (a' := ?_) #[true, true, true, true, true, true, true] rfl rfl (by kernel_rfl) (fun _ _ _ h => h) (Or.inl ⟨by rfl, ?_⟩) ?_ ?_
  rotate_left
  ·intro w'
   go_simp
   with_reducible rfl
  rotate_left
  ·simp only [Act.put, List.setIfInBounds_toArray, List.set_cons_zero, List.set_cons_succ, i64_w, i32_w]
   rfl
  refine done_ (by kernel_rfl) ?_
  try go_wp2
  go_ret3
  exact finE
 simp only [Option.some.injEq, Prod.mk.injEq] at H
 obtain ⟨rfl, rfl, rfl⟩ := H
 go_enter Tryz.func69, Tryz.ntmps69
 go_wp2_with (first | ((with_reducible refine gc_ 54 rfl ?_); refine gL 15 Tryz.func54 (bIpair.calls _ _ _ _ _ _ _ _ _ A3.out) ?_; rintro _ w45 ⟨v262, v266, rfl, ho0, ho1, hb⟩; refine ⟨_, rfl, ?_⟩; have HO263 := fN ho0; have HO267 := fN ho1; replace HB := fB HB hb; clear hb ho0 ho1) | ((with_reducible refine gd_ 7 rfl ?_); refine bxE 7 #[.bool false, .slice none 0 0] 80 ?_; intro gb269 hg w46 hbox hb; have BK269 := Z0.mk hbox; have GW269 := fE HB hg; have GE269 := fE HB hg; replace HO263 := fR HO263 hb; replace HO267 := fR HO267 hb; replace HB := fB HB hb; clear hb hbox hg) | ((with_reducible refine gd_ 8 rfl ?_); refine bxE 8 #[.bool false, .slice none 0 0] 80 ?_; intro gb270 hg w47 hbox hb; have BK270 := Z0.mk hbox; have GW270 := fE HB hg; have GE270 := fE HB hg; have NB269_270 := fl BK269 hg; have NB270_269 := fg BK269 hg; replace HO263 := fR HO263 hb; replace HO267 := fR HO267 hb; replace BK269 := fk BK269 hb; replace HB := fB HB hb; clear hb hbox hg; have hnb48 := NB269_270.out; have hnc48 := NB270_269.out; obtain ⟨hcz49_0, hcz49_1, hfz49_0, hfz49_1⟩ := b2 BK269; obtain ⟨Ao50, co50, eo50⟩ := Kd.R_slice HO263.out; subst eo50; obtain ⟨hcz51_0, hcz51_1, hfz51_0, hfz51_1⟩ := b2 BK270; obtain ⟨Ao52, co52, eo52⟩ := Kd.R_slice HO267.out; subst eo52))
 go_ret3
 exact finE
theorem bIQuo.calls (k : Nat) (a0 : ByteArray) (a1 : ByteArray) (r1 : ByteArray) (r2 : Int) (w : World) (hL : LaidW w) (h : bIQuo.f k a0 a1 = some (r1, r2)) :
  Calls Tryz.prog 24 #[.string a0, .string a1] w fun e w' => e = .returned (.tuple #[.string r1, .int .i64 r2]) ∧ Below w.heap.size w w' := by
 have HB := Z0.mk (Below.refl w.heap.size w)
 have H := h
 clear h
 unfold bIQuo.f at H
 obtain ⟨⟨t283, t284, t285⟩, A3, H⟩ := bnd H
 try dsimp only at H
 simp only [Option.some.injEq, Prod.mk.injEq] at H
 obtain ⟨rfl, rfl⟩ := H
 go_enter Tryz.func24, Tryz.ntmps24
 go_wp2_with (first | ((with_reducible refine gc_ 69 rfl ?_); refine goB (some 12) Tryz.func69 #[.string a0, .string a1] bq (bIdivided.calls k a0 a1 t283 t284 t285 _ (hL.below bq) A3.out) ?_; clear HB; intro w4 HB))
 go_ret2
 exact finE
theorem bISign.calls (k : Nat) (a0 : ByteArray) (r1 : Int) (r2 : Int) (w : World) (h : bISign.f k a0 = some (r1, r2)) :
  Calls Tryz.prog 26 #[.string a0] w fun e w' => e = .returned (.tuple #[.int .i64 r1, .int .i64 r2]) ∧ Below w.heap.size w w' := by
 have HB := Z0.mk (Below.refl w.heap.size w)
 have H := h
 clear h
 unfold bISign.f at H
 obtain ⟨⟨t350, t351⟩, A2, H⟩ := bnd H
 try dsimp only at H
 simp only [Option.some.injEq, Prod.mk.injEq] at H
 obtain ⟨rfl, rfl⟩ := H
 go_enter Tryz.func26, Tryz.ntmps26
 go_wp2_with (first | ((with_reducible refine gc_ 27 rfl ?_); refine goB (some 5) Tryz.func27 #[.string a0, .string (⟨#[48]⟩ : ByteArray)] bq (bICompare.calls k a0 (⟨#[48]⟩ : ByteArray) t350 t351 _ A2.out) ?_; clear HB; intro w3 HB))
 go_ret2
 exact finE
theorem rAwhole.calls (k : Nat) (a0 : ByteArray) (a1 : ByteArray) (r1 : ByteArray) (r2 : Int) (w : World) (hL : LaidW w) (h : rAwhole.f k a0 a1 = some (r1, r2)) :
  Calls Tryz.prog 71 #[.string a0, .string a1] w fun e w' => e = .returned (.tuple #[.string r1, .int .i64 r2]) ∧ Below w.heap.size w w' := by
 have HB := Z0.mk (Below.refl w.heap.size w)
 have H := h
 clear h
 unfold rAwhole.f at H
 obtain ⟨⟨t352, t353⟩, A3, H⟩ := bnd H
 try dsimp only at H
 rcases je H with ⟨-, c4b0, c4b1, H⟩ | ⟨c4, c4b0, c4b1, H⟩
 ·obtain ⟨⟨t354, t355⟩, A5, H⟩ := bnd H
  try dsimp only at H
  have HC6 := Z0.mk H
  clear H
  go_enter Tryz.func71, Tryz.ntmps71
  go_upto_if 27 with (first | ((with_reducible refine gc_ 19 rfl ?_); refine goB (some 15) Tryz.func19 #[.string a0, .string a1] bq (bIGcd.calls k a0 a1 t352 t353 _ (hL.below bq) A3.out) ?_; clear HB; intro w7 HB) | ((with_reducible refine gc_ 26 rfl ?_); refine goB (some 23) Tryz.func26 #[.string a1] bq (bISign.calls k a1 t354 t355 _ A5.out) ?_; clear HB; intro w8 HB))
  (try simp only [Act.put, List.setIfInBounds_toArray, List.set_cons_zero, List.set_cons_succ])
  go_cut [6] (fun v6 wc => ∃ (kq : Nat) (x6_5 : ByteArray), v6 = .string x6_5 ∧ Z0 (rAwhole.j0 kq a0 a1 x6_5 = some (r1, r2)) ∧ Z0 (kq ≤ k) ∧ Z0 (Below w.heap.size w wc))
  case first =>
   have H := HC6.out
   clear HC6
   rcases jd H with ⟨-, c9b0, H⟩ | ⟨-, c9b0, H⟩
   ·(first | rw [c9b0] | (simp only [i64_w, i32_w]; rw [c9b0]) | skip)
    obtain ⟨⟨t356, t357⟩, A10, H⟩ := bnd H
    try dsimp only at H
    have H' := Z0.mk H
    clear H
    go_wp2_with (first | ((with_reducible refine gc_ 89 rfl ?_); refine goB (some 30) Tryz.func89 #[.string t352] bq (bINeg.calls k t352 t356 t357 _ (hL.below bq) A10.out) ?_; clear HB; intro w11 HB))
    go_meet
    case rel => exact ⟨_, (t356), fs, H', ⟨by first | omega | exact Nat.le_refl _⟩, ⟨bqs⟩⟩
   (first | rw [c9b0] | (simp only [i64_w, i32_w]; rw [c9b0]) | skip)
   have H' := Z0.mk H
   clear H
   go_wp2
   go_meet
   case rel => exact ⟨_, (t352), fs, H', ⟨by first | omega | exact Nat.le_refl _⟩, ⟨bqs⟩⟩
  case rest =>
   clear HC6
   try clear p2
   try clear c3
   try clear c4
   try clear c4b0
   try clear c4b1
   try clear c8
   try clear c9
   try clear c9b0
   obtain ⟨kq, x6_5, rfl, HA, HJ5, HB⟩ := hcut
   cases kq with
   | zero => exact absurd HA.out (by simp [rAwhole.j0])
   | succ kj5 =>
    have H := HA.out
    clear HA
    simp only [rAwhole.j0] at H
    obtain ⟨⟨t358, t359⟩, A12, H⟩ := bnd H
    try dsimp only at H
    rcases je H with ⟨-, c13b0, c13b1, H⟩ | ⟨c13, c13b0, c13b1, H⟩
    ·obtain ⟨⟨t360, t361⟩, A14, H⟩ := bnd H
     try dsimp only at H
     rcases je H with ⟨-, c15b0, c15b1, H⟩ | ⟨c15, c15b0, c15b1, H⟩
     ·rcases je H with ⟨-, c16b0, c16b1, H⟩ | ⟨c16, c16b0, c16b1, H⟩
      ·simp only [Option.some.injEq, Prod.mk.injEq] at H
       obtain ⟨rfl, rfl⟩ := H
       go_wp2_with (first | ((with_reducible refine gc_ 24 rfl ?_); refine goB (some 36) Tryz.func24 #[.string a0, .string x6_5] bq (bIQuo.calls kj5 a0 x6_5 t358 t359 _ (hL.below bq) A12.out) ?_; clear HB; intro w17 HB) | ((with_reducible refine gc_ 24 rfl ?_); refine goB (some 45) Tryz.func24 #[.string a1, .string x6_5] bq (bIQuo.calls kj5 a1 x6_5 t360 t361 _ (hL.below bq) A14.out) ?_; clear HB; intro w18 HB))
       go_ret2
       exact finE
      obtain ⟨c19, c19b0, c19b1, H⟩ := gt H
      try have c19b2 : (9223372036854775807 < t358.size + 1) = False := eq_false (Nat.not_lt.2 c19)
      obtain ⟨c20, c20b0, c20b1, H⟩ := gt H
      try have c20b2 : (9223372036854775807 < (t358 ++ (⟨#[47]⟩ : ByteArray)).size + t360.size) = False := eq_false (Nat.not_lt.2 c20)
      simp only [Option.some.injEq, Prod.mk.injEq] at H
      obtain ⟨rfl, rfl⟩ := H
      go_wp2_with (first | ((with_reducible refine gc_ 24 rfl ?_); refine goB (some 36) Tryz.func24 #[.string a0, .string x6_5] bq (bIQuo.calls kj5 a0 x6_5 t358 t359 _ (hL.below bq) A12.out) ?_; clear HB; intro w21 HB) | ((with_reducible refine gc_ 24 rfl ?_); refine goB (some 45) Tryz.func24 #[.string a1, .string x6_5] bq (bIQuo.calls kj5 a1 x6_5 t360 t361 _ (hL.below bq) A14.out) ?_; clear HB; intro w22 HB))
      go_ret2
      exact finE
     simp only [Option.some.injEq, Prod.mk.injEq] at H
     obtain ⟨rfl, rfl⟩ := H
     go_wp2_with (first | ((with_reducible refine gc_ 24 rfl ?_); refine goB (some 36) Tryz.func24 #[.string a0, .string x6_5] bq (bIQuo.calls kj5 a0 x6_5 t358 t359 _ (hL.below bq) A12.out) ?_; clear HB; intro w23 HB) | ((with_reducible refine gc_ 24 rfl ?_); refine goB (some 45) Tryz.func24 #[.string a1, .string x6_5] bq (bIQuo.calls kj5 a1 x6_5 t360 t361 _ (hL.below bq) A14.out) ?_; clear HB; intro w24 HB))
     go_ret2
     exact finE
    simp only [Option.some.injEq, Prod.mk.injEq] at H
    obtain ⟨rfl, rfl⟩ := H
    go_wp2_with (first | ((with_reducible refine gc_ 24 rfl ?_); refine goB (some 36) Tryz.func24 #[.string a0, .string x6_5] bq (bIQuo.calls kj5 a0 x6_5 t358 t359 _ (hL.below bq) A12.out) ?_; clear HB; intro w25 HB))
    go_ret2
    exact finE
 simp only [Option.some.injEq, Prod.mk.injEq] at H
 obtain ⟨rfl, rfl⟩ := H
 go_enter Tryz.func71, Tryz.ntmps71
 go_wp2_with (first | ((with_reducible refine gc_ 19 rfl ?_); refine goB (some 15) Tryz.func19 #[.string a0, .string a1] bq (bIGcd.calls k a0 a1 t352 t353 _ (hL.below bq) A3.out) ?_; clear HB; intro w26 HB))
 go_ret2
 exact finE
end Go.Proofs.YtinpcbjjnlpblaaGreatDoor.PA
