import Derived.Test.YthnfajboebaajaaGreatDoorAG1
import Derived.Test.YthnfajboebaajaaGreatDoorAD
import Derived.Test.YthnfajboebaajaaGreatDoorAG3
import Derived.Test.YthnfajboebaajaaGreatDoorAG2
import Derived.OrdersIn
import Derived.OrdersHeld
import Derived.Deep.RegionHeld3
import Derived.OwnWalkIn
set_option maxHeartbeats 8000000
set_option maxRecDepth 100000
set_option linter.unusedVariables false
namespace Go.Proofs.YthnfajboebaajaaGreatDoor.PA
set_option linter.unusedVariables false
open Go.RowKit Go.Proofs.WWords Go.Proofs.WLast Go.Proofs.WMore
attribute [local go_sem] max2_int min2_int max_two min_two max_three min_three max_four min_four
set_option linter.unusedSimpArgs false
def bISub.T4 : Bool × List (List Nat × List Nat) := (true, [([], []), ([], []), ([1], [1]), ([0, 2, 2], [0, 2]), ([3, 3], [3]), ([4], [4]), ([4], [4]), ([5, 4, 0, 1, 2, 3, 4, 5, 6], [5]), ([6, 7, 0, 1, 2, 3, 4, 5, 6, 7], [6])])
def bISub.B4 : List Nat := [0, 0, 2, 7, 15, 31, 31, 127, 255]
theorem bISub.tab4 : rtab .any (opsOf Tryz.f33 4) = bISub.T4 := by kernel_rfl
theorem bISub.bits4 : waitsOk bISub.T4.2 bISub.B4 = true := by kernel_rfl
theorem bISub.calls (k : Nat) (a0 : ByteArray) (a1 : ByteArray) (r1 : ByteArray) (r2 : Int) (w : World) (hL : LaidW w) (h : bISub.f k a0 a1 = some (r1, r2)) :
  Calls Tryz.prog 33 #[.string a0, .string a1] w fun e w' => e = .returned (.tuple #[.string r1, .int .i64 r2]) ∧ Below w.heap.size w w' := by
 have hu88 := Tryz.underlying88
 have HB := Z0.mk (Below.refl w.heap.size w)
 have H := h
 clear h
 unfold bISub.f at H
 obtain ⟨⟨t300, t301, t304, t305, t308⟩, A3, H⟩ := bnd H
 try dsimp only at H
 rcases je H with ⟨-, c4b0, c4b1, H⟩ | ⟨c4, c4b0, c4b1, H⟩
 ·obtain ⟨⟨t311, t312⟩, A5, H⟩ := bnd H
  try dsimp only at H
  obtain ⟨⟨t315, t316⟩, A6, H⟩ := bnd H
  try dsimp only at H
  obtain ⟨⟨t319, t320⟩, A7, H⟩ := bnd H
  try dsimp only at H
  simp only [Option.some.injEq, Prod.mk.injEq] at H
  obtain ⟨rfl, rfl⟩ := H
  go_enter Tryz.func33, Tryz.ntmps33
  try go_wp2_with (first | ((with_reducible refine gc_ 86 rfl ?_); refine gL 12 Tryz.func86 (bIpair.calls _ _ _ _ _ _ _ _ _ A3.out) ?_; rintro _ w8 ⟨v302, v306, rfl, ho0, ho1, hb⟩; refine ⟨_, rfl, ?_⟩; have HO303 := fN ho0; have HO307 := fN ho1; replace HB := fB HB hb; clear hb ho0 ho1) | ((with_reducible refine gd_ 6 rfl ?_); refine bxE 6 #[.bool false, .slice none 0 0] 88 ?_; intro gb309 hg w9 hbox hb; have BK309 := Z0.mk hbox; have GW309 := fE HB hg; have GE309 := fE HB hg; replace HO303 := fR HO303 hb; replace HO307 := fR HO307 hb; replace HB := fB HB hb; clear hb hbox hg) | ((with_reducible refine gd_ 7 rfl ?_); refine bxE 7 #[.bool false, .slice none 0 0] 88 ?_; intro gb310 hg w10 hbox hb; have BK310 := Z0.mk hbox; have GW310 := fE HB hg; have GE310 := fE HB hg; have NB309_310 := fl BK309 hg; have NB310_309 := fg BK309 hg; replace HO303 := fR HO303 hb; replace HO307 := fR HO307 hb; replace BK309 := fk BK309 hb; replace HB := fB HB hb; clear hb hbox hg; have hnb11 := NB309_310.out; have hnc11 := NB310_309.out; obtain ⟨hcz12_0, hcz12_1, hfz12_0, hfz12_1⟩ := b2 BK309; obtain ⟨Ao13, co13, eo13⟩ := Kd.R_slice HO303.out; subst eo13; obtain ⟨hcz14_0, hcz14_1, hfz14_0, hfz14_1⟩ := b2 BK310; obtain ⟨Ao15, co15, eo15⟩ := Kd.R_slice HO307.out; subst eo15))
  have n0_ : Z0 (Kd.R (Kd.int .i64) 3 ((((w10.setCell ⟨gb309, 0, none⟩ (.bool t300)).setCell ⟨gb309, 1, none⟩ (.slice Ao13 t301.length co13)).setCell ⟨gb310, 0, none⟩ (.bool t304)).setCell ⟨gb310, 1, none⟩ (.slice Ao15 t305.length co15)) w.heap.size (fun k_ => some k_ ≠ (.slice Ao15 t305.length co15 : Value).ownBlock) (.slice Ao13 t301.length co13) t301) := ⟨by (with_reducible repeat (first | apply Kd.R_alloc | apply Kd.R_drewN | apply Kd.R_drew)); exact Kd.R_mono (Kd.R_far (p := ⟨gb310, 1, none⟩) (Kd.R_far (p := ⟨gb310, 0, none⟩) (Kd.R_far (p := ⟨gb309, 1, none⟩) (Kd.R_far (p := ⟨gb309, 0, none⟩) (Kd.R_types (Kd.R_types HO303.out BK309.out (by decide)) BK310.out (by decide)) (fun _ hk => hk.1.2) (.bool t300)) (fun _ hk => hk.1.2) (.slice Ao13 t301.length co13)) (fun _ hk => hk.2) (.bool t304)) (fun _ hk => hk.2) (.slice Ao15 t305.length co15)) (fun _ hk => hk.1.1)⟩
  have n1_ : Z0 (Kd.R (Kd.int .i64) 3 ((((w10.setCell ⟨gb309, 0, none⟩ (.bool t300)).setCell ⟨gb309, 1, none⟩ (.slice Ao13 t301.length co13)).setCell ⟨gb310, 0, none⟩ (.bool t304)).setCell ⟨gb310, 1, none⟩ (.slice Ao15 t305.length co15)) w.heap.size (fun k_ => some k_ ≠ (.slice Ao13 t301.length co13 : Value).ownBlock) (.slice Ao15 t305.length co15) t305) := ⟨by (with_reducible repeat (first | apply Kd.R_alloc | apply Kd.R_drewN | apply Kd.R_drew)); exact Kd.R_mono (Kd.R_far (p := ⟨gb310, 1, none⟩) (Kd.R_far (p := ⟨gb310, 0, none⟩) (Kd.R_far (p := ⟨gb309, 1, none⟩) (Kd.R_far (p := ⟨gb309, 0, none⟩) (Kd.R_types (Kd.R_types HO307.out BK309.out (by decide)) BK310.out (by decide)) (fun _ hk => hk.1.2) (.bool t300)) (fun _ hk => hk.1.2) (.slice Ao13 t301.length co13)) (fun _ hk => hk.2) (.bool t304)) (fun _ hk => hk.2) (.slice Ao15 t305.length co15)) (fun _ hk => hk.1.1)⟩
  have n2_ : Z0 (((((w10.setCell ⟨gb309, 0, none⟩ (.bool t300)).setCell ⟨gb309, 1, none⟩ (.slice Ao13 t301.length co13)).setCell ⟨gb310, 0, none⟩ (.bool t304)).setCell ⟨gb310, 1, none⟩ (.slice Ao15 t305.length co15)).heap[gb309]? = some (.cells #[.bool t300, .slice Ao13 t301.length co13] 88 (0, 0))) := ⟨by (with_reducible repeat (first | refine blk_drewN ?_ _ | refine blk_drew ?_ | refine blk_alloc ?_ _)); refine blk_far ?_ NB309_310.out _; (with_reducible repeat (first | refine blk_drewN ?_ _ | refine blk_drew ?_ | refine blk_alloc ?_ _)); refine blk_far ?_ NB309_310.out _; (with_reducible repeat (first | refine blk_drewN ?_ _ | refine blk_drew ?_ | refine blk_alloc ?_ _)); refine blk_put (cs := #[.bool t300, .slice none 0 0]) ?_ 1 _ rfl; (with_reducible repeat (first | refine blk_drewN ?_ _ | refine blk_drew ?_ | refine blk_alloc ?_ _)); refine blk_put (cs := #[.bool false, .slice none 0 0]) ?_ 0 _ rfl; (with_reducible repeat (first | refine blk_drewN ?_ _ | refine blk_drew ?_ | refine blk_alloc ?_ _)); exact BK309.out⟩
  have n3_ : Z0 (((((w10.setCell ⟨gb309, 0, none⟩ (.bool t300)).setCell ⟨gb309, 1, none⟩ (.slice Ao13 t301.length co13)).setCell ⟨gb310, 0, none⟩ (.bool t304)).setCell ⟨gb310, 1, none⟩ (.slice Ao15 t305.length co15)).heap[gb310]? = some (.cells #[.bool t304, .slice Ao15 t305.length co15] 88 (0, 0))) := ⟨by (with_reducible repeat (first | refine blk_drewN ?_ _ | refine blk_drew ?_ | refine blk_alloc ?_ _)); refine blk_put (cs := #[.bool t304, .slice none 0 0]) ?_ 1 _ rfl; (with_reducible repeat (first | refine blk_drewN ?_ _ | refine blk_drew ?_ | refine blk_alloc ?_ _)); refine blk_put (cs := #[.bool false, .slice none 0 0]) ?_ 0 _ rfl; (with_reducible repeat (first | refine blk_drewN ?_ _ | refine blk_drew ?_ | refine blk_alloc ?_ _)); refine blk_far ?_ NB310_309.out _; (with_reducible repeat (first | refine blk_drewN ?_ _ | refine blk_drew ?_ | refine blk_alloc ?_ _)); refine blk_far ?_ NB310_309.out _; (with_reducible repeat (first | refine blk_drewN ?_ _ | refine blk_drew ?_ | refine blk_alloc ?_ _)); exact BK310.out⟩
  have n4_ : Z0 (Below w.heap.size w ((((w10.setCell ⟨gb309, 0, none⟩ (.bool t300)).setCell ⟨gb309, 1, none⟩ (.slice Ao13 t301.length co13)).setCell ⟨gb310, 0, none⟩ (.bool t304)).setCell ⟨gb310, 1, none⟩ (.slice Ao15 t305.length co15))) := ⟨bqs⟩
  (try clear HO303)
  (try clear HO307)
  (try clear BK309)
  (try clear BK310)
  (try clear HB)
  generalize ((((w10.setCell ⟨gb309, 0, none⟩ (.bool t300)).setCell ⟨gb309, 1, none⟩ (.slice Ao13 t301.length co13)).setCell ⟨gb310, 0, none⟩ (.bool t304)).setCell ⟨gb310, 1, none⟩ (.slice Ao15 t305.length co15)) = w16 at n0_ n1_ n2_ n3_ n4_ ⊢
  have HO303 := n0_
  have HO307 := n1_
  have BK309 := n2_
  have BK310 := n3_
  have HB := n4_
  clear n0_ n1_ n2_ n3_ n4_
  replace HO303 := Z0.mk (Kd.R_drew HO303.out)
  replace HO307 := Z0.mk (Kd.R_drew HO307.out)
  replace BK309 := Z0.mk (blk_drew BK309.out)
  replace BK310 := Z0.mk (blk_drew BK310.out)
  replace HB := Z0.mk (below_drew1 HB.out)
  refine start_ (n := 9) (S := fun w' => w'.cell? ⟨gb309, 0, none⟩ = some (.bool t300) ∧ w'.cell? ⟨gb309, 1, none⟩ = some (.slice Ao13 t301.length co13) ∧ w'.cell? ⟨gb310, 0, none⟩ = some (.bool t304) ∧ w'.cell? ⟨gb310, 1, none⟩ = some (.slice Ao15 t305.length co15)) (ds := []) #[false, false, false, false, false, false, false, false, false] (by kernel_rfl) rfl rfl ⟨(blk_cell BK309.out 0).trans rfl, (blk_cell BK309.out 1).trans rfl, (blk_cell BK310.out 0).trans rfl, (blk_cell BK310.out 1).trans rfl⟩ (fun hHeld => ?_); refine with_tabW bISub.tab4 bISub.bits4 (fun HT_ HW_ => ?_)
  generalize w16.drew = w17 at HO303 HO307 BK309 BK310 HB hHeld ⊢
  refine take_ (i := 0) (N := some 19) (v := ?_) (a' := ?_) #[true, false, false, false, false, false, false, false, false] rfl rfl (take_ofW HT_.out HW_.out (by kernel_rfl)) (fun _ _ _ h => h) (Or.inl ⟨by rfl, ?_⟩) hHeld ?_ ?_
  rotate_left
  ·rintro w' ⟨s0, s1, s2, s3⟩
   go_simp
   with_reducible rfl
  rotate_left
  ·simp only [Act.put, List.setIfInBounds_toArray, List.set_cons_zero, List.set_cons_succ, i64_w, i32_w]
   rfl
  refine take_ (i := 1) (N := some 20) (v := ?_) (a' := ?_) #[true, true, false, false, false, false, false, false, false] rfl rfl (take_ofW HT_.out HW_.out (by kernel_rfl)) (fun _ _ _ h => h) (Or.inl ⟨by rfl, ?_⟩) hHeld ?_ ?_
  rotate_left
  ·rintro w' ⟨s0, s1, s2, s3⟩
   go_simp
   with_reducible rfl
  rotate_left
  ·simp only [Act.put, List.setIfInBounds_toArray, List.set_cons_zero, List.set_cons_succ, i64_w, i32_w]
   rfl
  refine one_ (i := 2) (N := some 21) #[true, true, true, false, false, false, false, false, false] rfl rfl (one_of HT_.out (by kernel_rfl)) (by decide) (fun K hK => ?_)
  refine goes_ Tryz.func89 (by kernel_rfl) rfl #[.agg #[.bool t304, .slice Ao15 t305.length co15]] (by rfl) rfl rfl (by (try simp only [List.map_toArray, List.map_cons, List.map_nil]); first | done | rfl | (simp only [List.length_drop, List.length_take]; rfl)) ?_
  with_reducible refine (bInegated.calls t304 (fun k_ => some k_ = (.slice Ao15 t305.length co15 : Value).ownBlock) (.slice Ao15 t305.length co15) t305 t311 t312 w _ ?side1 ?side2 A5.out).mono ?_
  (case side1 => repeat (first | (with_reducible first | exact HB.out | apply below_alloc | apply pw_below_drewN | apply below_drew1 | refine below_set ?_ GE309.out | refine below_set ?_ GE310.out) | exact HB.out))
  (case side2 => exact Kd.R_tight rfl HO307.out)
  rintro e w18 ⟨v313, rfl, ho0, hb, hkp⟩
  refine ⟨_, rfl, ?_⟩
  have HO314 := Z0.mk (Kd.R_mono (ok' := fun k_ => some k_ ≠ (.slice Ao13 t301.length co13 : Value).ownBlock) ho0 (fun k_ hk_ => Or.elim hk_ (fun hs_ => fun e_ => (((HO303.out).1 k_ e_.symm)) hs_) (fun hn_ => (Kd.fresh' (Kd.R_lt (rq HO303)) k_ hn_))))
  replace HO303 := Z0.mk (Kd.R_mono (ok' := fun k_ => some k_ ≠ (v313 : Value).ownBlock) (Kd.R_keptB (HO303.out) hkp (fun k_ hk_ hs_ => (hk_) hs_)) (fun k_ hk_ => fun e_ => Or.elim (ho0.1 k_ e_.symm) (fun hs_ => hk_.2.1 hs_) (fun hn_ => Nat.not_le.2 hk_.2.2 hn_)))
  replace BK309 := Z0.mk (blk_kept (hq BK309) hkp (fun hs_ => (fun e_ => (Kd.R_ne HO307.out BK309.out (by decide)) e_) hs_))
  replace BK310 := Z0.mk (blk_kept (hq BK310) hkp (fun hs_ => (fun e_ => (Kd.R_ne HO307.out BK310.out (by decide)) e_) hs_))
  replace HB := Z0.mk (hb)
  clear HO307
  (try clear hb)
  (try clear hkp)
  (try clear ho0)
  obtain ⟨Ao19, co19, eo19⟩ := Kd.R_slice HO314.out
  (first | subst eo19 | (injection eo19 with f1_ f2_ f3_; have f4_ := f1_.symm; have f5_ := f3_.symm; clear f1_ f2_ f3_; subst f4_; subst f5_))
  refine hK.out _ _ ⟨(blk_cell BK309.out 0).trans rfl, (blk_cell BK309.out 1).trans rfl, (blk_cell BK310.out 0).trans rfl, (blk_cell BK310.out 1).trans rfl⟩ (fun hHeld => ?_)
  clear hK K
  refine norm_ (a' := ?_) ?_ ?_
  rotate_left
  ·show Act.put _ (some 21) _ = _
   simp only [Act.put, List.setIfInBounds_toArray, List.set_cons_zero, List.set_cons_succ, i64_w, i32_w]
   rfl
  refine one_ (i := 3) (N := some 22) #[true, true, true, true, false, false, false, false, false] rfl rfl (one_of HT_.out (by kernel_rfl)) (by decide) (fun K hK => ?_)
  refine goes_ Tryz.func88 (by kernel_rfl) rfl #[.agg #[.bool t300, .slice Ao13 t301.length co13], .agg #[.bool t311, .slice Ao19 t312.length co19]] (by rfl) rfl rfl (by (try simp only [List.map_toArray, List.map_cons, List.map_nil]); first | done | rfl | (simp only [List.length_drop, List.length_take]; rfl)) ?_
  with_reducible refine (bIsum.calls k t300 _ _ t301 t311 _ _ t312 t315 t316 _ ?side1 ?side2 ?side3 ?side4 A6.out).mono ?_
  (case side1 => exact cq (Kd.R_reads' HO303.out).2.2)
  (case side2 => exact (Kd.R_reads' HO303.out).2.1)
  (case side3 => exact cq (Kd.R_reads' HO314.out).2.2)
  (case side4 => exact (Kd.R_reads' HO314.out).2.1)
  rintro e w20 ⟨v317, rfl, ho0, hb⟩
  refine ⟨_, rfl, ?_⟩
  have HO318 := Z0.mk (Kd.R_lower (Kd.R_new' (Kd.R_new' ho0 (Kd.R_lt (rq HO303))) (Kd.R_lt (rq HO314))) (below_size bqs))
  replace HO303 := Z0.mk (Kd.R_elder' (rq HO303) (Kd.R_base ho0) hb)
  replace HO314 := Z0.mk (Kd.R_elder' (rq HO314) (Kd.R_base ho0) hb)
  replace BK309 := fk BK309 hb
  replace BK310 := fk BK310 hb
  replace HB := fB HB hb
  (try clear hb)
  (try clear hb2)
  (try clear hk)
  (try clear hi)
  (try clear ho0)
  obtain ⟨Ao21, co21, eo21⟩ := Kd.R_slice HO318.out
  (first | subst eo21 | (injection eo21 with f1_ f2_ f3_; have f4_ := f1_.symm; have f5_ := f3_.symm; clear f1_ f2_ f3_; subst f4_; subst f5_))
  refine hK.out _ _ ⟨(blk_cell BK309.out 0).trans rfl, (blk_cell BK309.out 1).trans rfl, (blk_cell BK310.out 0).trans rfl, (blk_cell BK310.out 1).trans rfl⟩ (fun hHeld => ?_)
  clear hK K
  refine norm_ (a' := ?_) ?_ ?_
  rotate_left
  ·show Act.put _ (some 22) _ = _
   simp only [Act.put, List.setIfInBounds_toArray, List.set_cons_zero, List.set_cons_succ, i64_w, i32_w]
   rfl
  refine one_ (i := 4) (N := some 23) #[true, true, true, true, true, false, false, false, false] rfl rfl (one_of HT_.out (by kernel_rfl)) (by decide) (fun K hK => ?_)
  refine goes_ Tryz.func87 (by kernel_rfl) rfl #[.agg #[.bool t315, .slice Ao21 t316.length co21]] (by rfl) rfl rfl (by (try simp only [List.map_toArray, List.map_cons, List.map_nil]); first | done | rfl | (simp only [List.length_drop, List.length_take]; rfl)) ?_
  with_reducible refine (bIwritten.calls t315 _ _ t316 t319 t320 _ ?side3 ?side1 ?side2 A7.out).mono ?_
  (case side1 => exact cq (Kd.R_reads' HO318.out).2.2)
  (case side2 => exact (Kd.R_reads' HO318.out).2.1)
  (case side3 => exact LaidW.below hL bqs)
  rintro e w22 ⟨rfl, hb⟩
  refine ⟨_, rfl, ?_⟩
  replace HO303 := fR HO303 hb
  replace HO314 := fR HO314 hb
  replace HO318 := fR HO318 hb
  replace BK309 := fk BK309 hb
  replace BK310 := fk BK310 hb
  replace HB := fB HB hb
  (try clear hb)
  (try clear hb2)
  (try clear hk)
  (try clear hi)
  refine hK.out _ _ ⟨(blk_cell BK309.out 0).trans rfl, (blk_cell BK309.out 1).trans rfl, (blk_cell BK310.out 0).trans rfl, (blk_cell BK310.out 1).trans rfl⟩ (fun hHeld => ?_)
  clear hK K
  refine norm_ (a' := ?_) ?_ ?_
  rotate_left
  ·show Act.put _ (some 23) _ = _
   simp only [Act.put, List.setIfInBounds_toArray, List.set_cons_zero, List.set_cons_succ, i64_w, i32_w]
   rfl
  refine pure_ (i := 5) (N := some 24) (v := ?_) (a' := ?_) #[true, true, true, true, true, true, false, false, false] rfl rfl (any_of HT_.out (by kernel_rfl)) (fun _ _ _ h => h) (Or.inl ⟨by rfl, ?_⟩) ?_ ?_
  rotate_left
  ·intro w'
   go_simp
   with_reducible rfl
  rotate_left
  ·simp only [Act.put, List.setIfInBounds_toArray, List.set_cons_zero, List.set_cons_succ, i64_w, i32_w]
   rfl
  refine pure_ (i := 6) (N := some 25) (v := ?_) (a' := ?_) #[true, true, true, true, true, true, true, false, false] rfl rfl (any_of HT_.out (by kernel_rfl)) (fun _ _ _ h => h) (Or.inl ⟨by rfl, ?_⟩) ?_ ?_
  rotate_left
  ·intro w'
   go_simp
   with_reducible rfl
  rotate_left
  ·simp only [Act.put, List.setIfInBounds_toArray, List.set_cons_zero, List.set_cons_succ, i64_w, i32_w]
   rfl
  refine pure_ (i := 7) (N := some 4) (v := ?_) (a' := ?_) #[true, true, true, true, true, true, true, true, false] rfl rfl (any_of HT_.out (by kernel_rfl)) (fun _ _ _ h => h) (Or.inl ⟨by rfl, ?_⟩) ?_ ?_
  rotate_left
  ·intro w'
   go_simp
   with_reducible rfl
  rotate_left
  ·simp only [Act.put, List.setIfInBounds_toArray, List.set_cons_zero, List.set_cons_succ, i64_w, i32_w]
   rfl
  refine pure_ (i := 8) (N := some 5) (v := ?_) (a' := ?_) #[true, true, true, true, true, true, true, true, true] rfl rfl (any_of HT_.out (by kernel_rfl)) (fun _ _ _ h => h) (Or.inl ⟨by rfl, ?_⟩) ?_ ?_
  rotate_left
  ·intro w'
   go_simp
   with_reducible rfl
  rotate_left
  ·simp only [Act.put, List.setIfInBounds_toArray, List.set_cons_zero, List.set_cons_succ, i64_w, i32_w]
   rfl
  refine done_ (done_of HT_.out (by kernel_rfl)) ?_
  try go_wp2
  go_ret2
  exact finE
 simp only [Option.some.injEq, Prod.mk.injEq] at H
 obtain ⟨rfl, rfl⟩ := H
 go_enter Tryz.func33, Tryz.ntmps33
 go_wp2_with (first | ((with_reducible refine gc_ 86 rfl ?_); refine gL 12 Tryz.func86 (bIpair.calls _ _ _ _ _ _ _ _ _ A3.out) ?_; rintro _ w23 ⟨v302, v306, rfl, ho0, ho1, hb⟩; refine ⟨_, rfl, ?_⟩; have HO303 := fN ho0; have HO307 := fN ho1; replace HB := fB HB hb; clear hb ho0 ho1) | ((with_reducible refine gd_ 6 rfl ?_); refine bxE 6 #[.bool false, .slice none 0 0] 88 ?_; intro gb309 hg w24 hbox hb; have BK309 := Z0.mk hbox; have GW309 := fE HB hg; have GE309 := fE HB hg; replace HO303 := fR HO303 hb; replace HO307 := fR HO307 hb; replace HB := fB HB hb; clear hb hbox hg) | ((with_reducible refine gd_ 7 rfl ?_); refine bxE 7 #[.bool false, .slice none 0 0] 88 ?_; intro gb310 hg w25 hbox hb; have BK310 := Z0.mk hbox; have GW310 := fE HB hg; have GE310 := fE HB hg; have NB309_310 := fl BK309 hg; have NB310_309 := fg BK309 hg; replace HO303 := fR HO303 hb; replace HO307 := fR HO307 hb; replace BK309 := fk BK309 hb; replace HB := fB HB hb; clear hb hbox hg; have hnb26 := NB309_310.out; have hnc26 := NB310_309.out; obtain ⟨hcz27_0, hcz27_1, hfz27_0, hfz27_1⟩ := b2 BK309; obtain ⟨Ao28, co28, eo28⟩ := Kd.R_slice HO303.out; subst eo28; obtain ⟨hcz29_0, hcz29_1, hfz29_0, hfz29_1⟩ := b2 BK310; obtain ⟨Ao30, co30, eo30⟩ := Kd.R_slice HO307.out; subst eo30))
 go_ret2
 exact finE
theorem bItimes.calls (k : Nat) (A0 : Option Addr) (c0 : Nat) (l0 : List Int) (A1 : Option Addr) (c1 : Nat) (l1 : List Int) (r : List Int) (w : World) (hr0 : Kd.C (Kd.int .i64) w A0 l0.length l0) (hc0 : l0.length ≤ c0) (hr1 : Kd.C (Kd.int .i64) w A1 l1.length l1) (hc1 : l1.length ≤ c1) (h : bItimes.f k l0 l1 = some r) :
  Calls Tryz.prog 109 #[.slice A0 l0.length c0, .slice A1 l1.length c1] w fun e w' => ∃ v0_ : Value, e = .returned (v0_) ∧ Kd.R (Kd.int .i64) 3 w' w.heap.size (fun _ => True) v0_ r ∧ Below w.heap.size w w' := by
 have HR0 := Z0.mk hr0
 have HC0 := Z0.mk hc0
 clear hr0 hc0
 have HR1 := Z0.mk hr1
 have HC1 := Z0.mk hc1
 clear hr1 hc1
 have HB := Z0.mk (Below.refl w.heap.size w)
 have H := h
 clear h
 unfold bItimes.f at H
 obtain ⟨ji3, hji3⟩ : ∃ j_ : Int, (wrap64 ((l0.length : Int) + (l1.length : Int))) = j_ := ⟨_, rfl⟩
 replace H : (if 0 ≤ (ji3) then (if (ji3 : Int).toNat ≤ 35184372088832 then (bItimes.l0 k l1 (List.replicate (ji3 : Int).toNat 0) l0 (l0.length : Int) 0) else (none)) else (none)) = some r := by first | (rw [hji3] at H; exact H) | (simp only [hji3] at H ⊢; exact H)
 have hji3w : (IntKind.i64.wrap ((l0.length : Int) + (l1.length : Int))) = ji3 := (i64_w _).trans hji3
 obtain ⟨-, c4b0, c4b1, H⟩ := gt H
 obtain ⟨-, c5b0, c5b1, H⟩ := gt H
 generalize hy115 : (List.replicate (ji3 : Int).toNat 0 : List Int) = y115 at H
 have Ny115 := Z0.mk hy115.symm
 clear hy115
 have H' := Z0.mk H
 clear H
 go_enter Tryz.func109, Tryz.ntmps109
 go_wp2_with (first | ((with_reducible refine gd_ 16 rfl ?_); refine Kd.R_make (Kd.int .i64) _ 3 rfl (N := 16) rfl 86 _ _ rfl ji3 rfl rfl Tryz.underlying86 (.int .i64 0) 8 info3 rfl (by decide) (by omega) 0 (ok := fun _ => True) (okp := fun _ => True) rfl (fun _ hk => hk) trivial od (Nat.le_trans (Nat.mul_le_mul_right _ (od : ji3.toNat ≤ 35184372088832)) (by omega)) (Below.refl _ _) (Nat.le_refl _) ?_; intro v116 w6 ho7 hb hg_ hnew_; clear hg_ hnew_; (first | rw [← Ny115.out] at ho7 | (simp only [Int.reduceToNat] at ho7; rw [← Ny115.out] at ho7)); have HO117 := Z0.mk (Kd.R_lower ho7 (below_size bqs)); replace HB := fB HB hb; clear hb ho7))
 go_loopg [19] k (fun kq v19 w' => ∃ (x5_1 : List Int) (x19_1 : Int), v19 = .int .i64 x19_1 ∧ Z0 (bItimes.l0 kq l1 x5_1 l0 (l0.length : Int) x19_1 = some r) ∧ Z0 (kq ≤ k) ∧ Z0 (Kd.R (Kd.int .i64) 3 w' w.heap.size (fun _ => True) v116 x5_1) ∧ Z0 (Below w.heap.size w w'))
 case atStart => exact ⟨(y115), (0), fs, H', ⟨Nat.le_refl _⟩, ⟨rq HO117⟩, ⟨bqs⟩⟩
 case round =>
  clear H'
  try clear c1
  try clear p2
  try clear c4
  try clear c4b0
  try clear c4b1
  try clear c5
  try clear c5b0
  try clear c5b1
  try clear p6
  obtain ⟨x5_1, x19_1, rfl, HA, HK1, HO_5, HB⟩ := hrel
  cases gk with
  | zero => exact absurd HA.out (by simp [bItimes.l0])
  | succ k1 =>
   have H := HA.out
   clear HA
   simp only [bItimes.l0] at H
   rcases jd H with ⟨-, c8b0, H⟩ | ⟨-, c8b0, H⟩
   ·obtain ⟨-, c9b0, H⟩ := gd H
    obtain ⟨-, c10b0, H⟩ := gd H
    have H' := Z0.mk H
    clear H
    obtain ⟨ad121, e121, hx121_0, p121, q121⟩ := atB HB HR0.out x19_1
    cases e121
    go_wp2
    go_loopg [8, 26] k1 (fun kq v8 v26 w' => ∃ (x5_2 : List Int) (x8_2 : Int) (x26_2 : Int), v8 = .int .i64 x8_2 ∧ v26 = .int .i64 x26_2 ∧ Z0 (bItimes.l1 kq l1 x5_2 x19_1 (rd l0 x19_1) x8_2 l0 (l0.length : Int) x19_1 l1 (l1.length : Int) x26_2 = some r) ∧ Z0 (kq ≤ k1) ∧ Z0 (Kd.R (Kd.int .i64) 3 w' w.heap.size (fun _ => True) v116 x5_2) ∧ Z0 (Below w.heap.size w w'))
    case atStart => exact ⟨(x5_1), (0), (0), fs, fs, H', ⟨Nat.le_refl _⟩, ⟨rq HO_5⟩, ⟨bqs⟩⟩
    case round =>
     clear H'
     try clear c1
     try clear p1
     try clear q1
     try clear hx1
     try clear p2
     try clear c4
     try clear c4b0
     try clear c4b1
     try clear c5
     try clear c5b0
     try clear c5b1
     try clear p6
     try clear c8
     try clear c8b0
     try clear c9
     try clear c9b0
     try clear c10
     try clear c10b0
     try clear hx121_0
     try clear p121
     try clear p2
     try clear p6
     try clear q121
     obtain ⟨x5_2, x8_2, x26_2, rfl, rfl, HA, HK2, HO_5, HB⟩ := hrel
     cases gk with
     | zero => exact absurd HA.out (by simp [bItimes.l1])
     | succ k2 =>
      have H := HA.out
      clear HA
      simp only [bItimes.l1] at H
      rcases jd H with ⟨-, c11b0, H⟩ | ⟨-, c11b0, H⟩
      ·obtain ⟨-, c12b0, H⟩ := gd H
       obtain ⟨-, c13b0, H⟩ := gd H
       obtain ⟨ji14, hji14⟩ : ∃ j_ : Int, (wrap64 (x19_1 + x26_2)) = j_ := ⟨_, rfl⟩
       replace H : (if 0 ≤ (ji14) then (if (ji14) < (x5_2.length : Int) then (bItimes.l1 k2 l1 (x5_2.set ((ji14) : Int).toNat (Int.tmod (wrap64 (x8_2 + (wrap64 ((rd x5_2 (ji14)) + (wrap64 ((rd l0 x19_1) * (rd l1 x26_2))))))) 1000000000)) x19_1 (rd l0 x19_1) (wrap64 (Int.tdiv (wrap64 (x8_2 + (wrap64 ((rd x5_2 (ji14)) + (wrap64 ((rd l0 x19_1) * (rd l1 x26_2))))))) 1000000000)) l0 (l0.length : Int) x19_1 l1 (l1.length : Int) (wrap64 (x26_2 + 1))) else (none)) else (none)) = some r := by first | (rw [hji14] at H; exact H) | (simp only [hji14] at H ⊢; exact H)
       have hji14w : (IntKind.i64.wrap (x19_1 + x26_2)) = ji14 := (i64_w _).trans hji14
       obtain ⟨-, c15b0, H⟩ := gd H
       obtain ⟨-, c16b0, H⟩ := gd H
       generalize hy124 : (x5_2.set ((ji14) : Int).toNat (Int.tmod (wrap64 (x8_2 + (wrap64 ((rd x5_2 (ji14)) + (wrap64 ((rd l0 x19_1) * (rd l1 x26_2))))))) 1000000000) : List Int) = y124 at H
       have Ny124 := Z0.mk hy124.symm
       clear hy124
       have H' := Z0.mk H
       clear H
       obtain ⟨ad122, e122, hx122_0, p122, q122⟩ := atB HB HR1.out x26_2
       cases e122
       obtain ⟨Ao18, co18, eo18⟩ := Kd.R_slice HO_5.out
       subst eo18
       obtain ⟨ad123, e123, hx123_0, p123, q123⟩ := atI (Kd.R_reads' HO_5.out).2.2 (ji14)
       cases e123
       have p17 : 0 ≤ ((ji14) : Int) := od
       have q17 : ((ji14) : Int) < ((x5_2.length : Int) : Int) := od
       obtain ⟨go17, co17, eo17, gb17, gl17, cl17, HG17⟩ := Kd.R_form HO_5.out (by omega)
       (first | cases eo17 | (injection eo17 with ea_ en_ ec_; (first | subst ea_ | (injection ea_ with ea_; subst ea_)); subst ec_; clear en_))
       have GB17 := Z0.mk gb17
       have GG17 := Z0.mk HG17
       clear gb17 gl17 HG17
       (first | simp only [add_plain] at hx123_0 | skip)
       obtain ⟨hx17_0, hf17_0⟩ := Kd.R_celln 0 HO_5.out ((ji14) : Int) p17 q17
       replace p17 := eq_true p17
       replace q17 := eq_true q17
       have HP19 := Kd.R_putg HO_5.out ((ji14) : Int) (Int.tmod (wrap64 (x8_2 + (wrap64 ((rd x5_2 (ji14)) + (wrap64 ((rd l0 x19_1) * (rd l1 x26_2))))))) 1000000000)
       go_wp2_with (first | ((with_reducible refine gate_store (t := 3) (p := 51) rfl ?_); refine store_event (t := 3) (p := 51) (v := ?vo_w20) (w1 := (wr.setCell ⟨go17, ((ji14) : Int).toNat, none⟩ (.int .i64 (Int.tmod (wrap64 (x8_2 + (wrap64 ((rd x5_2 (ji14)) + (wrap64 ((rd l0 x19_1) * (rd l1 x26_2))))))) 1000000000)))) ?hg ?ho ?hn ?hr ?_; (case ho => rfl); (case hg => rfl); (case hn => rfl); (case hr => first | (go_simp; done) | (go_simp; rfl)); intro w20 hw; have hg : wr.grownBy w20 (some go17) := (by rw [hw]; exact HP19.2); have hp_ : Kd.R (Kd.int .i64) 3 w20 w.heap.size (fun _ => True) (.slice (some ⟨go17, 0, none⟩) x5_2.length co18) y124 := (by rw [hw, Ny124.out]; exact HP19.1); clear HP19; replace HO_5 := Z0.mk (hp_); replace HB := Z0.mk ((by rw [hw]; exact below_set (HB.out) GB17.out : Below w.heap.size w w20)); clear hg hw hp_))
       go_roundg k2
       case measure => have := HK1.out; have := HK2.out; omega
       case rel => exact ⟨(y124), (wrap64 (Int.tdiv (wrap64 (x8_2 + (wrap64 ((rd x5_2 (ji14)) + (wrap64 ((rd l0 x19_1) * (rd l1 x26_2))))))) 1000000000)), (wrap64 (x26_2 + 1)), (by first | rfl | (simp; done) | (simp only [← hji14] <;> (first | rfl | simp)) | (simp [*]; done)), fs, H', ⟨by have := HK1.out; have := HK2.out; omega⟩, ⟨rq HO_5⟩, ⟨bqs⟩⟩
      obtain ⟨ji21, hji21⟩ : ∃ j_ : Int, (wrap64 (x19_1 + (l1.length : Int))) = j_ := ⟨_, rfl⟩
      replace H : (if 0 ≤ (ji21) then (if (ji21) < (x5_2.length : Int) then (bItimes.l0 k2 l1 (x5_2.set ((ji21) : Int).toNat x8_2) l0 (l0.length : Int) (wrap64 (x19_1 + 1))) else (none)) else (none)) = some r := by first | (rw [hji21] at H; exact H) | (simp only [hji21] at H ⊢; exact H)
      have hji21w : (IntKind.i64.wrap (x19_1 + (l1.length : Int))) = ji21 := (i64_w _).trans hji21
      obtain ⟨-, c22b0, H⟩ := gd H
      obtain ⟨-, c23b0, H⟩ := gd H
      generalize hy125 : (x5_2.set ((ji21) : Int).toNat x8_2 : List Int) = y125 at H
      have Ny125 := Z0.mk hy125.symm
      clear hy125
      have H' := Z0.mk H
      clear H
      have p24 : 0 ≤ ((ji21) : Int) := od
      have q24 : ((ji21) : Int) < ((x5_2.length : Int) : Int) := od
      obtain ⟨go24, co24, eo24, gb24, gl24, cl24, HG24⟩ := Kd.R_form HO_5.out (by omega)
      (first | cases eo24 | (injection eo24 with ea_ en_ ec_; (first | subst ea_ | (injection ea_ with ea_; subst ea_)); subst ec_; clear en_))
      have GB24 := Z0.mk gb24
      have GG24 := Z0.mk HG24
      clear gb24 gl24 HG24
      obtain ⟨hx24_0, hf24_0⟩ := Kd.R_celln 0 HO_5.out ((ji21) : Int) p24 q24
      replace p24 := eq_true p24
      replace q24 := eq_true q24
      have HP25 := Kd.R_putg HO_5.out ((ji21) : Int) x8_2
      go_wp2_with (first | ((with_reducible refine gate_store (t := 3) (p := 59) rfl ?_); refine store_event (t := 3) (p := 59) (v := ?vo_w26) (w1 := (wr.setCell ⟨go24, ((ji21) : Int).toNat, none⟩ (.int .i64 x8_2))) ?hg ?ho ?hn ?hr ?_; (case ho => rfl); (case hg => rfl); (case hn => rfl); (case hr => first | (go_simp; done) | (go_simp; rfl)); intro w26 hw; have hg : wr.grownBy w26 (some go24) := (by rw [hw]; exact HP25.2); have hp_ : Kd.R (Kd.int .i64) 3 w26 w.heap.size (fun _ => True) (.slice (some ⟨go24, 0, none⟩) x5_2.length co24) y125 := (by rw [hw, Ny125.out]; exact HP25.1); clear HP25; replace HO_5 := Z0.mk (hp_); replace HB := Z0.mk ((by rw [hw]; exact below_set (HB.out) GB24.out : Below w.heap.size w w26)); clear hg hw hp_))
      go_roundg k2
      case measure => have := HK1.out; have := HK2.out; omega
      case rel => exact ⟨(y125), (wrap64 (x19_1 + 1)), fs, H', ⟨by have := HK1.out; have := HK2.out; omega⟩, ⟨rq HO_5⟩, ⟨bqs⟩⟩
   obtain ⟨t118, A27, H⟩ := bnd H
   obtain rfl := Option.some.inj H
   obtain ⟨Ao28, co28, eo28⟩ := Kd.R_slice HO_5.out
   subst eo28
   go_wp2_with (first | ((with_reducible refine gc_ 147 rfl ?_); refine gL 62 Tryz.func147 (bItrim.calls k1 (fun k_ => some k_ = (.slice Ao28 x5_1.length co28 : Value).ownBlock) (.slice Ao28 x5_1.length co28) x5_1 t118 w _ ?side1 ?side2 A27.out) ?_; (case side1 => repeat (first | (with_reducible first | exact HB.out | apply below_alloc | apply pw_below_drewN | apply below_drew1) | exact HB.out)); (case side2 => exact Kd.R_tight rfl HO_5.out); rintro _ w29 ⟨v119, rfl, ho0, hb, hkp⟩; refine ⟨_, rfl, ?_⟩; have HO120 := Z0.mk (Kd.R_mono (ok' := fun k_ => True) ho0 (fun k_ hk_ => trivial)); replace HB := Z0.mk (hb); clear HO_5; clear hb hkp ho0))
   go_ret
   exact ⟨_, by first | rfl | (simp [errW_none, errW_some] <;> rfl) | (simp only [← hji3]; first | rfl | (simp [errW_none, errW_some] <;> rfl)) | (simp [*, errW_none, errW_some] <;> rfl), rq HO120, bqs⟩
def bIproduct.T1 : Bool × List (List Nat × List Nat) := (true, [([], []), ([0], [0]), ([], []), ([2], [2]), ([1, 3], [1, 3]), ([], []), ([5], [5]), ([], []), ([7], [7]), ([6, 8], [6, 8]), ([4, 9], [4, 9]), ([10, 9, 0, 1, 2, 3, 4, 5, 6, 7, 8, 9, 10], [10])])
def bIproduct.B1 : List Nat := [0, 1, 0, 4, 15, 0, 32, 0, 128, 480, 1023, 2047]
theorem bIproduct.tab1 : rtab .any (opsOf Tryz.f96 1) = bIproduct.T1 := by kernel_rfl
theorem bIproduct.bits1 : waitsOk bIproduct.T1.2 bIproduct.B1 = true := by kernel_rfl
theorem bIproduct.calls (k : Nat) (a0_0 : Bool) (A0_1 : Option Addr) (c0_1 : Nat) (l0_1 : List Int) (a1_0 : Bool) (A1_1 : Option Addr) (c1_1 : Nat) (l1_1 : List Int) (r1 : Bool) (r2 : List Int) (w : World) (hr0_1 : Kd.C (Kd.int .i64) w A0_1 l0_1.length l0_1) (hc0_1 : l0_1.length ≤ c0_1) (hr1_1 : Kd.C (Kd.int .i64) w A1_1 l1_1.length l1_1) (hc1_1 : l1_1.length ≤ c1_1) (h : bIproduct.f k a0_0 l0_1 a1_0 l1_1 = some (r1, r2)) :
  Calls Tryz.prog 96 #[.agg #[.bool a0_0, .slice A0_1 l0_1.length c0_1], .agg #[.bool a1_0, .slice A1_1 l1_1.length c1_1]] w fun e w' => ∃ v1_ : Value, e = .returned (.agg #[.bool r1, v1_]) ∧ Kd.R (Kd.int .i64) 3 w' w.heap.size (fun _ => True) v1_ r2 ∧ Below w.heap.size w w' := by
 have hu88 := Tryz.underlying88
 have HR0_1 := Z0.mk hr0_1
 have HC0_1 := Z0.mk hc0_1
 clear hr0_1 hc0_1
 have HR1_1 := Z0.mk hr1_1
 have HC1_1 := Z0.mk hc1_1
 clear hr1_1 hc1_1
 have HB := Z0.mk (Below.refl w.heap.size w)
 have H := h
 clear h
 unfold bIproduct.f at H
 obtain ⟨t376, A3, H⟩ := bnd H
 simp only [Option.some.injEq, Prod.mk.injEq] at H
 obtain ⟨rfl, rfl⟩ := H
 go_enter Tryz.func96, Tryz.ntmps96
 try go_wp2_with (first | ((with_reducible refine gd_ 2 rfl ?_); refine bxE 2 #[.bool a0_0, .slice A0_1 l0_1.length c0_1] 88 ?_; intro gb373 hg w4 hbox hb; have BK373 := Z0.mk hbox; have GW373 := fE HB hg; have GE373 := fE HB hg; replace HB := fB HB hb; clear hb hbox hg) | ((with_reducible refine gd_ 3 rfl ?_); refine bxE 3 #[.bool a1_0, .slice A1_1 l1_1.length c1_1] 88 ?_; intro gb374 hg w5 hbox hb; have BK374 := Z0.mk hbox; have GW374 := fE HB hg; have GE374 := fE HB hg; have NB373_374 := fl BK373 hg; have NB374_373 := fg BK373 hg; replace BK373 := fk BK373 hb; replace HB := fB HB hb; clear hb hbox hg) | ((with_reducible refine gd_ 4 rfl ?_); refine bxE 4 #[.bool false, .slice none 0 0] 88 ?_; intro gb375 hg w6 hbox hb; have BK375 := Z0.mk hbox; have GW375 := fE HB hg; have GE375 := fE HB hg; have NB373_375 := fl BK373 hg; have NB375_373 := fg BK373 hg; have NB374_375 := fl BK374 hg; have NB375_374 := fg BK374 hg; replace BK373 := fk BK373 hb; replace BK374 := fk BK374 hb; replace HB := fB HB hb; clear hb hbox hg))
 replace BK373 := Z0.mk (blk_drew BK373.out)
 replace BK374 := Z0.mk (blk_drew BK374.out)
 replace BK375 := Z0.mk (blk_drew BK375.out)
 replace HB := Z0.mk (below_drew1 HB.out)
 refine start_ (n := 12) (S := fun w' => w'.cell? ⟨gb373, 0, none⟩ = some (.bool a0_0) ∧ w'.cell? ⟨gb373, 1, none⟩ = some (.slice A0_1 l0_1.length c0_1) ∧ w'.cell? ⟨gb374, 0, none⟩ = some (.bool a1_0) ∧ w'.cell? ⟨gb374, 1, none⟩ = some (.slice A1_1 l1_1.length c1_1)) (ds := []) #[false, false, false, false, false, false, false, false, false, false, false, false] (by kernel_rfl) rfl rfl ⟨(blk_cell BK373.out 0).trans rfl, (blk_cell BK373.out 1).trans rfl, (blk_cell BK374.out 0).trans rfl, (blk_cell BK374.out 1).trans rfl⟩ (fun hHeld => ?_); refine with_tabW bIproduct.tab1 bIproduct.bits1 (fun HT_ HW_ => ?_)
 generalize w6.drew = w7 at BK373 BK374 BK375 HB hHeld ⊢
 refine pure_ (i := 0) (N := some 5) (v := ?_) (a' := ?_) #[true, false, false, false, false, false, false, false, false, false, false, false] rfl rfl (any_of HT_.out (by kernel_rfl)) (fun _ _ _ h => h) (Or.inl ⟨by rfl, ?_⟩) ?_ ?_
 rotate_left
 ·intro w'
  go_simp
  with_reducible rfl
 rotate_left
 ·simp only [Act.put, List.setIfInBounds_toArray, List.set_cons_zero, List.set_cons_succ, i64_w, i32_w]
  rfl
 refine pure_ (i := 2) (N := some 7) (v := ?_) (a' := ?_) #[true, false, true, false, false, false, false, false, false, false, false, false] rfl rfl (any_of HT_.out (by kernel_rfl)) (fun _ _ _ h => h) (Or.inl ⟨by rfl, ?_⟩) ?_ ?_
 rotate_left
 ·intro w'
  go_simp
  with_reducible rfl
 rotate_left
 ·simp only [Act.put, List.setIfInBounds_toArray, List.set_cons_zero, List.set_cons_succ, i64_w, i32_w]
  rfl
 refine pure_ (i := 5) (N := some 10) (v := ?_) (a' := ?_) #[true, false, true, false, false, true, false, false, false, false, false, false] rfl rfl (any_of HT_.out (by kernel_rfl)) (fun _ _ _ h => h) (Or.inl ⟨by rfl, ?_⟩) ?_ ?_
 rotate_left
 ·intro w'
  go_simp
  with_reducible rfl
 rotate_left
 ·simp only [Act.put, List.setIfInBounds_toArray, List.set_cons_zero, List.set_cons_succ, i64_w, i32_w]
  rfl
 refine pure_ (i := 7) (N := some 12) (v := ?_) (a' := ?_) #[true, false, true, false, false, true, false, true, false, false, false, false] rfl rfl (any_of HT_.out (by kernel_rfl)) (fun _ _ _ h => h) (Or.inl ⟨by rfl, ?_⟩) ?_ ?_
 rotate_left
 ·intro w'
  go_simp
  with_reducible rfl
 rotate_left
 ·simp only [Act.put, List.setIfInBounds_toArray, List.set_cons_zero, List.set_cons_succ, i64_w, i32_w]
  rfl
 refine take_ (i := 1) (N := some 6) (v := ?_) (a' := ?_) #[true, true, true, false, false, true, false, true, false, false, false, false] rfl rfl (take_ofW HT_.out HW_.out (by kernel_rfl)) (fun _ _ _ h => h) (Or.inl ⟨by rfl, ?_⟩) hHeld ?_ ?_
 rotate_left
 ·rintro w' ⟨s0, s1, s2, s3⟩
  go_simp
  with_reducible rfl
 rotate_left
 ·simp only [Act.put, List.setIfInBounds_toArray, List.set_cons_zero, List.set_cons_succ, i64_w, i32_w]
  rfl
 refine take_ (i := 3) (N := some 8) (v := ?_) (a' := ?_) #[true, true, true, true, false, true, false, true, false, false, false, false] rfl rfl (take_ofW HT_.out HW_.out (by kernel_rfl)) (fun _ _ _ h => h) (Or.inl ⟨by rfl, ?_⟩) hHeld ?_ ?_
 rotate_left
 ·rintro w' ⟨s0, s1, s2, s3⟩
  go_simp
  with_reducible rfl
 rotate_left
 ·simp only [Act.put, List.setIfInBounds_toArray, List.set_cons_zero, List.set_cons_succ, i64_w, i32_w]
  rfl
 refine pure_ (i := 4) (N := some 9) (v := ?_) (a' := ?_) #[true, true, true, true, true, true, false, true, false, false, false, false] rfl rfl (any_of HT_.out (by kernel_rfl)) (fun _ _ _ h => h) (Or.inl ⟨by rfl, ?_⟩) ?_ ?_
 rotate_left
 ·intro w'
  go_simp
  with_reducible rfl
 rotate_left
 ·simp only [Act.put, List.setIfInBounds_toArray, List.set_cons_zero, List.set_cons_succ, i64_w, i32_w]
  rfl
 refine take_ (i := 6) (N := some 11) (v := ?_) (a' := ?_) #[true, true, true, true, true, true, true, true, false, false, false, false] rfl rfl (take_ofW HT_.out HW_.out (by kernel_rfl)) (fun _ _ _ h => h) (Or.inl ⟨by rfl, ?_⟩) hHeld ?_ ?_
 rotate_left
 ·rintro w' ⟨s0, s1, s2, s3⟩
  go_simp
  with_reducible rfl
 rotate_left
 ·simp only [Act.put, List.setIfInBounds_toArray, List.set_cons_zero, List.set_cons_succ, i64_w, i32_w]
  rfl
 refine take_ (i := 8) (N := some 13) (v := ?_) (a' := ?_) #[true, true, true, true, true, true, true, true, true, false, false, false] rfl rfl (take_ofW HT_.out HW_.out (by kernel_rfl)) (fun _ _ _ h => h) (Or.inl ⟨by rfl, ?_⟩) hHeld ?_ ?_
 rotate_left
 ·rintro w' ⟨s0, s1, s2, s3⟩
  go_simp
  with_reducible rfl
 rotate_left
 ·simp only [Act.put, List.setIfInBounds_toArray, List.set_cons_zero, List.set_cons_succ, i64_w, i32_w]
  rfl
 refine one_ (i := 9) (N := some 14) #[true, true, true, true, true, true, true, true, true, true, false, false] rfl rfl (one_of HT_.out (by kernel_rfl)) (by decide) (fun K hK => ?_)
 refine goes_ Tryz.func109 (by kernel_rfl) rfl #[.slice A0_1 l0_1.length c0_1, .slice A1_1 l1_1.length c1_1] (by rfl) rfl rfl (by (try simp only [List.map_toArray, List.map_cons, List.map_nil]); first | done | rfl | (simp only [List.length_drop, List.length_take]; rfl)) ?_
 with_reducible refine (bItimes.calls k _ _ l0_1 _ _ l1_1 t376 _ ?side1 ?side2 ?side3 ?side4 A3.out).mono ?_
 (case side1 => exact cq (Kd.C_below HR0_1.out HB.out))
 (case side2 => exact HC0_1.out)
 (case side3 => exact cq (Kd.C_below HR1_1.out HB.out))
 (case side4 => exact HC1_1.out)
 rintro e w8 ⟨v377, rfl, ho0, hb⟩
 refine ⟨_, rfl, ?_⟩
 have HO378 := fN ho0
 replace BK373 := fk BK373 hb
 replace BK374 := fk BK374 hb
 replace BK375 := fk BK375 hb
 replace HB := fB HB hb
 (try clear hb)
 (try clear hb2)
 (try clear hk)
 (try clear hi)
 (try clear ho0)
 obtain ⟨Ao9, co9, eo9⟩ := Kd.R_slice HO378.out
 (first | subst eo9 | (injection eo9 with f1_ f2_ f3_; have f4_ := f1_.symm; have f5_ := f3_.symm; clear f1_ f2_ f3_; subst f4_; subst f5_))
 refine hK.out _ _ ⟨(blk_cell BK373.out 0).trans rfl, (blk_cell BK373.out 1).trans rfl, (blk_cell BK374.out 0).trans rfl, (blk_cell BK374.out 1).trans rfl⟩ (fun hHeld => ?_)
 clear hK K
 refine norm_ (a' := ?_) ?_ ?_
 rotate_left
 ·show Act.put _ (some 14) _ = _
  simp only [Act.put, List.setIfInBounds_toArray, List.set_cons_zero, List.set_cons_succ, i64_w, i32_w]
  rfl
 refine pure_ (i := 10) (N := some 15) (v := ?_) (a' := ?_) #[true, true, true, true, true, true, true, true, true, true, true, false] rfl rfl (any_of HT_.out (by kernel_rfl)) (fun _ _ _ h => h) (Or.inl ⟨by rfl, ?_⟩) ?_ ?_
 rotate_left
 ·intro w'
  go_simp
  with_reducible rfl
 rotate_left
 ·simp only [Act.put, List.setIfInBounds_toArray, List.set_cons_zero, List.set_cons_succ, i64_w, i32_w]
  rfl
 refine one_ (i := 11) (N := none) #[true, true, true, true, true, true, true, true, true, true, true, true] rfl rfl (one_of HT_.out (by kernel_rfl)) (by decide) (fun K hK => ?_)
 have hs10 : w8.cell? ⟨gb375, 0, none⟩ = some (.bool false) := (blk_cell BK375.out 0).trans rfl
 have hfs10 := blk_frozen BK375.out 0
 have hns10_0 := NB373_375.out
 have hns10_1 := NB374_375.out
 have hms10_0 := NB375_373.out
 have hms10_1 := NB375_374.out
 have hs11 : w8.cell? ⟨gb375, 1, none⟩ = some (.slice none 0 0) := (blk_cell BK375.out 1).trans rfl
 have hfs11 := blk_frozen BK375.out 1
 have hns11_0 := NB373_375.out
 have hns11_1 := NB374_375.out
 have hms11_0 := NB375_373.out
 have hms11_1 := NB375_374.out
 refine skip_ (w1 := ?_) (by rfl) rfl ?_ ?_
 rotate_left
 ·go_simp
  rfl
 refine hK.out _ _ ⟨((cell_far (p := ⟨gb375, _, none⟩) NB373_375.out _).trans (((cell_far (p := ⟨gb375, _, none⟩) NB373_375.out _).trans (hHeld.1)))), ((cell_far (p := ⟨gb375, _, none⟩) NB373_375.out _).trans (((cell_far (p := ⟨gb375, _, none⟩) NB373_375.out _).trans (hHeld.2.1)))), ((cell_far (p := ⟨gb375, _, none⟩) NB374_375.out _).trans (((cell_far (p := ⟨gb375, _, none⟩) NB374_375.out _).trans (hHeld.2.2.1)))), ((cell_far (p := ⟨gb375, _, none⟩) NB374_375.out _).trans (((cell_far (p := ⟨gb375, _, none⟩) NB374_375.out _).trans (hHeld.2.2.2))))⟩ (fun hHeld => ?_)
 clear hK K
 refine done_ (done_of HT_.out (by kernel_rfl)) ?_
 try go_wp2
 refine bodyPost_ret (results_cell_row rfl _ _ gb375 88 #[.bool (a0_0 != a1_0), .slice Ao9 t376.length co9] (0, 0) _ rfl (by (with_reducible repeat (first | refine blk_drewN ?_ _ | refine blk_drew ?_ | refine blk_alloc ?_ _)); refine blk_put (cs := #[.bool (a0_0 != a1_0), .slice none 0 0]) ?_ 1 _ rfl; (with_reducible repeat (first | refine blk_drewN ?_ _ | refine blk_drew ?_ | refine blk_alloc ?_ _)); refine blk_put (cs := #[.bool false, .slice none 0 0]) ?_ 0 _ rfl; (with_reducible repeat (first | refine blk_drewN ?_ _ | refine blk_drew ?_ | refine blk_alloc ?_ _)); exact BK375.out) Tryz.underlying88 rfl (by kernel_rfl)) rfl ?_
 exact ⟨_, fe, by (with_reducible repeat (first | apply Kd.R_alloc | apply Kd.R_drewN | apply Kd.R_drew)); exact Kd.R_mono (Kd.R_far (p := ⟨gb375, 1, none⟩) (Kd.R_far (p := ⟨gb375, 0, none⟩) (Kd.R_types HO378.out BK375.out (by decide)) (fun _ hk => hk.2) (.bool (a0_0 != a1_0))) (fun _ hk => hk.2) (.slice Ao9 t376.length co9)) (fun _ hk => trivial), bqs⟩
theorem bIMul.calls (k : Nat) (a0 : ByteArray) (a1 : ByteArray) (r1 : ByteArray) (r2 : Int) (w : World) (hL : LaidW w) (h : bIMul.f k a0 a1 = some (r1, r2)) :
  Calls Tryz.prog 39 #[.string a0, .string a1] w fun e w' => e = .returned (.tuple #[.string r1, .int .i64 r2]) ∧ Below w.heap.size w w' := by
 have hu88 := Tryz.underlying88
 have HB := Z0.mk (Below.refl w.heap.size w)
 have H := h
 clear h
 unfold bIMul.f at H
 obtain ⟨⟨t379, t380, t383, t384, t387⟩, A3, H⟩ := bnd H
 try dsimp only at H
 rcases je H with ⟨-, c4b0, c4b1, H⟩ | ⟨c4, c4b0, c4b1, H⟩
 ·obtain ⟨⟨t390, t391⟩, A5, H⟩ := bnd H
  try dsimp only at H
  obtain ⟨⟨t394, t395⟩, A6, H⟩ := bnd H
  try dsimp only at H
  simp only [Option.some.injEq, Prod.mk.injEq] at H
  obtain ⟨rfl, rfl⟩ := H
  go_enter Tryz.func39, Tryz.ntmps39
  go_wp2_with (first | ((with_reducible refine gc_ 86 rfl ?_); refine gL 12 Tryz.func86 (bIpair.calls _ _ _ _ _ _ _ _ _ A3.out) ?_; rintro _ w7 ⟨v381, v385, rfl, ho0, ho1, hb⟩; refine ⟨_, rfl, ?_⟩; have HO382 := fN ho0; have HO386 := fN ho1; replace HB := fB HB hb; clear hb ho0 ho1) | ((with_reducible refine gd_ 6 rfl ?_); refine bxE 6 #[.bool false, .slice none 0 0] 88 ?_; intro gb388 hg w8 hbox hb; have BK388 := Z0.mk hbox; have GW388 := fE HB hg; have GE388 := fE HB hg; replace HO382 := fR HO382 hb; replace HO386 := fR HO386 hb; replace HB := fB HB hb; clear hb hbox hg) | ((with_reducible refine gd_ 7 rfl ?_); refine bxE 7 #[.bool false, .slice none 0 0] 88 ?_; intro gb389 hg w9 hbox hb; have BK389 := Z0.mk hbox; have GW389 := fE HB hg; have GE389 := fE HB hg; have NB388_389 := fl BK388 hg; have NB389_388 := fg BK388 hg; replace HO382 := fR HO382 hb; replace HO386 := fR HO386 hb; replace BK388 := fk BK388 hb; replace HB := fB HB hb; clear hb hbox hg; have hnb10 := NB388_389.out; have hnc10 := NB389_388.out; obtain ⟨hcz11_0, hcz11_1, hfz11_0, hfz11_1⟩ := b2 BK388; obtain ⟨Ao12, co12, eo12⟩ := Kd.R_slice HO382.out; subst eo12; obtain ⟨hcz13_0, hcz13_1, hfz13_0, hfz13_1⟩ := b2 BK389; obtain ⟨Ao14, co14, eo14⟩ := Kd.R_slice HO386.out; subst eo14) | ((with_reducible refine gc_ 96 rfl ?_); refine goesL_ (some 21) rfl rfl Tryz.func96 (by kernel_rfl) rfl #[.agg #[.bool t379, .slice Ao12 t380.length co12], .agg #[.bool t383, .slice Ao14 t384.length co14]] rfl (by (try simp only [List.map_toArray, List.map_cons, List.map_nil]); first | done | rfl | (simp only [List.length_drop, List.length_take]; rfl)) ?_; (with_reducible refine (bIproduct.calls k t379 _ _ t380 t383 _ _ t384 t390 t391 _ ?side1 ?side2 ?side3 ?side4 A5.out).mono ?_); (case side1 => refine (Kd.R_reads' (e := 3) (base := w.heap.size) (ok := fun k_ => some k_ ≠ (.slice Ao14 t384.length co14 : Value).ownBlock) (n := t380.length) (c := co12) ?_).2.2; exact (by (with_reducible repeat (first | apply Kd.R_alloc | apply Kd.R_drewN | apply Kd.R_drew)); exact (Kd.R_mono (Kd.R_mono (Kd.R_far (p := ⟨gb389, 1, none⟩) (Kd.R_far (p := ⟨gb389, 0, none⟩) (Kd.R_far (p := ⟨gb388, 1, none⟩) (Kd.R_far (p := ⟨gb388, 0, none⟩) (Kd.R_types (Kd.R_types HO382.out BK388.out (by decide)) BK389.out (by decide)) (fun _ hk => hk.1.2) (.bool t379)) (fun _ hk => hk.1.2) (.slice Ao12 t380.length co12)) (fun _ hk => hk.2) (.bool t383)) (fun _ hk => hk.2) (.slice Ao14 t384.length co14)) (fun _ h_ => h_.1)) (fun _ h_ => h_.1)))); (case side2 => exact (Kd.R_reads' HO382.out).2.1); (case side3 => refine (Kd.R_reads' (e := 3) (base := w.heap.size) (ok := fun k_ => some k_ ≠ (.slice Ao12 t380.length co12 : Value).ownBlock) (n := t384.length) (c := co14) ?_).2.2; exact (by (with_reducible repeat (first | apply Kd.R_alloc | apply Kd.R_drewN | apply Kd.R_drew)); exact (Kd.R_mono (Kd.R_mono (Kd.R_far (p := ⟨gb389, 1, none⟩) (Kd.R_far (p := ⟨gb389, 0, none⟩) (Kd.R_far (p := ⟨gb388, 1, none⟩) (Kd.R_far (p := ⟨gb388, 0, none⟩) (Kd.R_types (Kd.R_types HO386.out BK388.out (by decide)) BK389.out (by decide)) (fun _ hk => hk.1.2) (.bool t379)) (fun _ hk => hk.1.2) (.slice Ao12 t380.length co12)) (fun _ hk => hk.2) (.bool t383)) (fun _ hk => hk.2) (.slice Ao14 t384.length co14)) (fun _ h_ => h_.1)) (fun _ h_ => h_.1)))); (case side4 => exact (Kd.R_reads' HO386.out).2.1); rintro e w15 ⟨v392, rfl, ho0, hb⟩; refine ⟨_, rfl, ?_⟩; have HO393 := Z0.mk (Kd.R_lower (Kd.R_new' (Kd.R_new' ho0 (Kd.R_lt (by (with_reducible repeat (first | apply Kd.R_alloc | apply Kd.R_drewN | apply Kd.R_drew)); exact (Kd.R_mono (Kd.R_mono (Kd.R_far (p := ⟨gb389, 1, none⟩) (Kd.R_far (p := ⟨gb389, 0, none⟩) (Kd.R_far (p := ⟨gb388, 1, none⟩) (Kd.R_far (p := ⟨gb388, 0, none⟩) (Kd.R_types (Kd.R_types HO382.out BK388.out (by decide)) BK389.out (by decide)) (fun _ hk => hk.1.2) (.bool t379)) (fun _ hk => hk.1.2) (.slice Ao12 t380.length co12)) (fun _ hk => hk.2) (.bool t383)) (fun _ hk => hk.2) (.slice Ao14 t384.length co14)) (fun _ h_ => h_.1)) (fun _ h_ => h_.1))))) (Kd.R_lt (by (with_reducible repeat (first | apply Kd.R_alloc | apply Kd.R_drewN | apply Kd.R_drew)); exact (Kd.R_mono (Kd.R_mono (Kd.R_far (p := ⟨gb389, 1, none⟩) (Kd.R_far (p := ⟨gb389, 0, none⟩) (Kd.R_far (p := ⟨gb388, 1, none⟩) (Kd.R_far (p := ⟨gb388, 0, none⟩) (Kd.R_types (Kd.R_types HO386.out BK388.out (by decide)) BK389.out (by decide)) (fun _ hk => hk.1.2) (.bool t379)) (fun _ hk => hk.1.2) (.slice Ao12 t380.length co12)) (fun _ hk => hk.2) (.bool t383)) (fun _ hk => hk.2) (.slice Ao14 t384.length co14)) (fun _ h_ => h_.1)) (fun _ h_ => h_.1))))) (below_size bqs)); replace HO382 := Z0.mk (Kd.R_elder' (by (with_reducible repeat (first | apply Kd.R_alloc | apply Kd.R_drewN | apply Kd.R_drew)); exact (Kd.R_mono (Kd.R_mono (Kd.R_far (p := ⟨gb389, 1, none⟩) (Kd.R_far (p := ⟨gb389, 0, none⟩) (Kd.R_far (p := ⟨gb388, 1, none⟩) (Kd.R_far (p := ⟨gb388, 0, none⟩) (Kd.R_types (Kd.R_types HO382.out BK388.out (by decide)) BK389.out (by decide)) (fun _ hk => hk.1.2) (.bool t379)) (fun _ hk => hk.1.2) (.slice Ao12 t380.length co12)) (fun _ hk => hk.2) (.bool t383)) (fun _ hk => hk.2) (.slice Ao14 t384.length co14)) (fun _ h_ => h_.1)) (fun _ h_ => h_.1))) (Kd.R_base ho0) hb); replace HO386 := Z0.mk (Kd.R_elder' (by (with_reducible repeat (first | apply Kd.R_alloc | apply Kd.R_drewN | apply Kd.R_drew)); exact (Kd.R_mono (Kd.R_mono (Kd.R_far (p := ⟨gb389, 1, none⟩) (Kd.R_far (p := ⟨gb389, 0, none⟩) (Kd.R_far (p := ⟨gb388, 1, none⟩) (Kd.R_far (p := ⟨gb388, 0, none⟩) (Kd.R_types (Kd.R_types HO386.out BK388.out (by decide)) BK389.out (by decide)) (fun _ hk => hk.1.2) (.bool t379)) (fun _ hk => hk.1.2) (.slice Ao12 t380.length co12)) (fun _ hk => hk.2) (.bool t383)) (fun _ hk => hk.2) (.slice Ao14 t384.length co14)) (fun _ h_ => h_.1)) (fun _ h_ => h_.1))) (Kd.R_base ho0) hb); replace BK388 := Z0.mk (blk_below (g := gb388) (o := .cells #[.bool t379, .slice Ao12 t380.length co12] 88 (0, 0)) (by (with_reducible repeat (first | refine blk_drewN ?_ _ | refine blk_drew ?_ | refine blk_alloc ?_ _)); refine blk_far ?_ NB388_389.out _; (with_reducible repeat (first | refine blk_drewN ?_ _ | refine blk_drew ?_ | refine blk_alloc ?_ _)); refine blk_far ?_ NB388_389.out _; (with_reducible repeat (first | refine blk_drewN ?_ _ | refine blk_drew ?_ | refine blk_alloc ?_ _)); refine blk_put (cs := #[.bool t379, .slice none 0 0]) ?_ 1 _ rfl; (with_reducible repeat (first | refine blk_drewN ?_ _ | refine blk_drew ?_ | refine blk_alloc ?_ _)); refine blk_put (cs := #[.bool false, .slice none 0 0]) ?_ 0 _ rfl; (with_reducible repeat (first | refine blk_drewN ?_ _ | refine blk_drew ?_ | refine blk_alloc ?_ _)); exact BK388.out) hb); replace BK389 := Z0.mk (blk_below (g := gb389) (o := .cells #[.bool t383, .slice Ao14 t384.length co14] 88 (0, 0)) (by (with_reducible repeat (first | refine blk_drewN ?_ _ | refine blk_drew ?_ | refine blk_alloc ?_ _)); refine blk_put (cs := #[.bool t383, .slice none 0 0]) ?_ 1 _ rfl; (with_reducible repeat (first | refine blk_drewN ?_ _ | refine blk_drew ?_ | refine blk_alloc ?_ _)); refine blk_put (cs := #[.bool false, .slice none 0 0]) ?_ 0 _ rfl; (with_reducible repeat (first | refine blk_drewN ?_ _ | refine blk_drew ?_ | refine blk_alloc ?_ _)); refine blk_far ?_ NB389_388.out _; (with_reducible repeat (first | refine blk_drewN ?_ _ | refine blk_drew ?_ | refine blk_alloc ?_ _)); refine blk_far ?_ NB389_388.out _; (with_reducible repeat (first | refine blk_drewN ?_ _ | refine blk_drew ?_ | refine blk_alloc ?_ _)); exact BK389.out) hb); replace HB := fB HB hb; clear hb ho0; obtain ⟨Ao16, co16, eo16⟩ := Kd.R_slice HO393.out; subst eo16) | ((with_reducible refine gc_ 87 rfl ?_); refine gL 22 Tryz.func87 (bIwritten.calls t390 _ _ t391 t394 t395 _ ?side3 ?side1 ?side2 A6.out) ?_; (case side1 => exact cq (Kd.R_reads' HO393.out).2.2); (case side2 => exact (Kd.R_reads' HO393.out).2.1); (case side3 => exact LaidW.below hL bqs); rintro _ w17 ⟨rfl, hb⟩; refine ⟨_, rfl, ?_⟩; replace HO382 := fR HO382 hb; replace HO386 := fR HO386 hb; replace HO393 := fR HO393 hb; replace BK388 := fk BK388 hb; replace BK389 := fk BK389 hb; replace HB := fB HB hb; clear hb))
  go_ret2
  exact finE
 simp only [Option.some.injEq, Prod.mk.injEq] at H
 obtain ⟨rfl, rfl⟩ := H
 go_enter Tryz.func39, Tryz.ntmps39
 go_wp2_with (first | ((with_reducible refine gc_ 86 rfl ?_); refine gL 12 Tryz.func86 (bIpair.calls _ _ _ _ _ _ _ _ _ A3.out) ?_; rintro _ w18 ⟨v381, v385, rfl, ho0, ho1, hb⟩; refine ⟨_, rfl, ?_⟩; have HO382 := fN ho0; have HO386 := fN ho1; replace HB := fB HB hb; clear hb ho0 ho1) | ((with_reducible refine gd_ 6 rfl ?_); refine bxE 6 #[.bool false, .slice none 0 0] 88 ?_; intro gb388 hg w19 hbox hb; have BK388 := Z0.mk hbox; have GW388 := fE HB hg; have GE388 := fE HB hg; replace HO382 := fR HO382 hb; replace HO386 := fR HO386 hb; replace HB := fB HB hb; clear hb hbox hg) | ((with_reducible refine gd_ 7 rfl ?_); refine bxE 7 #[.bool false, .slice none 0 0] 88 ?_; intro gb389 hg w20 hbox hb; have BK389 := Z0.mk hbox; have GW389 := fE HB hg; have GE389 := fE HB hg; have NB388_389 := fl BK388 hg; have NB389_388 := fg BK388 hg; replace HO382 := fR HO382 hb; replace HO386 := fR HO386 hb; replace BK388 := fk BK388 hb; replace HB := fB HB hb; clear hb hbox hg; have hnb21 := NB388_389.out; have hnc21 := NB389_388.out; obtain ⟨hcz22_0, hcz22_1, hfz22_0, hfz22_1⟩ := b2 BK388; obtain ⟨Ao23, co23, eo23⟩ := Kd.R_slice HO382.out; subst eo23; obtain ⟨hcz24_0, hcz24_1, hfz24_0, hfz24_1⟩ := b2 BK389; obtain ⟨Ao25, co25, eo25⟩ := Kd.R_slice HO386.out; subst eo25))
 go_ret2
 exact finE
theorem rAboth.calls (k : Nat) (a0 : ByteArray) (a1 : ByteArray) (a2 : ByteArray) (a3 : ByteArray) (r1 : ByteArray) (r2 : ByteArray) (r3 : Int) (w : World) (hL : LaidW w) (h : rAboth.f k a0 a1 a2 a3 = some (r1, r2, r3)) :
  Calls Tryz.prog 91 #[.string a0, .string a1, .string a2, .string a3] w fun e w' => e = .returned (.tuple #[.string r1, .string r2, .int .i64 r3]) ∧ Below w.heap.size w w' := by
 have HB := Z0.mk (Below.refl w.heap.size w)
 have H := h
 clear h
 unfold rAboth.f at H
 obtain ⟨⟨t396, t397⟩, A5, H⟩ := bnd H
 try dsimp only at H
 rcases je H with ⟨-, c6b0, c6b1, H⟩ | ⟨c6, c6b0, c6b1, H⟩
 ·obtain ⟨⟨t398, t399⟩, A7, H⟩ := bnd H
  try dsimp only at H
  simp only [Option.some.injEq, Prod.mk.injEq] at H
  obtain ⟨rfl, rfl, rfl⟩ := H
  go_enter Tryz.func91, Tryz.ntmps91
  go_wp2_with (first | ((with_reducible refine gc_ 39 rfl ?_); refine goB (some 17) Tryz.func39 #[.string a0, .string a1] bq (bIMul.calls k a0 a1 t396 t397 _ (hL.below bq) A5.out) ?_; clear HB; intro w8 HB) | ((with_reducible refine gc_ 39 rfl ?_); refine goB (some 26) Tryz.func39 #[.string a2, .string a3] bq (bIMul.calls k a2 a3 t398 t399 _ (hL.below bq) A7.out) ?_; clear HB; intro w9 HB))
  go_ret3
  exact finE
 simp only [Option.some.injEq, Prod.mk.injEq] at H
 obtain ⟨rfl, rfl, rfl⟩ := H
 go_enter Tryz.func91, Tryz.ntmps91
 go_wp2_with (first | ((with_reducible refine gc_ 39 rfl ?_); refine goB (some 17) Tryz.func39 #[.string a0, .string a1] bq (bIMul.calls k a0 a1 t396 t397 _ (hL.below bq) A5.out) ?_; clear HB; intro w10 HB))
 go_ret3
 exact finE
end Go.Proofs.YthnfajboebaajaaGreatDoor.PA
namespace Go.Proofs.YthnfajboebaajaaGreatDoor
set_option linter.unusedVariables false
open Go.RowKit Go.Proofs.WWords Go.Proofs.WLast Go.Proofs.WMore PA
attribute [local go_sem] max2_int min2_int max_two min_two max_three min_three max_four min_four
set_option linter.unusedSimpArgs false
theorem gcellF {w W : World} {g : Nat} {v : Value} {t : TypeId} (h : w.heap[g]? = some (.cells #[v] t (0, 0))) (hb : Below w.heap.size w W) : W.cell? ⟨g, 0, none⟩ = some v := by
 have h2 : W.heap[g]? = some (.cells #[v] t (0, 0)) := (hb.block g (Array.getElem?_eq_some_iff.1 h).1).trans h
 exact blk_cell h2 0
theorem rAaddop.calls (k : Nat) (a0_0 : ByteArray) (a0_1 : ByteArray) (a0_2 : ByteArray) (a0_3 : ByteArray) (r1 : ByteArray) (r2 : ByteArray) (r3 : Int) (gc : Nat) (w : World) (hgc : w.heap[gc]? = some (.cells #[.func (.func 103) #[] #[]] 41 (0, 0))) (hL : LaidW w) (h : rAaddop.f k a0_0 a0_1 a0_2 a0_3 = some (r1, r2, r3)) :
  Calls Tryz.prog 200 #[.agg #[.string a0_0, .string a0_1, .string a0_2, .string a0_3], .pointer (some ⟨gc, 0, none⟩)] w fun e w' => e = .returned (.tuple #[.string r1, .string r2, .int .i64 r3]) ∧ Below w.heap.size w w' := by
 have hu95 := Tryz.underlying95
 have HB := Z0.mk (Below.refl w.heap.size w)
 have H := h
 clear h
 unfold rAaddop.f at H
 obtain ⟨⟨t429, t430, t431⟩, A2, H⟩ := bnd H
 try dsimp only at H
 rcases je H with ⟨-, c3b0, c3b1, H⟩ | ⟨c3, c3b0, c3b1, H⟩
 ·obtain ⟨⟨t432, t433⟩, A4, H⟩ := bnd H
  try dsimp only at H
  rcases je H with ⟨-, c5b0, c5b1, H⟩ | ⟨c5, c5b0, c5b1, H⟩
  ·obtain ⟨⟨t434, t435⟩, A6, H⟩ := bnd H
   try dsimp only at H
   simp only [Option.some.injEq, Prod.mk.injEq] at H
   obtain ⟨rfl, rfl, rfl⟩ := H
   go_enter Tryz.func200, Tryz.ntmps200
   go_wp2_with (first | ((with_reducible refine gd_ 2 rfl ?_); refine bxE 2 #[.string a0_0, .string a0_1, .string a0_2, .string a0_3] 95 ?_; intro gb428 hg w7 hbox hb; have BK428 := Z0.mk hbox; have GW428 := fE HB hg; have GE428 := fE HB hg; replace HB := fB HB hb; clear hb hbox hg; obtain ⟨hcz8_0, hcz8_1, hcz8_2, hcz8_3, hfz8_0, hfz8_1, hfz8_2, hfz8_3⟩ := b4 BK428) | ((with_reducible refine gc_ 91 rfl ?_); refine gL 17 Tryz.func91 (rAboth.calls k a0_0 a0_3 a0_2 a0_1 t429 t430 t431 _ ?side1 A2.out) ?_; (case side1 => exact LaidW.below hL bqs); rintro _ w9 ⟨rfl, hb⟩; refine ⟨_, rfl, ?_⟩; replace BK428 := fk BK428 hb; replace HB := fB HB hb; have hgcF := gcellF hgc HB.out; clear hb) | (go_at_call 103; (with_reducible refine (bIAdd.calls k t429 t430 t432 t433 _ ?side1 A4.out).mono ?_); (case side1 => exact LaidW.below hL bqs); rintro e w10 ⟨rfl, hb⟩; replace BK428 := fk BK428 hb; replace HB := fB HB hb; clear hb; obtain ⟨hcz11_0, hcz11_1, hcz11_2, hcz11_3, hfz11_0, hfz11_1, hfz11_2, hfz11_3⟩ := b4 BK428) | ((with_reducible refine gc_ 39 rfl ?_); refine gL 39 Tryz.func39 (bIMul.calls k a0_1 a0_3 t434 t435 _ ?side1 A6.out) ?_; (case side1 => exact LaidW.below hL bqs); rintro _ w12 ⟨rfl, hb⟩; refine ⟨_, rfl, ?_⟩; replace BK428 := fk BK428 hb; replace HB := fB HB hb; clear hb))
   go_ret3
   exact finE
  simp only [Option.some.injEq, Prod.mk.injEq] at H
  obtain ⟨rfl, rfl, rfl⟩ := H
  go_enter Tryz.func200, Tryz.ntmps200
  go_wp2_with (first | ((with_reducible refine gd_ 2 rfl ?_); refine bxE 2 #[.string a0_0, .string a0_1, .string a0_2, .string a0_3] 95 ?_; intro gb428 hg w13 hbox hb; have BK428 := Z0.mk hbox; have GW428 := fE HB hg; have GE428 := fE HB hg; replace HB := fB HB hb; clear hb hbox hg; obtain ⟨hcz14_0, hcz14_1, hcz14_2, hcz14_3, hfz14_0, hfz14_1, hfz14_2, hfz14_3⟩ := b4 BK428) | ((with_reducible refine gc_ 91 rfl ?_); refine gL 17 Tryz.func91 (rAboth.calls k a0_0 a0_3 a0_2 a0_1 t429 t430 t431 _ ?side1 A2.out) ?_; (case side1 => exact LaidW.below hL bqs); rintro _ w15 ⟨rfl, hb⟩; refine ⟨_, rfl, ?_⟩; replace BK428 := fk BK428 hb; replace HB := fB HB hb; have hgcF := gcellF hgc HB.out; clear hb) | (go_at_call 103; (with_reducible refine (bIAdd.calls k t429 t430 t432 t433 _ ?side1 A4.out).mono ?_); (case side1 => exact LaidW.below hL bqs); rintro e w16 ⟨rfl, hb⟩; replace BK428 := fk BK428 hb; replace HB := fB HB hb; clear hb))
  go_ret3
  exact finE
 simp only [Option.some.injEq, Prod.mk.injEq] at H
 obtain ⟨rfl, rfl, rfl⟩ := H
 go_enter Tryz.func200, Tryz.ntmps200
 go_wp2_with (first | ((with_reducible refine gd_ 2 rfl ?_); refine bxE 2 #[.string a0_0, .string a0_1, .string a0_2, .string a0_3] 95 ?_; intro gb428 hg w17 hbox hb; have BK428 := Z0.mk hbox; have GW428 := fE HB hg; have GE428 := fE HB hg; replace HB := fB HB hb; clear hb hbox hg; obtain ⟨hcz18_0, hcz18_1, hcz18_2, hcz18_3, hfz18_0, hfz18_1, hfz18_2, hfz18_3⟩ := b4 BK428) | ((with_reducible refine gc_ 91 rfl ?_); refine gL 17 Tryz.func91 (rAboth.calls k a0_0 a0_3 a0_2 a0_1 t429 t430 t431 _ ?side1 A2.out) ?_; (case side1 => exact LaidW.below hL bqs); rintro _ w19 ⟨rfl, hb⟩; refine ⟨_, rfl, ?_⟩; replace BK428 := fk BK428 hb; replace HB := fB HB hb; have hgcF := gcellF hgc HB.out; clear hb))
 go_ret3
 exact finE
theorem rAsubop.calls (k : Nat) (a0_0 : ByteArray) (a0_1 : ByteArray) (a0_2 : ByteArray) (a0_3 : ByteArray) (r1 : ByteArray) (r2 : ByteArray) (r3 : Int) (gc : Nat) (w : World) (hgc : w.heap[gc]? = some (.cells #[.func (.func 33) #[] #[]] 41 (0, 0))) (hL : LaidW w) (h : rAsubop.f k a0_0 a0_1 a0_2 a0_3 = some (r1, r2, r3)) :
  Calls Tryz.prog 200 #[.agg #[.string a0_0, .string a0_1, .string a0_2, .string a0_3], .pointer (some ⟨gc, 0, none⟩)] w fun e w' => e = .returned (.tuple #[.string r1, .string r2, .int .i64 r3]) ∧ Below w.heap.size w w' := by
 have hu95 := Tryz.underlying95
 have HB := Z0.mk (Below.refl w.heap.size w)
 have H := h
 clear h
 unfold rAsubop.f at H
 obtain ⟨⟨t429, t430, t431⟩, A2, H⟩ := bnd H
 try dsimp only at H
 rcases je H with ⟨-, c3b0, c3b1, H⟩ | ⟨c3, c3b0, c3b1, H⟩
 ·obtain ⟨⟨t432, t433⟩, A4, H⟩ := bnd H
  try dsimp only at H
  rcases je H with ⟨-, c5b0, c5b1, H⟩ | ⟨c5, c5b0, c5b1, H⟩
  ·obtain ⟨⟨t434, t435⟩, A6, H⟩ := bnd H
   try dsimp only at H
   simp only [Option.some.injEq, Prod.mk.injEq] at H
   obtain ⟨rfl, rfl, rfl⟩ := H
   go_enter Tryz.func200, Tryz.ntmps200
   go_wp2_with (first | ((with_reducible refine gd_ 2 rfl ?_); refine bxE 2 #[.string a0_0, .string a0_1, .string a0_2, .string a0_3] 95 ?_; intro gb428 hg w7 hbox hb; have BK428 := Z0.mk hbox; have GW428 := fE HB hg; have GE428 := fE HB hg; replace HB := fB HB hb; clear hb hbox hg; obtain ⟨hcz8_0, hcz8_1, hcz8_2, hcz8_3, hfz8_0, hfz8_1, hfz8_2, hfz8_3⟩ := b4 BK428) | ((with_reducible refine gc_ 91 rfl ?_); refine gL 17 Tryz.func91 (rAboth.calls k a0_0 a0_3 a0_2 a0_1 t429 t430 t431 _ ?side1 A2.out) ?_; (case side1 => exact LaidW.below hL bqs); rintro _ w9 ⟨rfl, hb⟩; refine ⟨_, rfl, ?_⟩; replace BK428 := fk BK428 hb; replace HB := fB HB hb; have hgcF := gcellF hgc HB.out; clear hb) | (go_at_call 33; (with_reducible refine (bISub.calls k t429 t430 t432 t433 _ ?side1 A4.out).mono ?_); (case side1 => exact LaidW.below hL bqs); rintro e w10 ⟨rfl, hb⟩; replace BK428 := fk BK428 hb; replace HB := fB HB hb; clear hb; obtain ⟨hcz11_0, hcz11_1, hcz11_2, hcz11_3, hfz11_0, hfz11_1, hfz11_2, hfz11_3⟩ := b4 BK428) | ((with_reducible refine gc_ 39 rfl ?_); refine gL 39 Tryz.func39 (bIMul.calls k a0_1 a0_3 t434 t435 _ ?side1 A6.out) ?_; (case side1 => exact LaidW.below hL bqs); rintro _ w12 ⟨rfl, hb⟩; refine ⟨_, rfl, ?_⟩; replace BK428 := fk BK428 hb; replace HB := fB HB hb; clear hb))
   go_ret3
   exact finE
  simp only [Option.some.injEq, Prod.mk.injEq] at H
  obtain ⟨rfl, rfl, rfl⟩ := H
  go_enter Tryz.func200, Tryz.ntmps200
  go_wp2_with (first | ((with_reducible refine gd_ 2 rfl ?_); refine bxE 2 #[.string a0_0, .string a0_1, .string a0_2, .string a0_3] 95 ?_; intro gb428 hg w13 hbox hb; have BK428 := Z0.mk hbox; have GW428 := fE HB hg; have GE428 := fE HB hg; replace HB := fB HB hb; clear hb hbox hg; obtain ⟨hcz14_0, hcz14_1, hcz14_2, hcz14_3, hfz14_0, hfz14_1, hfz14_2, hfz14_3⟩ := b4 BK428) | ((with_reducible refine gc_ 91 rfl ?_); refine gL 17 Tryz.func91 (rAboth.calls k a0_0 a0_3 a0_2 a0_1 t429 t430 t431 _ ?side1 A2.out) ?_; (case side1 => exact LaidW.below hL bqs); rintro _ w15 ⟨rfl, hb⟩; refine ⟨_, rfl, ?_⟩; replace BK428 := fk BK428 hb; replace HB := fB HB hb; have hgcF := gcellF hgc HB.out; clear hb) | (go_at_call 33; (with_reducible refine (bISub.calls k t429 t430 t432 t433 _ ?side1 A4.out).mono ?_); (case side1 => exact LaidW.below hL bqs); rintro e w16 ⟨rfl, hb⟩; replace BK428 := fk BK428 hb; replace HB := fB HB hb; clear hb))
  go_ret3
  exact finE
 simp only [Option.some.injEq, Prod.mk.injEq] at H
 obtain ⟨rfl, rfl, rfl⟩ := H
 go_enter Tryz.func200, Tryz.ntmps200
 go_wp2_with (first | ((with_reducible refine gd_ 2 rfl ?_); refine bxE 2 #[.string a0_0, .string a0_1, .string a0_2, .string a0_3] 95 ?_; intro gb428 hg w17 hbox hb; have BK428 := Z0.mk hbox; have GW428 := fE HB hg; have GE428 := fE HB hg; replace HB := fB HB hb; clear hb hbox hg; obtain ⟨hcz18_0, hcz18_1, hcz18_2, hcz18_3, hfz18_0, hfz18_1, hfz18_2, hfz18_3⟩ := b4 BK428) | ((with_reducible refine gc_ 91 rfl ?_); refine gL 17 Tryz.func91 (rAboth.calls k a0_0 a0_3 a0_2 a0_1 t429 t430 t431 _ ?side1 A2.out) ?_; (case side1 => exact LaidW.below hL bqs); rintro _ w19 ⟨rfl, hb⟩; refine ⟨_, rfl, ?_⟩; replace BK428 := fk BK428 hb; replace HB := fB HB hb; have hgcF := gcellF hgc HB.out; clear hb))
 go_ret3
 exact finE
theorem rAoperations_1.calls (k : Nat) (a0_0 : ByteArray) (a0_1 : ByteArray) (a0_2 : ByteArray) (a0_3 : ByteArray) (r1 : ByteArray) (r2 : ByteArray) (r3 : Int) (w : World) (hL : LaidW w) (h : rAoperations_1.f k a0_0 a0_1 a0_2 a0_3 = some (r1, r2, r3)) :
  Calls Tryz.prog 174 #[.agg #[.string a0_0, .string a0_1, .string a0_2, .string a0_3]] w fun e w' => e = .returned (.tuple #[.string r1, .string r2, .int .i64 r3]) ∧ Below w.heap.size w w' := by
 have hu95 := Tryz.underlying95
 have HB := Z0.mk (Below.refl w.heap.size w)
 have H := h
 clear h
 unfold rAoperations_1.f at H
 obtain ⟨⟨t429, t430, t431⟩, A2, H⟩ := bnd H
 try dsimp only at H
 simp only [Option.some.injEq, Prod.mk.injEq] at H
 obtain ⟨rfl, rfl, rfl⟩ := H
 go_enter Tryz.func174, Tryz.ntmps174
 go_wp2_with (first | ((with_reducible refine gd_ 1 rfl ?_); refine bxE 1 #[.string a0_0, .string a0_1, .string a0_2, .string a0_3] 95 ?_; intro gb428 hg w3 hbox hb; have BK428 := Z0.mk hbox; have GW428 := fE HB hg; have GE428 := fE HB hg; replace HB := fB HB hb; clear hb hbox hg; obtain ⟨hcz4_0, hcz4_1, hcz4_2, hcz4_3, hfz4_0, hfz4_1, hfz4_2, hfz4_3⟩ := b4 BK428) | ((with_reducible refine gc_ 91 rfl ?_); refine gL 13 Tryz.func91 (rAboth.calls k a0_0 a0_2 a0_1 a0_3 t429 t430 t431 _ ?side1 A2.out) ?_; (case side1 => exact LaidW.below hL bqs); rintro _ w5 ⟨rfl, hb⟩; refine ⟨_, rfl, ?_⟩; replace BK428 := fk BK428 hb; replace HB := fB HB hb; clear hb))
 go_ret3
 exact finE
theorem rAoperations_2.calls (k : Nat) (a0_0 : ByteArray) (a0_1 : ByteArray) (a0_2 : ByteArray) (a0_3 : ByteArray) (r1 : ByteArray) (r2 : ByteArray) (r3 : Int) (w : World) (hL : LaidW w) (h : rAoperations_2.f k a0_0 a0_1 a0_2 a0_3 = some (r1, r2, r3)) :
  Calls Tryz.prog 175 #[.agg #[.string a0_0, .string a0_1, .string a0_2, .string a0_3]] w fun e w' => e = .returned (.tuple #[.string r1, .string r2, .int .i64 r3]) ∧ Below w.heap.size w w' := by
 have hu95 := Tryz.underlying95
 have HB := Z0.mk (Below.refl w.heap.size w)
 have H := h
 clear h
 unfold rAoperations_2.f at H
 rcases je H with ⟨-, c2b0, c2b1, H⟩ | ⟨c2, c2b0, c2b1, H⟩
 ·simp only [Option.some.injEq, Prod.mk.injEq] at H
  obtain ⟨rfl, rfl, rfl⟩ := H
  go_enter Tryz.func175, Tryz.ntmps175
  go_wp2_with (first | ((with_reducible refine gd_ 1 rfl ?_); refine bxE 1 #[.string a0_0, .string a0_1, .string a0_2, .string a0_3] 95 ?_; intro gb428 hg w3 hbox hb; have BK428 := Z0.mk hbox; have GW428 := fE HB hg; have GE428 := fE HB hg; replace HB := fB HB hb; clear hb hbox hg; obtain ⟨hcz4_0, hcz4_1, hcz4_2, hcz4_3, hfz4_0, hfz4_1, hfz4_2, hfz4_3⟩ := b4 BK428))
  go_ret3
  exact finE
 obtain ⟨⟨t429, t430, t431⟩, A5, H⟩ := bnd H
 try dsimp only at H
 simp only [Option.some.injEq, Prod.mk.injEq] at H
 obtain ⟨rfl, rfl, rfl⟩ := H
 go_enter Tryz.func175, Tryz.ntmps175
 go_wp2_with (first | ((with_reducible refine gd_ 1 rfl ?_); refine bxE 1 #[.string a0_0, .string a0_1, .string a0_2, .string a0_3] 95 ?_; intro gb428 hg w6 hbox hb; have BK428 := Z0.mk hbox; have GW428 := fE HB hg; have GE428 := fE HB hg; replace HB := fB HB hb; clear hb hbox hg; obtain ⟨hcz7_0, hcz7_1, hcz7_2, hcz7_3, hfz7_0, hfz7_1, hfz7_2, hfz7_3⟩ := b4 BK428) | ((with_reducible refine gc_ 91 rfl ?_); refine gL 16 Tryz.func91 (rAboth.calls k a0_0 a0_3 a0_1 a0_2 t429 t430 t431 _ ?side1 A5.out) ?_; (case side1 => exact LaidW.below hL bqs); rintro _ w8 ⟨rfl, hb⟩; refine ⟨_, rfl, ?_⟩; replace BK428 := fk BK428 hb; replace HB := fB HB hb; clear hb))
 go_ret3
 exact finE
end Go.Proofs.YthnfajboebaajaaGreatDoor
namespace Go.Proofs.YthnfajboebaajaaGreatDoor.PA
set_option linter.unusedVariables false
open Go.RowKit Go.Proofs.WWords Go.Proofs.WLast Go.Proofs.WMore
attribute [local go_sem] max2_int min2_int max_two min_two max_three min_three max_four min_four
set_option linter.unusedSimpArgs false
theorem rAcanonical.calls (a0 : ByteArray) (r : Bool) (w : World) (h : rAcanonical.f a0 = some r) :
  Calls Tryz.prog 77 #[.string a0] w fun e w' => e = .returned (.bool r) ∧ Below w.heap.size w w' := by
 have HB := Z0.mk (Below.refl w.heap.size w)
 have H := h
 clear h
 unfold rAcanonical.f at H
 obtain ⟨t110, A2, H⟩ := bnd H
 obtain rfl := Option.some.inj H
 go_enter Tryz.func77, Tryz.ntmps77
 go_wp2_with (first | ((with_reducible refine gc_ 83 rfl ?_); refine goB (some 4) Tryz.func83 #[.string a0] bq (bICheck.calls a0 t110 _ A2.out) ?_; clear HB; intro w3 HB))
 go_ret
 exact finE
end Go.Proofs.YthnfajboebaajaaGreatDoor.PA
namespace Go.Proofs.YthnfajboebaajaaGreatDoor
set_option linter.unusedVariables false
open Go.RowKit
def plainOp : Op → Bool
 | .move _ | .assign _ | .load _ _ | .binOp .. | .unOp .. | .indexAddr .. | .fieldAddr .. | .store .. => true
 | _ => false
theorem plain_about {P : Program} {o : Oper} (h : plainOp o.op = true) (w : World) (ρ : Operand → Value) : o.about P w ρ = none := by
 unfold Oper.about
 cases ho : o.op <;> first | rfl | (rw [ho] at h; cases h)
theorem plain_defer {o : Oper} (h : plainOp o.op = true) : ∀ c, o.op ≠ .defer c := by
 intro c hc
 rw [hc] at h
 cases h
def EndsPlain : Result Next → Prop
 | .ok (.value _) _ => True
 | .ok .skip _ => True
 | .halt _ _ => True
 | _ => False
theorem endsPlain_value {x : Result Value} : EndsPlain (x.andThen fun v w => .ok (.value v) w) := by
 cases x <;> exact trivial
theorem endsPlain_skip {x : Result Unit} : EndsPlain (x.andThen fun _ w => .ok .skip w) := by
 cases x <;> exact trivial
theorem plain_run {P : Program} {o : Oper} (h : plainOp o.op = true) (ρ : Operand → Value) (w : World) : EndsPlain ((execOp ρ o).run P w) := by
 unfold execOp
 cases ho : o.op <;> first | (rw [ho] at h; cases h; done) | skip
 all_goals simp only [Sem.run_bind, Sem.run_pure, bind_pure_comp, Sem.run_map]
 all_goals first | exact trivial | exact endsPlain_value | exact endsPlain_skip
theorem plain_wpIn {F : Fence} {n : Nat} {P : Program} {Q : Exit → Act → World → Prop} {o : Oper} (h : plainOp o.op = true) {a : Act} {w : World} {K K' : Act → World → Prop} (hK : ∀ a w, K a w → K' a w) (hw : o.wp P a w K Q) : o.wpIn F n P a w K' Q := by
 unfold Oper.wpIn
 refine ⟨fun f hf => (by rw [plain_about h] at hf; cases hf), ?_⟩
 rw [Oper.semAt_plain F _ _ (plain_defer h)]
 unfold Oper.wp at hw
 have he := plain_run (P := P) h a.eval w
 revert he hw
 generalize (execOp a.eval o).run P w = R
 intro hw he
 cases R with
 | ok x w' =>
  cases x <;> first | exact hK _ _ hw | exact he.elim
 | halt x w' => cases x <;> first | exact hw | exact hw.elim
theorem wpAnyIn_of_wpAny {F : Fence} {n : Nat} {P : Program} {md : Region.Mode} {ops : Array Oper} {Q : Exit → Act → World → Prop} (hp : ∀ (i : Nat) (o : Oper), ops[i]? = some o → plainOp o.op = true) (hlo : ¬ LetsOut Q) :
  ∀ (fuel : Nat) (listed : Array Bool) (a : Act) (w : World), wpAny P md ops Q fuel listed a w → wpAnyIn F n P md ops Q fuel listed a w
 | 0, _, _, _, h => h
 | fuel + 1, listed, a, w, h => ⟨h.1, fun i hi => by
  have h1 := h.2 i hi
  unfold wpOp at h1
  unfold wpOpIn
  cases ho : ops[i]? with
  | none => simp only [ho] at h1 ⊢; exact wpAnyIn_of_wpAny hp hlo fuel _ a w h1
  | some o =>
   simp only [ho] at h1 ⊢
   by_cases hw : Region.wanted o (yielded ops a.tmps) = true
   ·rw [if_pos hw] at h1 ⊢
    rcases h1 with h1 | h1
    ·exact plain_wpIn (hp i o ho) (fun a' w' h' => wpAnyIn_of_wpAny hp hlo fuel _ a' w' h') h1
    ·exact absurd h1.2 hlo
   ·rw [if_neg hw] at h1 ⊢
    exact ⟨fun f hf => (by rw [plain_about (hp i o ho)] at hf; cases hf), wpAnyIn_of_wpAny hp hlo fuel _ _ w h1⟩⟩
theorem plain_all {ops : Array Oper} (h : (ops.toList.all fun o => plainOp o.op) = true) : ∀ (i : Nat) (o : Oper), ops[i]? = some o → plainOp o.op = true := fun i o ho => by
 have hm : o ∈ ops.toList := List.mem_of_getElem? (by rw [Array.getElem?_toList]; exact ho)
 have := List.all_eq_true.1 h o hm
 simpa using this
def wpAnyS (P : Program) (md : Region.Mode) (ops : Array Oper) (Q : Exit → Act → World → Prop) (S : World → Prop) (z : Nat) : Nat → Array Bool → Act → World → Prop
 | 0, listed, a, w => Region.ready md ops listed = [] ∧ Q .normal a w
 | fuel + 1, listed, a, w =>
  (Region.ready md ops listed = [] → Q .normal a w) ∧
  ∀ i ∈ Region.ready md ops listed, wpOp P ops Q i (fun a' w' => ((listed.setIfInBounds i true).getD z true = false → S w') ∧ wpAnyS P md ops Q S z fuel (listed.setIfInBounds i true) a' w') a w
section
variable {P : Program} {ops : Array Oper} {Q : Exit → Act → World → Prop} {md : Region.Mode} {S : World → Prop} {z : Nat}
theorem wpAny_of_S : ∀ (fuel : Nat) (listed : Array Bool) (a : Act) (w : World), wpAnyS P md ops Q S z fuel listed a w → wpAny P md ops Q fuel listed a w
 | 0, _, _, _, h => h
 | fuel + 1, _, _, _, h => ⟨h.1, fun i hi => wpOp_mono (fun a' w' h' => wpAny_of_S fuel _ a' w' h'.2) (h.2 i hi)⟩
theorem wpAnyS_first {i : Nat} {oi : Oper} {v : Value} (hi : ops[i]? = some oi) (hsel : ∀ (j : Nat) (o : Oper) cs b, ops[j]? = some o → o.op ≠ .select cs b)
  (hQ : ∀ c a w, Q (.panic c) (a.put oi.dst v) w → Q (.panic c) a w) (hz : (ops[z]?.map fun oz => oz.after.toList.any fun e => Region.binds md e && e.on == i) = some true) :
  ∀ (fuel : Nat) (listed : Array Bool) (a : Act) (w : World),
   (∀ j oj, ops[j]? = some oj → j ≠ i → listed.getD j true = false → (∀ e ∈ oj.after, Region.binds md e = true → e.on ≠ i) → oi.apart ops oj = true) →
   i ∈ Region.ready md ops listed → listed.getD z true = false → YieldsIf P ops S oi v a → S w →
   wpAnyS P md ops Q S z fuel (listed.setIfInBounds i true) (a.put oi.dst v) w → wpAnyS P md ops Q S z (fuel + 1) listed a w := by
 intro fuel
 induction fuel with
 | zero =>
  intro listed a w _ hr _ hy hS H
  refine ⟨fun h => (by rw [h] at hr; cases hr), fun j hj => ?_⟩
  by_cases hji : j = i
  ·subst hji
   exact hy.wpOp hi hS ⟨fun _ => hS, H⟩
  have h0 := ready_mono hj hji
  rw [H.1] at h0
  cases h0
 | succ fuel ih =>
  intro listed a w hfree hr hlz hy hS H
  refine ⟨fun h => (by rw [h] at hr; cases hr), fun j hj => ?_⟩
  by_cases hji : j = i
  ·subst hji
   exact hy.wpOp hi hS ⟨fun _ => hS, H⟩
  have h1 := H.2 j (ready_mono hj hji)
  obtain ⟨hjun, oj, hoj, hall⟩ := mem_ready.1 hj
  have hnot : ∀ e ∈ oj.after, Region.binds md e = true → e.on ≠ i := fun e he hb heq => by
   have h1 := hall e he hb
   have h0 := (mem_ready.1 hr).1
   rw [heq] at h1
   rcases Nat.lt_or_ge i listed.size with h' | h'
   ·simp [h'] at h0 h1; rw [h0] at h1; cases h1
   simp [Array.getElem?_eq_none h'] at h1
  have hjz : j ≠ z := by
   rintro rfl
   rw [hoj] at hz
   simp only [Option.map_some, Option.some.injEq, List.any_eq_true, Bool.and_eq_true, beq_iff_eq] at hz
   obtain ⟨e, he, hb, hon⟩ := hz
   exact hnot e (by simpa using he) hb hon
  have h2 := wpOp_putIf hoj (hfree j oj hoj hji hjun hnot) (fun cs b => hsel i oi cs b hi) (fun cs b => hsel j oj cs b hoj) hQ hy h1
  have hfree' : ∀ k ok, ops[k]? = some ok → k ≠ i → (listed.setIfInBounds j true).getD k true = false →
   (∀ e ∈ ok.after, Region.binds md e = true → e.on ≠ i) → oi.apart ops ok = true := fun k ok hk hki hun hno => by
   refine hfree k ok hk hki ?_ hno
   by_cases hjk : j = k
   ·subst hjk; exact hjun
   rw [getD_set_ne true hjk] at hun; exact hun
  have hlz' : (listed.setIfInBounds j true).getD z true = false := by rw [getD_set_ne true hjz]; exact hlz
  have hiz : i ≠ z := by
   rintro rfl
   obtain ⟨h0, o', ho', hall'⟩ := mem_ready.1 hr
   rw [ho'] at hz
   simp only [Option.map_some, Option.some.injEq, List.any_eq_true, Bool.and_eq_true, beq_iff_eq] at hz
   obtain ⟨e, he, hb, hon⟩ := hz
   have h1 := hall' e (by simpa using he) hb
   rw [hon] at h1
   rcases Nat.lt_or_ge i listed.size with h' | h'
   ·simp [h'] at h0 h1; rw [h0] at h1; cases h1
   simp [Array.getElem?_eq_none h'] at h1
  refine wpOp_mono (fun a' w' h3 => ?_) h2
  have hS' : S w' := h3.2.1 (by rw [getD_set_ne true hjz, getD_set_ne true hiz]; exact hlz)
  refine ⟨fun _ => hS', ih (listed.setIfInBounds j true) a' w' hfree' (ready_mono hr (Ne.symm hji)) hlz' h3.1 hS' ?_⟩
  rw [Array.setIfInBounds_comm _ _ hji]
  exact h3.2.2
theorem wpAnyS_take {i : Nat} {oi : Oper} {v : Value} {fuel : Nat} {listed : Array Bool} {a : Act} {w : World} (hi : ops[i]? = some oi)
  (hs : Region.noSelect ops = true) (hf : Region.free md ops listed i = true) (hr : (Region.ready md ops listed).contains i = true)
  (hz : (ops[z]?.map fun oz => oz.after.toList.any fun e => Region.binds md e && e.on == i) = some true) (hlz : listed.getD z true = false)
  (hQ : ∀ c a w, Q (.panic c) (a.put oi.dst v) w → Q (.panic c) a w) (hy : YieldsIf P ops S oi v a) (hS : S w)
  (h : wpAnyS P md ops Q S z fuel (listed.setIfInBounds i true) (a.put oi.dst v) w) : wpAnyS P md ops Q S z (fuel + 1) listed a w :=
 wpAnyS_first hi (Region.noSelect_spec hs) hQ hz fuel listed a w (Region.free_spec hi hf) (by simpa using hr) hlz hy hS h
theorem wpAnyS_one {i : Nat} {fuel : Nat} {listed : Array Bool} {a : Act} {w : World} (hr : Region.ready md ops listed = [i])
  (h : wpOp P ops Q i (fun a' w' => ((listed.setIfInBounds i true).getD z true = false → S w') ∧ wpAnyS P md ops Q S z fuel (listed.setIfInBounds i true) a' w') a w) : wpAnyS P md ops Q S z (fuel + 1) listed a w :=
 ⟨fun h0 => (by rw [hr] at h0; cases h0), fun j hj => (by rw [hr, List.mem_singleton] at hj; rw [hj]; exact h)⟩
theorem wpAnyS_store {i : Nat} {o : Oper} {fuel : Nat} {listed : Array Bool} {a : Act} {w w1 : World} (hr : Region.ready md ops listed = [i]) (ho : ops[i]? = some o) (hw : Region.wanted o (yielded ops a.tmps) = true) (hrun : (execOp a.eval o).run P w = .ok .skip w1)
  (hS : (listed.setIfInBounds i true).getD z true = false → S w1) (h : wpAnyS P md ops Q S z fuel (listed.setIfInBounds i true) (a.put o.dst undef) w1) : wpAnyS P md ops Q S z (fuel + 1) listed a w := by
 refine wpAnyS_one hr ?_
 unfold wpOp
 simp only [ho, hw, if_true]
 refine .inl ?_
 unfold Oper.wp
 rw [hrun]
 exact ⟨hS, h⟩
theorem wpAnyS_done {listed : Array Bool} {a : Act} {w : World} (hr : Region.ready md ops listed = []) (h : Q .normal a w) : ∀ fuel, wpAnyS P md ops Q S z fuel listed a w
 | 0 => ⟨hr, h⟩
 | _ + 1 => ⟨fun _ => h, fun j hj => (by rw [hr] at hj; cases hj)⟩
end
theorem wpIn_region_heldP {F : Fence} {n : Nat} {P : Program} {ops : Array Oper} {Q : Exit → Act → World → Prop} {S : World → Prop} (z : Nat) {id : Nat} {a : Act} {w : World} (hm : P.follows .mixedOrders = true) (hp : (ops.toList.all fun o => plainOp o.op) = true) (hlo : ¬ LetsOut Q)
  (h : wpAnyS P .any ops Q S z ops.size (Array.replicate ops.size false) a w.drew) : (Code.region id ops true).wpIn F n P Q a w :=
 wpIn_region_any hm (wpAnyIn_of_wpAny (plain_all hp) hlo _ _ _ _ (wpAny_of_S _ _ _ _ h))
end Go.Proofs.YthnfajboebaajaaGreatDoor
