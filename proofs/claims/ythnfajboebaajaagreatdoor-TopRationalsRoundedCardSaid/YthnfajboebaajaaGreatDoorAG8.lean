import Derived.Test.YthnfajboebaajaaGreatDoorAG1
import Derived.Test.YthnfajboebaajaaGreatDoorAD
import Derived.Test.YthnfajboebaajaaGreatDoorAG7
import Derived.Test.YthnfajboebaajaaGreatDoorAG3
import Derived.Test.YthnfajboebaajaaGreatDoorAG2
import Derived.Test.YthnfajboebaajaaGreatDoorAG6
import Derived.Test.YthnfajboebaajaaGreatDoorAG4
import Derived.Deep.RegionHeld3
set_option maxHeartbeats 8000000
set_option maxRecDepth 100000
set_option linter.unusedVariables false
namespace Go.Proofs.YthnfajboebaajaaGreatDoor.PA
set_option linter.unusedVariables false
open Go.RowKit Go.Proofs.WWords Go.Proofs.WLast Go.Proofs.WMore
attribute [local go_sem] max2_int min2_int max_two min_two max_three min_three max_four min_four
set_option linter.unusedSimpArgs false
theorem bIQuo.calls (k : Nat) (a0 : ByteArray) (a1 : ByteArray) (r1 : ByteArray) (r2 : Int) (w : World) (hL : LaidW w) (h : bIQuo.f k a0 a1 = some (r1, r2)) :
  Calls Tryz.prog 69 #[.string a0, .string a1] w fun e w' => e = .returned (.tuple #[.string r1, .int .i64 r2]) ∧ Below w.heap.size w w' := by
 have HB := Z0.mk (Below.refl w.heap.size w)
 have H := h
 clear h
 unfold bIQuo.f at H
 obtain ⟨⟨t283, t284, t285⟩, A3, H⟩ := bnd H
 try dsimp only at H
 simp only [Option.some.injEq, Prod.mk.injEq] at H
 obtain ⟨rfl, rfl⟩ := H
 go_enter Tryz.func69, Tryz.ntmps69
 go_wp2_with (first | ((with_reducible refine gc_ 111 rfl ?_); refine goB (some 12) Tryz.func111 #[.string a0, .string a1] bq (bIdivided.calls k a0 a1 t283 t284 t285 _ (hL.below bq) A3.out) ?_; clear HB; intro w4 HB))
 go_ret2
 exact finE
theorem bIsign.calls (a0_0 : Bool) (A0_1 : Option Addr) (c0_1 : Nat) (l0_1 : List Int) (r : Int) (w : World) (hr0_1 : Kd.C (Kd.int .i64) w A0_1 l0_1.length l0_1) (hc0_1 : l0_1.length ≤ c0_1) (h : bIsign.f a0_0 l0_1 = some r) :
  Calls Tryz.prog 105 #[.agg #[.bool a0_0, .slice A0_1 l0_1.length c0_1]] w fun e w' => e = .returned (.int .i64 r) ∧ Below w.heap.size w w' := by
 have hu88 := Tryz.underlying88
 have HR0_1 := Z0.mk hr0_1
 have HC0_1 := Z0.mk hc0_1
 clear hr0_1 hc0_1
 have HB := Z0.mk (Below.refl w.heap.size w)
 have H := h
 clear h
 unfold bIsign.f at H
 rcases je H with ⟨-, c2b0, c2b1, H⟩ | ⟨c2, c2b0, c2b1, H⟩
 ·obtain rfl := Option.some.inj H
  go_enter Tryz.func105, Tryz.ntmps105
  go_wp2_with (first | ((with_reducible refine gd_ 1 rfl ?_); refine bxE 1 #[.bool a0_0, .slice A0_1 l0_1.length c0_1] 88 ?_; intro gb329 hg w3 hbox hb; have BK329 := Z0.mk hbox; have GW329 := fE HB hg; have GE329 := fE HB hg; replace HB := fB HB hb; clear hb hbox hg; obtain ⟨hcz4_0, hcz4_1, hfz4_0, hfz4_1⟩ := b2 BK329))
  go_ret
  exact finE
 have c2b2 : ¬ (l0_1 = []) := fun h_ => c2 (by rw [h_]; rfl)
 by_cases c5 : a0_0 = true
 ·subst c5
  have H1 : (some (-1)) = some r := by rw [if_pos rfl] at H; exact H
  clear H
  have H := H1
  clear H1
  obtain rfl := Option.some.inj H
  go_enter Tryz.func105, Tryz.ntmps105
  go_wp2_with (first | ((with_reducible refine gd_ 1 rfl ?_); refine bxE 1 #[.bool true, .slice A0_1 l0_1.length c0_1] 88 ?_; intro gb329 hg w6 hbox hb; have BK329 := Z0.mk hbox; have GW329 := fE HB hg; have GE329 := fE HB hg; replace HB := fB HB hb; clear hb hbox hg; obtain ⟨hcz7_0, hcz7_1, hfz7_0, hfz7_1⟩ := b2 BK329))
  go_ret
  exact finE
 replace c5 := Bool.eq_false_iff.mpr c5
 subst c5
 have H1 : (some 1) = some r := by rw [if_neg (show ¬ (false = true) by decide)] at H; exact H
 clear H
 have H := H1
 clear H1
 obtain rfl := Option.some.inj H
 go_enter Tryz.func105, Tryz.ntmps105
 go_wp2_with (first | ((with_reducible refine gd_ 1 rfl ?_); refine bxE 1 #[.bool false, .slice A0_1 l0_1.length c0_1] 88 ?_; intro gb329 hg w8 hbox hb; have BK329 := Z0.mk hbox; have GW329 := fE HB hg; have GE329 := fE HB hg; replace HB := fB HB hb; clear hb hbox hg; obtain ⟨hcz9_0, hcz9_1, hfz9_0, hfz9_1⟩ := b2 BK329))
 go_ret
 exact finE
theorem bICompare.calls (k : Nat) (a0 : ByteArray) (a1 : ByteArray) (r1 : Int) (r2 : Int) (w : World) (h : bICompare.f k a0 a1 = some (r1, r2)) :
  Calls Tryz.prog 63 #[.string a0, .string a1] w fun e w' => e = .returned (.tuple #[.int .i64 r1, .int .i64 r2]) ∧ Below w.heap.size w w' := by
 have hu88 := Tryz.underlying88
 have HB := Z0.mk (Below.refl w.heap.size w)
 have H := h
 clear h
 unfold bICompare.f at H
 obtain ⟨⟨t330, t331, t334, t335, t338⟩, A3, H⟩ := bnd H
 try dsimp only at H
 rcases je H with ⟨-, c4b0, c4b1, H⟩ | ⟨c4, c4b0, c4b1, H⟩
 ·obtain ⟨⟨t341, t342⟩, A5, H⟩ := bnd H
  try dsimp only at H
  obtain ⟨⟨t345, t346⟩, A6, H⟩ := bnd H
  try dsimp only at H
  obtain ⟨t349, A7, H⟩ := bnd H
  simp only [Option.some.injEq, Prod.mk.injEq] at H
  obtain ⟨rfl, rfl⟩ := H
  go_enter Tryz.func63, Tryz.ntmps63
  try go_wp2_with (first | ((with_reducible refine gc_ 86 rfl ?_); refine gL 12 Tryz.func86 (bIpair.calls _ _ _ _ _ _ _ _ _ A3.out) ?_; rintro _ w8 ⟨v332, v336, rfl, ho0, ho1, hb⟩; refine ⟨_, rfl, ?_⟩; have HO333 := fN ho0; have HO337 := fN ho1; replace HB := fB HB hb; clear hb ho0 ho1) | ((with_reducible refine gd_ 6 rfl ?_); refine bxE 6 #[.bool false, .slice none 0 0] 88 ?_; intro gb339 hg w9 hbox hb; have BK339 := Z0.mk hbox; have GW339 := fE HB hg; have GE339 := fE HB hg; replace HO333 := fR HO333 hb; replace HO337 := fR HO337 hb; replace HB := fB HB hb; clear hb hbox hg) | ((with_reducible refine gd_ 7 rfl ?_); refine bxE 7 #[.bool false, .slice none 0 0] 88 ?_; intro gb340 hg w10 hbox hb; have BK340 := Z0.mk hbox; have GW340 := fE HB hg; have GE340 := fE HB hg; have NB339_340 := fl BK339 hg; have NB340_339 := fg BK339 hg; replace HO333 := fR HO333 hb; replace HO337 := fR HO337 hb; replace BK339 := fk BK339 hb; replace HB := fB HB hb; clear hb hbox hg; have hnb11 := NB339_340.out; have hnc11 := NB340_339.out; obtain ⟨hcz12_0, hcz12_1, hfz12_0, hfz12_1⟩ := b2 BK339; obtain ⟨Ao13, co13, eo13⟩ := Kd.R_slice HO333.out; subst eo13; obtain ⟨hcz14_0, hcz14_1, hfz14_0, hfz14_1⟩ := b2 BK340; obtain ⟨Ao15, co15, eo15⟩ := Kd.R_slice HO337.out; subst eo15))
  have n0_ : Z0 (Kd.R (Kd.int .i64) 3 ((((w10.setCell ⟨gb339, 0, none⟩ (.bool t330)).setCell ⟨gb339, 1, none⟩ (.slice Ao13 t331.length co13)).setCell ⟨gb340, 0, none⟩ (.bool t334)).setCell ⟨gb340, 1, none⟩ (.slice Ao15 t335.length co15)) w.heap.size (fun k_ => some k_ ≠ (.slice Ao15 t335.length co15 : Value).ownBlock) (.slice Ao13 t331.length co13) t331) := ⟨by (with_reducible repeat (first | apply Kd.R_alloc | apply Kd.R_drewN | apply Kd.R_drew)); exact Kd.R_mono (Kd.R_far (p := ⟨gb340, 1, none⟩) (Kd.R_far (p := ⟨gb340, 0, none⟩) (Kd.R_far (p := ⟨gb339, 1, none⟩) (Kd.R_far (p := ⟨gb339, 0, none⟩) (Kd.R_types (Kd.R_types HO333.out BK339.out (by decide)) BK340.out (by decide)) (fun _ hk => hk.1.2) (.bool t330)) (fun _ hk => hk.1.2) (.slice Ao13 t331.length co13)) (fun _ hk => hk.2) (.bool t334)) (fun _ hk => hk.2) (.slice Ao15 t335.length co15)) (fun _ hk => hk.1.1)⟩
  have n1_ : Z0 (Kd.R (Kd.int .i64) 3 ((((w10.setCell ⟨gb339, 0, none⟩ (.bool t330)).setCell ⟨gb339, 1, none⟩ (.slice Ao13 t331.length co13)).setCell ⟨gb340, 0, none⟩ (.bool t334)).setCell ⟨gb340, 1, none⟩ (.slice Ao15 t335.length co15)) w.heap.size (fun k_ => some k_ ≠ (.slice Ao13 t331.length co13 : Value).ownBlock) (.slice Ao15 t335.length co15) t335) := ⟨by (with_reducible repeat (first | apply Kd.R_alloc | apply Kd.R_drewN | apply Kd.R_drew)); exact Kd.R_mono (Kd.R_far (p := ⟨gb340, 1, none⟩) (Kd.R_far (p := ⟨gb340, 0, none⟩) (Kd.R_far (p := ⟨gb339, 1, none⟩) (Kd.R_far (p := ⟨gb339, 0, none⟩) (Kd.R_types (Kd.R_types HO337.out BK339.out (by decide)) BK340.out (by decide)) (fun _ hk => hk.1.2) (.bool t330)) (fun _ hk => hk.1.2) (.slice Ao13 t331.length co13)) (fun _ hk => hk.2) (.bool t334)) (fun _ hk => hk.2) (.slice Ao15 t335.length co15)) (fun _ hk => hk.1.1)⟩
  have n2_ : Z0 (((((w10.setCell ⟨gb339, 0, none⟩ (.bool t330)).setCell ⟨gb339, 1, none⟩ (.slice Ao13 t331.length co13)).setCell ⟨gb340, 0, none⟩ (.bool t334)).setCell ⟨gb340, 1, none⟩ (.slice Ao15 t335.length co15)).heap[gb339]? = some (.cells #[.bool t330, .slice Ao13 t331.length co13] 88 (0, 0))) := ⟨by (with_reducible repeat (first | refine blk_drewN ?_ _ | refine blk_drew ?_ | refine blk_alloc ?_ _)); refine blk_far ?_ NB339_340.out _; (with_reducible repeat (first | refine blk_drewN ?_ _ | refine blk_drew ?_ | refine blk_alloc ?_ _)); refine blk_far ?_ NB339_340.out _; (with_reducible repeat (first | refine blk_drewN ?_ _ | refine blk_drew ?_ | refine blk_alloc ?_ _)); refine blk_put (cs := #[.bool t330, .slice none 0 0]) ?_ 1 _ rfl; (with_reducible repeat (first | refine blk_drewN ?_ _ | refine blk_drew ?_ | refine blk_alloc ?_ _)); refine blk_put (cs := #[.bool false, .slice none 0 0]) ?_ 0 _ rfl; (with_reducible repeat (first | refine blk_drewN ?_ _ | refine blk_drew ?_ | refine blk_alloc ?_ _)); exact BK339.out⟩
  have n3_ : Z0 (((((w10.setCell ⟨gb339, 0, none⟩ (.bool t330)).setCell ⟨gb339, 1, none⟩ (.slice Ao13 t331.length co13)).setCell ⟨gb340, 0, none⟩ (.bool t334)).setCell ⟨gb340, 1, none⟩ (.slice Ao15 t335.length co15)).heap[gb340]? = some (.cells #[.bool t334, .slice Ao15 t335.length co15] 88 (0, 0))) := ⟨by (with_reducible repeat (first | refine blk_drewN ?_ _ | refine blk_drew ?_ | refine blk_alloc ?_ _)); refine blk_put (cs := #[.bool t334, .slice none 0 0]) ?_ 1 _ rfl; (with_reducible repeat (first | refine blk_drewN ?_ _ | refine blk_drew ?_ | refine blk_alloc ?_ _)); refine blk_put (cs := #[.bool false, .slice none 0 0]) ?_ 0 _ rfl; (with_reducible repeat (first | refine blk_drewN ?_ _ | refine blk_drew ?_ | refine blk_alloc ?_ _)); refine blk_far ?_ NB340_339.out _; (with_reducible repeat (first | refine blk_drewN ?_ _ | refine blk_drew ?_ | refine blk_alloc ?_ _)); refine blk_far ?_ NB340_339.out _; (with_reducible repeat (first | refine blk_drewN ?_ _ | refine blk_drew ?_ | refine blk_alloc ?_ _)); exact BK340.out⟩
  have n4_ : Z0 (Below w.heap.size w ((((w10.setCell ⟨gb339, 0, none⟩ (.bool t330)).setCell ⟨gb339, 1, none⟩ (.slice Ao13 t331.length co13)).setCell ⟨gb340, 0, none⟩ (.bool t334)).setCell ⟨gb340, 1, none⟩ (.slice Ao15 t335.length co15))) := ⟨bqs⟩
  (try clear HO333)
  (try clear HO337)
  (try clear BK339)
  (try clear BK340)
  (try clear HB)
  generalize ((((w10.setCell ⟨gb339, 0, none⟩ (.bool t330)).setCell ⟨gb339, 1, none⟩ (.slice Ao13 t331.length co13)).setCell ⟨gb340, 0, none⟩ (.bool t334)).setCell ⟨gb340, 1, none⟩ (.slice Ao15 t335.length co15)) = w16 at n0_ n1_ n2_ n3_ n4_ ⊢
  have HO333 := n0_
  have HO337 := n1_
  have BK339 := n2_
  have BK340 := n3_
  have HB := n4_
  clear n0_ n1_ n2_ n3_ n4_
  replace HO333 := Z0.mk (Kd.R_drew HO333.out)
  replace HO337 := Z0.mk (Kd.R_drew HO337.out)
  replace BK339 := Z0.mk (blk_drew BK339.out)
  replace BK340 := Z0.mk (blk_drew BK340.out)
  replace HB := Z0.mk (below_drew1 HB.out)
  refine start_ (n := 7) (S := fun w' => w'.cell? ⟨gb339, 0, none⟩ = some (.bool t330) ∧ w'.cell? ⟨gb339, 1, none⟩ = some (.slice Ao13 t331.length co13) ∧ w'.cell? ⟨gb340, 0, none⟩ = some (.bool t334) ∧ w'.cell? ⟨gb340, 1, none⟩ = some (.slice Ao15 t335.length co15)) (ds := []) #[false, false, false, false, false, false, false] (by kernel_rfl) rfl rfl ⟨(blk_cell BK339.out 0).trans rfl, (blk_cell BK339.out 1).trans rfl, (blk_cell BK340.out 0).trans rfl, (blk_cell BK340.out 1).trans rfl⟩ (fun hHeld => ?_)
  generalize w16.drew = w17 at HO333 HO337 BK339 BK340 HB hHeld ⊢
  refine take_ (i := 0) (N := some 19) (v := ?_) (a' := ?_) #[true, false, false, false, false, false, false] rfl rfl (by kernel_rfl) (fun _ _ _ h => h) (Or.inl ⟨by rfl, ?_⟩) hHeld ?_ ?_
  rotate_left
  ·rintro w' ⟨s0, s1, s2, s3⟩
   go_simp
   with_reducible rfl
  rotate_left
  ·simp only [Act.put, List.setIfInBounds_toArray, List.set_cons_zero, List.set_cons_succ, i64_w, i32_w]
   rfl
  refine take_ (i := 1) (N := some 20) (v := ?_) (a' := ?_) #[true, true, false, false, false, false, false] rfl rfl (by kernel_rfl) (fun _ _ _ h => h) (Or.inl ⟨by rfl, ?_⟩) hHeld ?_ ?_
  rotate_left
  ·rintro w' ⟨s0, s1, s2, s3⟩
   go_simp
   with_reducible rfl
  rotate_left
  ·simp only [Act.put, List.setIfInBounds_toArray, List.set_cons_zero, List.set_cons_succ, i64_w, i32_w]
   rfl
  refine one_ (i := 2) (N := some 21) #[true, true, true, false, false, false, false] rfl rfl (by kernel_rfl) (by decide) (fun K hK => ?_)
  refine goes_ Tryz.func89 (by kernel_rfl) rfl #[.agg #[.bool t334, .slice Ao15 t335.length co15]] (by rfl) rfl rfl (by (try simp only [List.map_toArray, List.map_cons, List.map_nil]); first | done | rfl | (simp only [List.length_drop, List.length_take]; rfl)) ?_
  with_reducible refine (bInegated.calls t334 (fun k_ => some k_ = (.slice Ao15 t335.length co15 : Value).ownBlock) (.slice Ao15 t335.length co15) t335 t341 t342 w _ ?side1 ?side2 A5.out).mono ?_
  (case side1 => repeat (first | (with_reducible first | exact HB.out | apply below_alloc | apply pw_below_drewN | apply below_drew1 | refine below_set ?_ GE339.out | refine below_set ?_ GE340.out) | exact HB.out))
  (case side2 => exact Kd.R_tight rfl HO337.out)
  rintro e w18 ⟨v343, rfl, ho0, hb, hkp⟩
  refine ⟨_, rfl, ?_⟩
  have HO344 := Z0.mk (Kd.R_mono (ok' := fun k_ => some k_ ≠ (.slice Ao13 t331.length co13 : Value).ownBlock) ho0 (fun k_ hk_ => Or.elim hk_ (fun hs_ => fun e_ => (((HO333.out).1 k_ e_.symm)) hs_) (fun hn_ => (Kd.fresh' (Kd.R_lt (rq HO333)) k_ hn_))))
  replace HO333 := Z0.mk (Kd.R_mono (ok' := fun k_ => some k_ ≠ (v343 : Value).ownBlock) (Kd.R_keptB (HO333.out) hkp (fun k_ hk_ hs_ => (hk_) hs_)) (fun k_ hk_ => fun e_ => Or.elim (ho0.1 k_ e_.symm) (fun hs_ => hk_.2.1 hs_) (fun hn_ => Nat.not_le.2 hk_.2.2 hn_)))
  replace BK339 := Z0.mk (blk_kept (hq BK339) hkp (fun hs_ => (fun e_ => (Kd.R_ne HO337.out BK339.out (by decide)) e_) hs_))
  replace BK340 := Z0.mk (blk_kept (hq BK340) hkp (fun hs_ => (fun e_ => (Kd.R_ne HO337.out BK340.out (by decide)) e_) hs_))
  replace HB := Z0.mk (hb)
  clear HO337
  (try clear hb)
  (try clear hkp)
  (try clear ho0)
  obtain ⟨Ao19, co19, eo19⟩ := Kd.R_slice HO344.out
  (first | subst eo19 | (injection eo19 with f1_ f2_ f3_; have f4_ := f1_.symm; have f5_ := f3_.symm; clear f1_ f2_ f3_; subst f4_; subst f5_))
  refine hK.out _ _ ⟨(blk_cell BK339.out 0).trans rfl, (blk_cell BK339.out 1).trans rfl, (blk_cell BK340.out 0).trans rfl, (blk_cell BK340.out 1).trans rfl⟩ (fun hHeld => ?_)
  clear hK K
  refine norm_ (a' := ?_) ?_ ?_
  rotate_left
  ·show Act.put _ (some 21) _ = _
   simp only [Act.put, List.setIfInBounds_toArray, List.set_cons_zero, List.set_cons_succ, i64_w, i32_w]
   rfl
  refine one_ (i := 3) (N := some 22) #[true, true, true, true, false, false, false] rfl rfl (by kernel_rfl) (by decide) (fun K hK => ?_)
  refine goes_ Tryz.func88 (by kernel_rfl) rfl #[.agg #[.bool t330, .slice Ao13 t331.length co13], .agg #[.bool t341, .slice Ao19 t342.length co19]] (by rfl) rfl rfl (by (try simp only [List.map_toArray, List.map_cons, List.map_nil]); first | done | rfl | (simp only [List.length_drop, List.length_take]; rfl)) ?_
  with_reducible refine (bIsum.calls k t330 _ _ t331 t341 _ _ t342 t345 t346 _ ?side1 ?side2 ?side3 ?side4 A6.out).mono ?_
  (case side1 => exact cq (Kd.R_reads' HO333.out).2.2)
  (case side2 => exact (Kd.R_reads' HO333.out).2.1)
  (case side3 => exact cq (Kd.R_reads' HO344.out).2.2)
  (case side4 => exact (Kd.R_reads' HO344.out).2.1)
  rintro e w20 ⟨v347, rfl, ho0, hb⟩
  refine ⟨_, rfl, ?_⟩
  have HO348 := Z0.mk (Kd.R_lower (Kd.R_new' (Kd.R_new' ho0 (Kd.R_lt (rq HO333))) (Kd.R_lt (rq HO344))) (below_size bqs))
  replace HO333 := Z0.mk (Kd.R_elder' (rq HO333) (Kd.R_base ho0) hb)
  replace HO344 := Z0.mk (Kd.R_elder' (rq HO344) (Kd.R_base ho0) hb)
  replace BK339 := fk BK339 hb
  replace BK340 := fk BK340 hb
  replace HB := fB HB hb
  (try clear hb)
  (try clear hb2)
  (try clear hk)
  (try clear hi)
  (try clear ho0)
  obtain ⟨Ao21, co21, eo21⟩ := Kd.R_slice HO348.out
  (first | subst eo21 | (injection eo21 with f1_ f2_ f3_; have f4_ := f1_.symm; have f5_ := f3_.symm; clear f1_ f2_ f3_; subst f4_; subst f5_))
  refine hK.out _ _ ⟨(blk_cell BK339.out 0).trans rfl, (blk_cell BK339.out 1).trans rfl, (blk_cell BK340.out 0).trans rfl, (blk_cell BK340.out 1).trans rfl⟩ (fun hHeld => ?_)
  clear hK K
  refine norm_ (a' := ?_) ?_ ?_
  rotate_left
  ·show Act.put _ (some 22) _ = _
   simp only [Act.put, List.setIfInBounds_toArray, List.set_cons_zero, List.set_cons_succ, i64_w, i32_w]
   rfl
  refine one_ (i := 4) (N := some 23) #[true, true, true, true, true, false, false] rfl rfl (by kernel_rfl) (by decide) (fun K hK => ?_)
  refine goes_ Tryz.func105 (by kernel_rfl) rfl #[.agg #[.bool t345, .slice Ao21 t346.length co21]] (by rfl) rfl rfl (by (try simp only [List.map_toArray, List.map_cons, List.map_nil]); first | done | rfl | (simp only [List.length_drop, List.length_take]; rfl)) ?_
  with_reducible refine (bIsign.calls t345 _ _ t346 t349 _ ?side1 ?side2 A7.out).mono ?_
  (case side1 => exact cq (Kd.R_reads' HO348.out).2.2)
  (case side2 => exact (Kd.R_reads' HO348.out).2.1)
  rintro e w22 ⟨rfl, hb⟩
  refine ⟨_, rfl, ?_⟩
  replace HO333 := fR HO333 hb
  replace HO344 := fR HO344 hb
  replace HO348 := fR HO348 hb
  replace BK339 := fk BK339 hb
  replace BK340 := fk BK340 hb
  replace HB := fB HB hb
  (try clear hb)
  (try clear hb2)
  (try clear hk)
  (try clear hi)
  refine hK.out _ _ ⟨(blk_cell BK339.out 0).trans rfl, (blk_cell BK339.out 1).trans rfl, (blk_cell BK340.out 0).trans rfl, (blk_cell BK340.out 1).trans rfl⟩ (fun hHeld => ?_)
  clear hK K
  refine norm_ (a' := ?_) ?_ ?_
  rotate_left
  ·show Act.put _ (some 23) _ = _
   simp only [Act.put, List.setIfInBounds_toArray, List.set_cons_zero, List.set_cons_succ, i64_w, i32_w]
   rfl
  refine pure_ (i := 5) (N := some 4) (v := ?_) (a' := ?_) #[true, true, true, true, true, true, false] rfl rfl (by kernel_rfl) (fun _ _ _ h => h) (Or.inl ⟨by rfl, ?_⟩) ?_ ?_
  rotate_left
  ·intro w'
   go_simp
   with_reducible rfl
  rotate_left
  ·simp only [Act.put, List.setIfInBounds_toArray, List.set_cons_zero, List.set_cons_succ, i64_w, i32_w]
   rfl
  refine pure_ (i := 6) (N := some 5) (v := ?_) (a' := ?_) #[true, true, true, true, true, true, true] rfl rfl (by kernel_rfl) (fun _ _ _ h => h) (Or.inl ⟨by rfl, ?_⟩) ?_ ?_
  rotate_left
  ·intro w'
   go_simp
   with_reducible rfl
  rotate_left
  ·simp only [Act.put, List.setIfInBounds_toArray, List.set_cons_zero, List.set_cons_succ, i64_w, i32_w]
   rfl
  refine done_ (by kernel_rfl) ?_
  try go_wp2
  go_ret2
  exact finE
 simp only [Option.some.injEq, Prod.mk.injEq] at H
 obtain ⟨rfl, rfl⟩ := H
 go_enter Tryz.func63, Tryz.ntmps63
 go_wp2_with (first | ((with_reducible refine gc_ 86 rfl ?_); refine gL 12 Tryz.func86 (bIpair.calls _ _ _ _ _ _ _ _ _ A3.out) ?_; rintro _ w23 ⟨v332, v336, rfl, ho0, ho1, hb⟩; refine ⟨_, rfl, ?_⟩; have HO333 := fN ho0; have HO337 := fN ho1; replace HB := fB HB hb; clear hb ho0 ho1) | ((with_reducible refine gd_ 6 rfl ?_); refine bxE 6 #[.bool false, .slice none 0 0] 88 ?_; intro gb339 hg w24 hbox hb; have BK339 := Z0.mk hbox; have GW339 := fE HB hg; have GE339 := fE HB hg; replace HO333 := fR HO333 hb; replace HO337 := fR HO337 hb; replace HB := fB HB hb; clear hb hbox hg) | ((with_reducible refine gd_ 7 rfl ?_); refine bxE 7 #[.bool false, .slice none 0 0] 88 ?_; intro gb340 hg w25 hbox hb; have BK340 := Z0.mk hbox; have GW340 := fE HB hg; have GE340 := fE HB hg; have NB339_340 := fl BK339 hg; have NB340_339 := fg BK339 hg; replace HO333 := fR HO333 hb; replace HO337 := fR HO337 hb; replace BK339 := fk BK339 hb; replace HB := fB HB hb; clear hb hbox hg; have hnb26 := NB339_340.out; have hnc26 := NB340_339.out; obtain ⟨hcz27_0, hcz27_1, hfz27_0, hfz27_1⟩ := b2 BK339; obtain ⟨Ao28, co28, eo28⟩ := Kd.R_slice HO333.out; subst eo28; obtain ⟨hcz29_0, hcz29_1, hfz29_0, hfz29_1⟩ := b2 BK340; obtain ⟨Ao30, co30, eo30⟩ := Kd.R_slice HO337.out; subst eo30))
 go_ret2
 exact finE
theorem bISign.calls (k : Nat) (a0 : ByteArray) (r1 : Int) (r2 : Int) (w : World) (h : bISign.f k a0 = some (r1, r2)) :
  Calls Tryz.prog 38 #[.string a0] w fun e w' => e = .returned (.tuple #[.int .i64 r1, .int .i64 r2]) ∧ Below w.heap.size w w' := by
 have HB := Z0.mk (Below.refl w.heap.size w)
 have H := h
 clear h
 unfold bISign.f at H
 obtain ⟨⟨t350, t351⟩, A2, H⟩ := bnd H
 try dsimp only at H
 simp only [Option.some.injEq, Prod.mk.injEq] at H
 obtain ⟨rfl, rfl⟩ := H
 go_enter Tryz.func38, Tryz.ntmps38
 go_wp2_with (first | ((with_reducible refine gc_ 63 rfl ?_); refine goB (some 5) Tryz.func63 #[.string a0, .string (⟨#[48]⟩ : ByteArray)] bq (bICompare.calls k a0 (⟨#[48]⟩ : ByteArray) t350 t351 _ A2.out) ?_; clear HB; intro w3 HB))
 go_ret2
 exact finE
theorem rAwhole.calls (k : Nat) (a0 : ByteArray) (a1 : ByteArray) (r1 : ByteArray) (r2 : Int) (w : World) (hL : LaidW w) (h : rAwhole.f k a0 a1 = some (r1, r2)) :
  Calls Tryz.prog 84 #[.string a0, .string a1] w fun e w' => e = .returned (.tuple #[.string r1, .int .i64 r2]) ∧ Below w.heap.size w w' := by
 have HB := Z0.mk (Below.refl w.heap.size w)
 have H := h
 clear h
 unfold rAwhole.f at H
 obtain ⟨⟨t352, t353⟩, A3, H⟩ := bnd H
 try dsimp only at H
 rcases je H with ⟨-, c4b0, c4b1, H⟩ | ⟨c4, c4b0, c4b1, H⟩
 ·obtain ⟨⟨t354, t355⟩, A5, H⟩ := bnd H
  try dsimp only at H
  have HC6 := Z0.mk H
  clear H
  go_enter Tryz.func84, Tryz.ntmps84
  go_upto_if 27 with (first | ((with_reducible refine gc_ 37 rfl ?_); refine goB (some 15) Tryz.func37 #[.string a0, .string a1] bq (bIGcd.calls k a0 a1 t352 t353 _ (hL.below bq) A3.out) ?_; clear HB; intro w7 HB) | ((with_reducible refine gc_ 38 rfl ?_); refine goB (some 23) Tryz.func38 #[.string a1] bq (bISign.calls k a1 t354 t355 _ A5.out) ?_; clear HB; intro w8 HB))
  (try simp only [Act.put, List.setIfInBounds_toArray, List.set_cons_zero, List.set_cons_succ])
  go_cut [6] (fun v6 wc => ∃ (kq : Nat) (x6_5 : ByteArray), v6 = .string x6_5 ∧ Z0 (rAwhole.j0 kq a0 a1 x6_5 = some (r1, r2)) ∧ Z0 (kq ≤ k) ∧ Z0 (Below w.heap.size w wc))
  case first =>
   have H := HC6.out
   clear HC6
   rcases jd H with ⟨-, c9b0, H⟩ | ⟨-, c9b0, H⟩
   ·(first | rw [c9b0] | (simp only [i64_w, i32_w]; rw [c9b0]) | skip)
    obtain ⟨⟨t356, t357⟩, A10, H⟩ := bnd H
    try dsimp only at H
    have H' := Z0.mk H
    clear H
    go_wp2_with (first | ((with_reducible refine gc_ 35 rfl ?_); refine goB (some 30) Tryz.func35 #[.string t352] bq (bINeg.calls k t352 t356 t357 _ (hL.below bq) A10.out) ?_; clear HB; intro w11 HB))
    go_meet
    case rel => exact ⟨_, (t356), fs, H', ⟨by first | omega | exact Nat.le_refl _⟩, ⟨bqs⟩⟩
   (first | rw [c9b0] | (simp only [i64_w, i32_w]; rw [c9b0]) | skip)
   have H' := Z0.mk H
   clear H
   go_wp2
   go_meet
   case rel => exact ⟨_, (t352), fs, H', ⟨by first | omega | exact Nat.le_refl _⟩, ⟨bqs⟩⟩
  case rest =>
   clear HC6
   try clear p2
   try clear c3
   try clear c4
   try clear c4b0
   try clear c4b1
   try clear c8
   try clear c9
   try clear c9b0
   obtain ⟨kq, x6_5, rfl, HA, HJ5, HB⟩ := hcut
   cases kq with
   | zero => exact absurd HA.out (by simp [rAwhole.j0])
   | succ kj5 =>
    have H := HA.out
    clear HA
    simp only [rAwhole.j0] at H
    obtain ⟨⟨t358, t359⟩, A12, H⟩ := bnd H
    try dsimp only at H
    rcases je H with ⟨-, c13b0, c13b1, H⟩ | ⟨c13, c13b0, c13b1, H⟩
    ·obtain ⟨⟨t360, t361⟩, A14, H⟩ := bnd H
     try dsimp only at H
     rcases je H with ⟨-, c15b0, c15b1, H⟩ | ⟨c15, c15b0, c15b1, H⟩
     ·rcases je H with ⟨-, c16b0, c16b1, H⟩ | ⟨c16, c16b0, c16b1, H⟩
      ·simp only [Option.some.injEq, Prod.mk.injEq] at H
       obtain ⟨rfl, rfl⟩ := H
       go_wp2_with (first | ((with_reducible refine gc_ 69 rfl ?_); refine goB (some 36) Tryz.func69 #[.string a0, .string x6_5] bq (bIQuo.calls kj5 a0 x6_5 t358 t359 _ (hL.below bq) A12.out) ?_; clear HB; intro w17 HB) | ((with_reducible refine gc_ 69 rfl ?_); refine goB (some 45) Tryz.func69 #[.string a1, .string x6_5] bq (bIQuo.calls kj5 a1 x6_5 t360 t361 _ (hL.below bq) A14.out) ?_; clear HB; intro w18 HB))
       go_ret2
       exact finE
      obtain ⟨c19, c19b0, c19b1, H⟩ := gt H
      try have c19b2 : (9223372036854775807 < t358.size + 1) = False := eq_false (Nat.not_lt.2 c19)
      obtain ⟨c20, c20b0, c20b1, H⟩ := gt H
      try have c20b2 : (9223372036854775807 < (t358 ++ (⟨#[47]⟩ : ByteArray)).size + t360.size) = False := eq_false (Nat.not_lt.2 c20)
      simp only [Option.some.injEq, Prod.mk.injEq] at H
      obtain ⟨rfl, rfl⟩ := H
      go_wp2_with (first | ((with_reducible refine gc_ 69 rfl ?_); refine goB (some 36) Tryz.func69 #[.string a0, .string x6_5] bq (bIQuo.calls kj5 a0 x6_5 t358 t359 _ (hL.below bq) A12.out) ?_; clear HB; intro w21 HB) | ((with_reducible refine gc_ 69 rfl ?_); refine goB (some 45) Tryz.func69 #[.string a1, .string x6_5] bq (bIQuo.calls kj5 a1 x6_5 t360 t361 _ (hL.below bq) A14.out) ?_; clear HB; intro w22 HB))
      go_ret2
      exact finE
     simp only [Option.some.injEq, Prod.mk.injEq] at H
     obtain ⟨rfl, rfl⟩ := H
     go_wp2_with (first | ((with_reducible refine gc_ 69 rfl ?_); refine goB (some 36) Tryz.func69 #[.string a0, .string x6_5] bq (bIQuo.calls kj5 a0 x6_5 t358 t359 _ (hL.below bq) A12.out) ?_; clear HB; intro w23 HB) | ((with_reducible refine gc_ 69 rfl ?_); refine goB (some 45) Tryz.func69 #[.string a1, .string x6_5] bq (bIQuo.calls kj5 a1 x6_5 t360 t361 _ (hL.below bq) A14.out) ?_; clear HB; intro w24 HB))
     go_ret2
     exact finE
    simp only [Option.some.injEq, Prod.mk.injEq] at H
    obtain ⟨rfl, rfl⟩ := H
    go_wp2_with (first | ((with_reducible refine gc_ 69 rfl ?_); refine goB (some 36) Tryz.func69 #[.string a0, .string x6_5] bq (bIQuo.calls kj5 a0 x6_5 t358 t359 _ (hL.below bq) A12.out) ?_; clear HB; intro w25 HB))
    go_ret2
    exact finE
 simp only [Option.some.injEq, Prod.mk.injEq] at H
 obtain ⟨rfl, rfl⟩ := H
 go_enter Tryz.func84, Tryz.ntmps84
 go_wp2_with (first | ((with_reducible refine gc_ 37 rfl ?_); refine goB (some 15) Tryz.func37 #[.string a0, .string a1] bq (bIGcd.calls k a0 a1 t352 t353 _ (hL.below bq) A3.out) ?_; clear HB; intro w26 HB))
 go_ret2
 exact finE
end Go.Proofs.YthnfajboebaajaaGreatDoor.PA
namespace Go.Proofs.YthnfajboebaajaaGreatDoor
set_option linter.unusedVariables false
set_option linter.unusedSimpArgs false
open Go.RowKit Go.Proofs.WWords Go.Proofs.WLast Go.Proofs.WMore PA
theorem calc43 (k : Nat) (a1 a2 : ByteArray) (r1 : ByteArray) (r2 : Int) (w : World) (hL : LaidW w) (h : calcF (rAaddop.f k) k a1 a2 = some (r1, r2)) :
    Calls Tryz.prog 97 #[.int .u8 43, .string a1, .string a2] w fun e w' => e = .returned (.tuple #[.string r1, .int .i64 r2]) ∧ Below w.heap.size w w' := by
 have hu95 := Tryz.underlying95
 unfold calcF at h
 obtain ⟨⟨p, q, r, s, e1⟩, hp, h⟩ := Option.bind_eq_some_iff.mp h
 simp only at h
 by_cases c1 : e1 = 0
 rotate_left
 ·rw [if_neg c1] at h
  simp only [Option.some.injEq, Prod.mk.injEq] at h
  obtain ⟨rfl, rfl⟩ := h
  have c1b : (e1 != 0) = true := bne_iff_ne.mpr c1
  have c1c : (e1 == 0) = false := beq_eq_false_iff_ne.mpr c1
  go_enter Tryz.func97, Tryz.ntmps97
  go_wp2_with (first | ((with_reducible refine gc_ 90 rfl ?_); refine goB (w0 := w) (some 15) Tryz.func90 #[.string a1, .string a2] (Below.refl _ _) (rAnewPair.calls k a1 a2 p q r s e1 _ hL hp) ?_; intro w1 HB) | ((with_reducible refine gd_ 8 rfl ?_); refine bxE 8 #[.string (⟨#[]⟩ : ByteArray), .string (⟨#[]⟩ : ByteArray), .string (⟨#[]⟩ : ByteArray), .string (⟨#[]⟩ : ByteArray)] 95 ?_; intro gb hg wb hbox hbb; have hgl : w.heap.size ≤ gb := (by rw [hg]; exact HB.out.size); have HB2 := Z0.mk (below_step HB.out hbb); clear HB hg hbb; have HB := HB2; clear HB2; have hc0 : wb.cell? ⟨gb, 0, none⟩ = some (.string (⟨#[]⟩ : ByteArray)) := (blk_cell hbox 0).trans rfl; have hf0 := blk_frozen hbox 0; have hc1 : wb.cell? ⟨gb, 1, none⟩ = some (.string (⟨#[]⟩ : ByteArray)) := (blk_cell hbox 1).trans rfl; have hf1 := blk_frozen hbox 1; have hc2 : wb.cell? ⟨gb, 2, none⟩ = some (.string (⟨#[]⟩ : ByteArray)) := (blk_cell hbox 2).trans rfl; have hf2 := blk_frozen hbox 2; have hc3 : wb.cell? ⟨gb, 3, none⟩ = some (.string (⟨#[]⟩ : ByteArray)) := (blk_cell hbox 3).trans rfl; have hf3 := blk_frozen hbox 3))
  go_ret2
  exact ⟨rfl, below_set (below_set (below_set (below_set HB.out hgl) hgl) hgl) hgl⟩
 rw [if_pos c1] at h
 obtain ⟨⟨y1, y2, e2⟩, ho, h⟩ := Option.bind_eq_some_iff.mp h
 simp only at h
 have c1b : (e1 != 0) = false := bne_eq_false_iff_eq.mpr c1
 have c1c : (e1 == 0) = true := beq_iff_eq.mpr c1
 clear c1
 by_cases c2 : e2 = 0
 ·rw [if_pos c2] at h
  have c2b : (e2 != 0) = false := bne_eq_false_iff_eq.mpr c2
  have c2c : (e2 == 0) = true := beq_iff_eq.mpr c2
  clear c2
  have hw := h
  go_enter Tryz.func97, Tryz.ntmps97
  go_wp2_with (first | ((with_reducible refine gc_ 90 rfl ?_); refine goB (w0 := w) (some 15) Tryz.func90 #[.string a1, .string a2] (Below.refl _ _) (rAnewPair.calls k a1 a2 p q r s e1 _ hL hp) ?_; intro w1 HB) | ((with_reducible refine gd_ 8 rfl ?_); refine bxE 8 #[.string (⟨#[]⟩ : ByteArray), .string (⟨#[]⟩ : ByteArray), .string (⟨#[]⟩ : ByteArray), .string (⟨#[]⟩ : ByteArray)] 95 ?_; intro gb hg wb hbox hbb; have hgl : w.heap.size ≤ gb := (by rw [hg]; exact HB.out.size); have HB2 := Z0.mk (below_step HB.out hbb); clear HB hg hbb; have HB := HB2; clear HB2; have hc0 : wb.cell? ⟨gb, 0, none⟩ = some (.string (⟨#[]⟩ : ByteArray)) := (blk_cell hbox 0).trans rfl; have hf0 := blk_frozen hbox 0; have hc1 : wb.cell? ⟨gb, 1, none⟩ = some (.string (⟨#[]⟩ : ByteArray)) := (blk_cell hbox 1).trans rfl; have hf1 := blk_frozen hbox 1; have hc2 : wb.cell? ⟨gb, 2, none⟩ = some (.string (⟨#[]⟩ : ByteArray)) := (blk_cell hbox 2).trans rfl; have hf2 := blk_frozen hbox 2; have hc3 : wb.cell? ⟨gb, 3, none⟩ = some (.string (⟨#[]⟩ : ByteArray)) := (blk_cell hbox 3).trans rfl; have hf3 := blk_frozen hbox 3))
  obtain ⟨W, hW⟩ : ∃ W, ((((wb.setCell ⟨gb, 0, none⟩ (.string p)).setCell ⟨gb, 1, none⟩ (.string q)).setCell ⟨gb, 2, none⟩ (.string r)).setCell ⟨gb, 3, none⟩ (.string s)) = W := ⟨_, rfl⟩
  have hx : W.heap[gb]? = some (.cells #[.string p, .string q, .string r, .string s] 95 (0, 0)) := by
   rw [← hW]
   exact blk_put (cs := #[.string p, .string q, .string r, .string (⟨#[]⟩ : ByteArray)]) (blk_put (cs := #[.string p, .string q, .string (⟨#[]⟩ : ByteArray), .string (⟨#[]⟩ : ByteArray)]) (blk_put (cs := #[.string p, .string (⟨#[]⟩ : ByteArray), .string (⟨#[]⟩ : ByteArray), .string (⟨#[]⟩ : ByteArray)]) (blk_put hbox 0 _ rfl) 1 _ rfl) 2 _ rfl) 3 _ rfl
  have hBW : Below w.heap.size w W := by rw [← hW]; exact below_set (below_set (below_set (below_set HB.out hgl) hgl) hgl) hgl
  rw [hW]
  clear hW HB hbox
  have hxd : W.drew.heap[gb]? = some (.cells #[.string p, .string q, .string r, .string s] 95 (0, 0)) := hx
  have hBd : Below w.heap.size w W.drew := hBW.drew
  go_region_held3 (fun w' => w'.cell? ⟨gb, 0, none⟩ = some (.string p) ∧ w'.cell? ⟨gb, 1, none⟩ = some (.string q) ∧ w'.cell? ⟨gb, 2, none⟩ = some (.string r) ∧ w'.cell? ⟨gb, 3, none⟩ = some (.string s))
   (first | exact ⟨blk_cell hxd 0, blk_cell hxd 1, blk_cell hxd 2, blk_cell hxd 3⟩ | exact ⟨blk_cell hx2 0, blk_cell hx2 1, blk_cell hx2 2, blk_cell hx2 3⟩ | exact ⟨blk_cell hx3 0, blk_cell hx3 1, blk_cell hx3 2, blk_cell hx3 3⟩)
   (first
     | (go_at_call 133; refine (rops_calls _).mono ?_; rintro e w2 ⟨m, g1, g2, rfl, hm, hg1, hg2, hb2⟩
        have hx2 := (hb2.block gb (Array.getElem?_eq_some_iff.1 hxd).1).trans hxd
        have hB2 := below_step hBd hb2
        have hlk := run_look m (ropsE g1 g2) 4 43 0 _ w2 hm rfl)
     | (go_at_call 200; refine (rAaddop.calls k p q r s y1 y2 e2 g1 w2 hg1 (hL.below hB2) ho).mono ?_; rintro e w3 ⟨rfl, hb3⟩
        have hx3 := (hb3.block gb (Array.getElem?_eq_some_iff.1 hx2).1).trans hx2
        have HB := Z0.mk (below_step hB2 hb3)))
  all_goals go_wp2_with (first | ((with_reducible refine gc_ 84 rfl ?_); refine goB (w0 := w) (some 35) Tryz.func84 #[.string y1, .string y2] HB.out (rAwhole.calls k y1 y2 r1 r2 _ (hL.below HB.out) hw) ?_; clear HB; intro w5 HB))
  go_ret2
  exact ⟨rfl, HB.out⟩
 rw [if_neg c2] at h
 simp only [Option.some.injEq, Prod.mk.injEq] at h
 obtain ⟨rfl, rfl⟩ := h
 have c2b : (e2 != 0) = true := bne_iff_ne.mpr c2
 have c2c : (e2 == 0) = false := beq_eq_false_iff_ne.mpr c2
 go_enter Tryz.func97, Tryz.ntmps97
 go_wp2_with (first | ((with_reducible refine gc_ 90 rfl ?_); refine goB (w0 := w) (some 15) Tryz.func90 #[.string a1, .string a2] (Below.refl _ _) (rAnewPair.calls k a1 a2 p q r s e1 _ hL hp) ?_; intro w1 HB) | ((with_reducible refine gd_ 8 rfl ?_); refine bxE 8 #[.string (⟨#[]⟩ : ByteArray), .string (⟨#[]⟩ : ByteArray), .string (⟨#[]⟩ : ByteArray), .string (⟨#[]⟩ : ByteArray)] 95 ?_; intro gb hg wb hbox hbb; have hgl : w.heap.size ≤ gb := (by rw [hg]; exact HB.out.size); have HB2 := Z0.mk (below_step HB.out hbb); clear HB hg hbb; have HB := HB2; clear HB2; have hc0 : wb.cell? ⟨gb, 0, none⟩ = some (.string (⟨#[]⟩ : ByteArray)) := (blk_cell hbox 0).trans rfl; have hf0 := blk_frozen hbox 0; have hc1 : wb.cell? ⟨gb, 1, none⟩ = some (.string (⟨#[]⟩ : ByteArray)) := (blk_cell hbox 1).trans rfl; have hf1 := blk_frozen hbox 1; have hc2 : wb.cell? ⟨gb, 2, none⟩ = some (.string (⟨#[]⟩ : ByteArray)) := (blk_cell hbox 2).trans rfl; have hf2 := blk_frozen hbox 2; have hc3 : wb.cell? ⟨gb, 3, none⟩ = some (.string (⟨#[]⟩ : ByteArray)) := (blk_cell hbox 3).trans rfl; have hf3 := blk_frozen hbox 3))
 obtain ⟨W, hW⟩ : ∃ W, ((((wb.setCell ⟨gb, 0, none⟩ (.string p)).setCell ⟨gb, 1, none⟩ (.string q)).setCell ⟨gb, 2, none⟩ (.string r)).setCell ⟨gb, 3, none⟩ (.string s)) = W := ⟨_, rfl⟩
 have hx : W.heap[gb]? = some (.cells #[.string p, .string q, .string r, .string s] 95 (0, 0)) := by
  rw [← hW]
  exact blk_put (cs := #[.string p, .string q, .string r, .string (⟨#[]⟩ : ByteArray)]) (blk_put (cs := #[.string p, .string q, .string (⟨#[]⟩ : ByteArray), .string (⟨#[]⟩ : ByteArray)]) (blk_put (cs := #[.string p, .string (⟨#[]⟩ : ByteArray), .string (⟨#[]⟩ : ByteArray), .string (⟨#[]⟩ : ByteArray)]) (blk_put hbox 0 _ rfl) 1 _ rfl) 2 _ rfl) 3 _ rfl
 have hBW : Below w.heap.size w W := by rw [← hW]; exact below_set (below_set (below_set (below_set HB.out hgl) hgl) hgl) hgl
 rw [hW]
 clear hW HB hbox
 have hxd : W.drew.heap[gb]? = some (.cells #[.string p, .string q, .string r, .string s] 95 (0, 0)) := hx
 have hBd : Below w.heap.size w W.drew := hBW.drew
 go_region_held3 (fun w' => w'.cell? ⟨gb, 0, none⟩ = some (.string p) ∧ w'.cell? ⟨gb, 1, none⟩ = some (.string q) ∧ w'.cell? ⟨gb, 2, none⟩ = some (.string r) ∧ w'.cell? ⟨gb, 3, none⟩ = some (.string s))
  (first | exact ⟨blk_cell hxd 0, blk_cell hxd 1, blk_cell hxd 2, blk_cell hxd 3⟩ | exact ⟨blk_cell hx2 0, blk_cell hx2 1, blk_cell hx2 2, blk_cell hx2 3⟩ | exact ⟨blk_cell hx3 0, blk_cell hx3 1, blk_cell hx3 2, blk_cell hx3 3⟩)
  (first
    | (go_at_call 133; refine (rops_calls _).mono ?_; rintro e w2 ⟨m, g1, g2, rfl, hm, hg1, hg2, hb2⟩
       have hx2 := (hb2.block gb (Array.getElem?_eq_some_iff.1 hxd).1).trans hxd
       have hB2 := below_step hBd hb2
       have hlk := run_look m (ropsE g1 g2) 4 43 0 _ w2 hm rfl)
    | (go_at_call 200; refine (rAaddop.calls k p q r s y1 y2 e2 g1 w2 hg1 (hL.below hB2) ho).mono ?_; rintro e w3 ⟨rfl, hb3⟩
       have hx3 := (hb3.block gb (Array.getElem?_eq_some_iff.1 hx2).1).trans hx2
       have HB := Z0.mk (below_step hB2 hb3)))
 all_goals go_wp2
 go_ret2
 exact ⟨rfl, HB.out⟩
theorem calc45 (k : Nat) (a1 a2 : ByteArray) (r1 : ByteArray) (r2 : Int) (w : World) (hL : LaidW w) (h : calcF (rAsubop.f k) k a1 a2 = some (r1, r2)) :
    Calls Tryz.prog 97 #[.int .u8 45, .string a1, .string a2] w fun e w' => e = .returned (.tuple #[.string r1, .int .i64 r2]) ∧ Below w.heap.size w w' := by
 have hu95 := Tryz.underlying95
 unfold calcF at h
 obtain ⟨⟨p, q, r, s, e1⟩, hp, h⟩ := Option.bind_eq_some_iff.mp h
 simp only at h
 by_cases c1 : e1 = 0
 rotate_left
 ·rw [if_neg c1] at h
  simp only [Option.some.injEq, Prod.mk.injEq] at h
  obtain ⟨rfl, rfl⟩ := h
  have c1b : (e1 != 0) = true := bne_iff_ne.mpr c1
  have c1c : (e1 == 0) = false := beq_eq_false_iff_ne.mpr c1
  go_enter Tryz.func97, Tryz.ntmps97
  go_wp2_with (first | ((with_reducible refine gc_ 90 rfl ?_); refine goB (w0 := w) (some 15) Tryz.func90 #[.string a1, .string a2] (Below.refl _ _) (rAnewPair.calls k a1 a2 p q r s e1 _ hL hp) ?_; intro w1 HB) | ((with_reducible refine gd_ 8 rfl ?_); refine bxE 8 #[.string (⟨#[]⟩ : ByteArray), .string (⟨#[]⟩ : ByteArray), .string (⟨#[]⟩ : ByteArray), .string (⟨#[]⟩ : ByteArray)] 95 ?_; intro gb hg wb hbox hbb; have hgl : w.heap.size ≤ gb := (by rw [hg]; exact HB.out.size); have HB2 := Z0.mk (below_step HB.out hbb); clear HB hg hbb; have HB := HB2; clear HB2; have hc0 : wb.cell? ⟨gb, 0, none⟩ = some (.string (⟨#[]⟩ : ByteArray)) := (blk_cell hbox 0).trans rfl; have hf0 := blk_frozen hbox 0; have hc1 : wb.cell? ⟨gb, 1, none⟩ = some (.string (⟨#[]⟩ : ByteArray)) := (blk_cell hbox 1).trans rfl; have hf1 := blk_frozen hbox 1; have hc2 : wb.cell? ⟨gb, 2, none⟩ = some (.string (⟨#[]⟩ : ByteArray)) := (blk_cell hbox 2).trans rfl; have hf2 := blk_frozen hbox 2; have hc3 : wb.cell? ⟨gb, 3, none⟩ = some (.string (⟨#[]⟩ : ByteArray)) := (blk_cell hbox 3).trans rfl; have hf3 := blk_frozen hbox 3))
  go_ret2
  exact ⟨rfl, below_set (below_set (below_set (below_set HB.out hgl) hgl) hgl) hgl⟩
 rw [if_pos c1] at h
 obtain ⟨⟨y1, y2, e2⟩, ho, h⟩ := Option.bind_eq_some_iff.mp h
 simp only at h
 have c1b : (e1 != 0) = false := bne_eq_false_iff_eq.mpr c1
 have c1c : (e1 == 0) = true := beq_iff_eq.mpr c1
 clear c1
 by_cases c2 : e2 = 0
 ·rw [if_pos c2] at h
  have c2b : (e2 != 0) = false := bne_eq_false_iff_eq.mpr c2
  have c2c : (e2 == 0) = true := beq_iff_eq.mpr c2
  clear c2
  have hw := h
  go_enter Tryz.func97, Tryz.ntmps97
  go_wp2_with (first | ((with_reducible refine gc_ 90 rfl ?_); refine goB (w0 := w) (some 15) Tryz.func90 #[.string a1, .string a2] (Below.refl _ _) (rAnewPair.calls k a1 a2 p q r s e1 _ hL hp) ?_; intro w1 HB) | ((with_reducible refine gd_ 8 rfl ?_); refine bxE 8 #[.string (⟨#[]⟩ : ByteArray), .string (⟨#[]⟩ : ByteArray), .string (⟨#[]⟩ : ByteArray), .string (⟨#[]⟩ : ByteArray)] 95 ?_; intro gb hg wb hbox hbb; have hgl : w.heap.size ≤ gb := (by rw [hg]; exact HB.out.size); have HB2 := Z0.mk (below_step HB.out hbb); clear HB hg hbb; have HB := HB2; clear HB2; have hc0 : wb.cell? ⟨gb, 0, none⟩ = some (.string (⟨#[]⟩ : ByteArray)) := (blk_cell hbox 0).trans rfl; have hf0 := blk_frozen hbox 0; have hc1 : wb.cell? ⟨gb, 1, none⟩ = some (.string (⟨#[]⟩ : ByteArray)) := (blk_cell hbox 1).trans rfl; have hf1 := blk_frozen hbox 1; have hc2 : wb.cell? ⟨gb, 2, none⟩ = some (.string (⟨#[]⟩ : ByteArray)) := (blk_cell hbox 2).trans rfl; have hf2 := blk_frozen hbox 2; have hc3 : wb.cell? ⟨gb, 3, none⟩ = some (.string (⟨#[]⟩ : ByteArray)) := (blk_cell hbox 3).trans rfl; have hf3 := blk_frozen hbox 3))
  obtain ⟨W, hW⟩ : ∃ W, ((((wb.setCell ⟨gb, 0, none⟩ (.string p)).setCell ⟨gb, 1, none⟩ (.string q)).setCell ⟨gb, 2, none⟩ (.string r)).setCell ⟨gb, 3, none⟩ (.string s)) = W := ⟨_, rfl⟩
  have hx : W.heap[gb]? = some (.cells #[.string p, .string q, .string r, .string s] 95 (0, 0)) := by
   rw [← hW]
   exact blk_put (cs := #[.string p, .string q, .string r, .string (⟨#[]⟩ : ByteArray)]) (blk_put (cs := #[.string p, .string q, .string (⟨#[]⟩ : ByteArray), .string (⟨#[]⟩ : ByteArray)]) (blk_put (cs := #[.string p, .string (⟨#[]⟩ : ByteArray), .string (⟨#[]⟩ : ByteArray), .string (⟨#[]⟩ : ByteArray)]) (blk_put hbox 0 _ rfl) 1 _ rfl) 2 _ rfl) 3 _ rfl
  have hBW : Below w.heap.size w W := by rw [← hW]; exact below_set (below_set (below_set (below_set HB.out hgl) hgl) hgl) hgl
  rw [hW]
  clear hW HB hbox
  have hxd : W.drew.heap[gb]? = some (.cells #[.string p, .string q, .string r, .string s] 95 (0, 0)) := hx
  have hBd : Below w.heap.size w W.drew := hBW.drew
  go_region_held3 (fun w' => w'.cell? ⟨gb, 0, none⟩ = some (.string p) ∧ w'.cell? ⟨gb, 1, none⟩ = some (.string q) ∧ w'.cell? ⟨gb, 2, none⟩ = some (.string r) ∧ w'.cell? ⟨gb, 3, none⟩ = some (.string s))
   (first | exact ⟨blk_cell hxd 0, blk_cell hxd 1, blk_cell hxd 2, blk_cell hxd 3⟩ | exact ⟨blk_cell hx2 0, blk_cell hx2 1, blk_cell hx2 2, blk_cell hx2 3⟩ | exact ⟨blk_cell hx3 0, blk_cell hx3 1, blk_cell hx3 2, blk_cell hx3 3⟩)
   (first
     | (go_at_call 133; refine (rops_calls _).mono ?_; rintro e w2 ⟨m, g1, g2, rfl, hm, hg1, hg2, hb2⟩
        have hx2 := (hb2.block gb (Array.getElem?_eq_some_iff.1 hxd).1).trans hxd
        have hB2 := below_step hBd hb2
        have hlk := run_look m (ropsE g1 g2) 4 45 1 _ w2 hm rfl)
     | (go_at_call 200; refine (rAsubop.calls k p q r s y1 y2 e2 g2 w2 hg2 (hL.below hB2) ho).mono ?_; rintro e w3 ⟨rfl, hb3⟩
        have hx3 := (hb3.block gb (Array.getElem?_eq_some_iff.1 hx2).1).trans hx2
        have HB := Z0.mk (below_step hB2 hb3)))
  all_goals go_wp2_with (first | ((with_reducible refine gc_ 84 rfl ?_); refine goB (w0 := w) (some 35) Tryz.func84 #[.string y1, .string y2] HB.out (rAwhole.calls k y1 y2 r1 r2 _ (hL.below HB.out) hw) ?_; clear HB; intro w5 HB))
  go_ret2
  exact ⟨rfl, HB.out⟩
 rw [if_neg c2] at h
 simp only [Option.some.injEq, Prod.mk.injEq] at h
 obtain ⟨rfl, rfl⟩ := h
 have c2b : (e2 != 0) = true := bne_iff_ne.mpr c2
 have c2c : (e2 == 0) = false := beq_eq_false_iff_ne.mpr c2
 go_enter Tryz.func97, Tryz.ntmps97
 go_wp2_with (first | ((with_reducible refine gc_ 90 rfl ?_); refine goB (w0 := w) (some 15) Tryz.func90 #[.string a1, .string a2] (Below.refl _ _) (rAnewPair.calls k a1 a2 p q r s e1 _ hL hp) ?_; intro w1 HB) | ((with_reducible refine gd_ 8 rfl ?_); refine bxE 8 #[.string (⟨#[]⟩ : ByteArray), .string (⟨#[]⟩ : ByteArray), .string (⟨#[]⟩ : ByteArray), .string (⟨#[]⟩ : ByteArray)] 95 ?_; intro gb hg wb hbox hbb; have hgl : w.heap.size ≤ gb := (by rw [hg]; exact HB.out.size); have HB2 := Z0.mk (below_step HB.out hbb); clear HB hg hbb; have HB := HB2; clear HB2; have hc0 : wb.cell? ⟨gb, 0, none⟩ = some (.string (⟨#[]⟩ : ByteArray)) := (blk_cell hbox 0).trans rfl; have hf0 := blk_frozen hbox 0; have hc1 : wb.cell? ⟨gb, 1, none⟩ = some (.string (⟨#[]⟩ : ByteArray)) := (blk_cell hbox 1).trans rfl; have hf1 := blk_frozen hbox 1; have hc2 : wb.cell? ⟨gb, 2, none⟩ = some (.string (⟨#[]⟩ : ByteArray)) := (blk_cell hbox 2).trans rfl; have hf2 := blk_frozen hbox 2; have hc3 : wb.cell? ⟨gb, 3, none⟩ = some (.string (⟨#[]⟩ : ByteArray)) := (blk_cell hbox 3).trans rfl; have hf3 := blk_frozen hbox 3))
 obtain ⟨W, hW⟩ : ∃ W, ((((wb.setCell ⟨gb, 0, none⟩ (.string p)).setCell ⟨gb, 1, none⟩ (.string q)).setCell ⟨gb, 2, none⟩ (.string r)).setCell ⟨gb, 3, none⟩ (.string s)) = W := ⟨_, rfl⟩
 have hx : W.heap[gb]? = some (.cells #[.string p, .string q, .string r, .string s] 95 (0, 0)) := by
  rw [← hW]
  exact blk_put (cs := #[.string p, .string q, .string r, .string (⟨#[]⟩ : ByteArray)]) (blk_put (cs := #[.string p, .string q, .string (⟨#[]⟩ : ByteArray), .string (⟨#[]⟩ : ByteArray)]) (blk_put (cs := #[.string p, .string (⟨#[]⟩ : ByteArray), .string (⟨#[]⟩ : ByteArray), .string (⟨#[]⟩ : ByteArray)]) (blk_put hbox 0 _ rfl) 1 _ rfl) 2 _ rfl) 3 _ rfl
 have hBW : Below w.heap.size w W := by rw [← hW]; exact below_set (below_set (below_set (below_set HB.out hgl) hgl) hgl) hgl
 rw [hW]
 clear hW HB hbox
 have hxd : W.drew.heap[gb]? = some (.cells #[.string p, .string q, .string r, .string s] 95 (0, 0)) := hx
 have hBd : Below w.heap.size w W.drew := hBW.drew
 go_region_held3 (fun w' => w'.cell? ⟨gb, 0, none⟩ = some (.string p) ∧ w'.cell? ⟨gb, 1, none⟩ = some (.string q) ∧ w'.cell? ⟨gb, 2, none⟩ = some (.string r) ∧ w'.cell? ⟨gb, 3, none⟩ = some (.string s))
  (first | exact ⟨blk_cell hxd 0, blk_cell hxd 1, blk_cell hxd 2, blk_cell hxd 3⟩ | exact ⟨blk_cell hx2 0, blk_cell hx2 1, blk_cell hx2 2, blk_cell hx2 3⟩ | exact ⟨blk_cell hx3 0, blk_cell hx3 1, blk_cell hx3 2, blk_cell hx3 3⟩)
  (first
    | (go_at_call 133; refine (rops_calls _).mono ?_; rintro e w2 ⟨m, g1, g2, rfl, hm, hg1, hg2, hb2⟩
       have hx2 := (hb2.block gb (Array.getElem?_eq_some_iff.1 hxd).1).trans hxd
       have hB2 := below_step hBd hb2
       have hlk := run_look m (ropsE g1 g2) 4 45 1 _ w2 hm rfl)
    | (go_at_call 200; refine (rAsubop.calls k p q r s y1 y2 e2 g2 w2 hg2 (hL.below hB2) ho).mono ?_; rintro e w3 ⟨rfl, hb3⟩
       have hx3 := (hb3.block gb (Array.getElem?_eq_some_iff.1 hx2).1).trans hx2
       have HB := Z0.mk (below_step hB2 hb3)))
 all_goals go_wp2
 go_ret2
 exact ⟨rfl, HB.out⟩
theorem calc42 (k : Nat) (a1 a2 : ByteArray) (r1 : ByteArray) (r2 : Int) (w : World) (hL : LaidW w) (h : calcF (rAoperations_1.f k) k a1 a2 = some (r1, r2)) :
    Calls Tryz.prog 97 #[.int .u8 42, .string a1, .string a2] w fun e w' => e = .returned (.tuple #[.string r1, .int .i64 r2]) ∧ Below w.heap.size w w' := by
 have hu95 := Tryz.underlying95
 unfold calcF at h
 obtain ⟨⟨p, q, r, s, e1⟩, hp, h⟩ := Option.bind_eq_some_iff.mp h
 simp only at h
 by_cases c1 : e1 = 0
 rotate_left
 ·rw [if_neg c1] at h
  simp only [Option.some.injEq, Prod.mk.injEq] at h
  obtain ⟨rfl, rfl⟩ := h
  have c1b : (e1 != 0) = true := bne_iff_ne.mpr c1
  have c1c : (e1 == 0) = false := beq_eq_false_iff_ne.mpr c1
  go_enter Tryz.func97, Tryz.ntmps97
  go_wp2_with (first | ((with_reducible refine gc_ 90 rfl ?_); refine goB (w0 := w) (some 15) Tryz.func90 #[.string a1, .string a2] (Below.refl _ _) (rAnewPair.calls k a1 a2 p q r s e1 _ hL hp) ?_; intro w1 HB) | ((with_reducible refine gd_ 8 rfl ?_); refine bxE 8 #[.string (⟨#[]⟩ : ByteArray), .string (⟨#[]⟩ : ByteArray), .string (⟨#[]⟩ : ByteArray), .string (⟨#[]⟩ : ByteArray)] 95 ?_; intro gb hg wb hbox hbb; have hgl : w.heap.size ≤ gb := (by rw [hg]; exact HB.out.size); have HB2 := Z0.mk (below_step HB.out hbb); clear HB hg hbb; have HB := HB2; clear HB2; have hc0 : wb.cell? ⟨gb, 0, none⟩ = some (.string (⟨#[]⟩ : ByteArray)) := (blk_cell hbox 0).trans rfl; have hf0 := blk_frozen hbox 0; have hc1 : wb.cell? ⟨gb, 1, none⟩ = some (.string (⟨#[]⟩ : ByteArray)) := (blk_cell hbox 1).trans rfl; have hf1 := blk_frozen hbox 1; have hc2 : wb.cell? ⟨gb, 2, none⟩ = some (.string (⟨#[]⟩ : ByteArray)) := (blk_cell hbox 2).trans rfl; have hf2 := blk_frozen hbox 2; have hc3 : wb.cell? ⟨gb, 3, none⟩ = some (.string (⟨#[]⟩ : ByteArray)) := (blk_cell hbox 3).trans rfl; have hf3 := blk_frozen hbox 3))
  go_ret2
  exact ⟨rfl, below_set (below_set (below_set (below_set HB.out hgl) hgl) hgl) hgl⟩
 rw [if_pos c1] at h
 obtain ⟨⟨y1, y2, e2⟩, ho, h⟩ := Option.bind_eq_some_iff.mp h
 simp only at h
 have c1b : (e1 != 0) = false := bne_eq_false_iff_eq.mpr c1
 have c1c : (e1 == 0) = true := beq_iff_eq.mpr c1
 clear c1
 by_cases c2 : e2 = 0
 ·rw [if_pos c2] at h
  have c2b : (e2 != 0) = false := bne_eq_false_iff_eq.mpr c2
  have c2c : (e2 == 0) = true := beq_iff_eq.mpr c2
  clear c2
  have hw := h
  go_enter Tryz.func97, Tryz.ntmps97
  go_wp2_with (first | ((with_reducible refine gc_ 90 rfl ?_); refine goB (w0 := w) (some 15) Tryz.func90 #[.string a1, .string a2] (Below.refl _ _) (rAnewPair.calls k a1 a2 p q r s e1 _ hL hp) ?_; intro w1 HB) | ((with_reducible refine gd_ 8 rfl ?_); refine bxE 8 #[.string (⟨#[]⟩ : ByteArray), .string (⟨#[]⟩ : ByteArray), .string (⟨#[]⟩ : ByteArray), .string (⟨#[]⟩ : ByteArray)] 95 ?_; intro gb hg wb hbox hbb; have hgl : w.heap.size ≤ gb := (by rw [hg]; exact HB.out.size); have HB2 := Z0.mk (below_step HB.out hbb); clear HB hg hbb; have HB := HB2; clear HB2; have hc0 : wb.cell? ⟨gb, 0, none⟩ = some (.string (⟨#[]⟩ : ByteArray)) := (blk_cell hbox 0).trans rfl; have hf0 := blk_frozen hbox 0; have hc1 : wb.cell? ⟨gb, 1, none⟩ = some (.string (⟨#[]⟩ : ByteArray)) := (blk_cell hbox 1).trans rfl; have hf1 := blk_frozen hbox 1; have hc2 : wb.cell? ⟨gb, 2, none⟩ = some (.string (⟨#[]⟩ : ByteArray)) := (blk_cell hbox 2).trans rfl; have hf2 := blk_frozen hbox 2; have hc3 : wb.cell? ⟨gb, 3, none⟩ = some (.string (⟨#[]⟩ : ByteArray)) := (blk_cell hbox 3).trans rfl; have hf3 := blk_frozen hbox 3))
  obtain ⟨W, hW⟩ : ∃ W, ((((wb.setCell ⟨gb, 0, none⟩ (.string p)).setCell ⟨gb, 1, none⟩ (.string q)).setCell ⟨gb, 2, none⟩ (.string r)).setCell ⟨gb, 3, none⟩ (.string s)) = W := ⟨_, rfl⟩
  have hx : W.heap[gb]? = some (.cells #[.string p, .string q, .string r, .string s] 95 (0, 0)) := by
   rw [← hW]
   exact blk_put (cs := #[.string p, .string q, .string r, .string (⟨#[]⟩ : ByteArray)]) (blk_put (cs := #[.string p, .string q, .string (⟨#[]⟩ : ByteArray), .string (⟨#[]⟩ : ByteArray)]) (blk_put (cs := #[.string p, .string (⟨#[]⟩ : ByteArray), .string (⟨#[]⟩ : ByteArray), .string (⟨#[]⟩ : ByteArray)]) (blk_put hbox 0 _ rfl) 1 _ rfl) 2 _ rfl) 3 _ rfl
  have hBW : Below w.heap.size w W := by rw [← hW]; exact below_set (below_set (below_set (below_set HB.out hgl) hgl) hgl) hgl
  rw [hW]
  clear hW HB hbox
  have hxd : W.drew.heap[gb]? = some (.cells #[.string p, .string q, .string r, .string s] 95 (0, 0)) := hx
  have hBd : Below w.heap.size w W.drew := hBW.drew
  go_region_held3 (fun w' => w'.cell? ⟨gb, 0, none⟩ = some (.string p) ∧ w'.cell? ⟨gb, 1, none⟩ = some (.string q) ∧ w'.cell? ⟨gb, 2, none⟩ = some (.string r) ∧ w'.cell? ⟨gb, 3, none⟩ = some (.string s))
   (first | exact ⟨blk_cell hxd 0, blk_cell hxd 1, blk_cell hxd 2, blk_cell hxd 3⟩ | exact ⟨blk_cell hx2 0, blk_cell hx2 1, blk_cell hx2 2, blk_cell hx2 3⟩ | exact ⟨blk_cell hx3 0, blk_cell hx3 1, blk_cell hx3 2, blk_cell hx3 3⟩)
   (first
     | (go_at_call 133; refine (rops_calls _).mono ?_; rintro e w2 ⟨m, g1, g2, rfl, hm, hg1, hg2, hb2⟩
        have hx2 := (hb2.block gb (Array.getElem?_eq_some_iff.1 hxd).1).trans hxd
        have hB2 := below_step hBd hb2
        have hlk := run_look m (ropsE g1 g2) 4 42 2 _ w2 hm rfl)
     | (go_at_call 174; refine (rAoperations_1.calls k p q r s y1 y2 e2 w2 (hL.below hB2) ho).mono ?_; rintro e w3 ⟨rfl, hb3⟩
        have hx3 := (hb3.block gb (Array.getElem?_eq_some_iff.1 hx2).1).trans hx2
        have HB := Z0.mk (below_step hB2 hb3)))
  all_goals go_wp2_with (first | ((with_reducible refine gc_ 84 rfl ?_); refine goB (w0 := w) (some 35) Tryz.func84 #[.string y1, .string y2] HB.out (rAwhole.calls k y1 y2 r1 r2 _ (hL.below HB.out) hw) ?_; clear HB; intro w5 HB))
  go_ret2
  exact ⟨rfl, HB.out⟩
 rw [if_neg c2] at h
 simp only [Option.some.injEq, Prod.mk.injEq] at h
 obtain ⟨rfl, rfl⟩ := h
 have c2b : (e2 != 0) = true := bne_iff_ne.mpr c2
 have c2c : (e2 == 0) = false := beq_eq_false_iff_ne.mpr c2
 go_enter Tryz.func97, Tryz.ntmps97
 go_wp2_with (first | ((with_reducible refine gc_ 90 rfl ?_); refine goB (w0 := w) (some 15) Tryz.func90 #[.string a1, .string a2] (Below.refl _ _) (rAnewPair.calls k a1 a2 p q r s e1 _ hL hp) ?_; intro w1 HB) | ((with_reducible refine gd_ 8 rfl ?_); refine bxE 8 #[.string (⟨#[]⟩ : ByteArray), .string (⟨#[]⟩ : ByteArray), .string (⟨#[]⟩ : ByteArray), .string (⟨#[]⟩ : ByteArray)] 95 ?_; intro gb hg wb hbox hbb; have hgl : w.heap.size ≤ gb := (by rw [hg]; exact HB.out.size); have HB2 := Z0.mk (below_step HB.out hbb); clear HB hg hbb; have HB := HB2; clear HB2; have hc0 : wb.cell? ⟨gb, 0, none⟩ = some (.string (⟨#[]⟩ : ByteArray)) := (blk_cell hbox 0).trans rfl; have hf0 := blk_frozen hbox 0; have hc1 : wb.cell? ⟨gb, 1, none⟩ = some (.string (⟨#[]⟩ : ByteArray)) := (blk_cell hbox 1).trans rfl; have hf1 := blk_frozen hbox 1; have hc2 : wb.cell? ⟨gb, 2, none⟩ = some (.string (⟨#[]⟩ : ByteArray)) := (blk_cell hbox 2).trans rfl; have hf2 := blk_frozen hbox 2; have hc3 : wb.cell? ⟨gb, 3, none⟩ = some (.string (⟨#[]⟩ : ByteArray)) := (blk_cell hbox 3).trans rfl; have hf3 := blk_frozen hbox 3))
 obtain ⟨W, hW⟩ : ∃ W, ((((wb.setCell ⟨gb, 0, none⟩ (.string p)).setCell ⟨gb, 1, none⟩ (.string q)).setCell ⟨gb, 2, none⟩ (.string r)).setCell ⟨gb, 3, none⟩ (.string s)) = W := ⟨_, rfl⟩
 have hx : W.heap[gb]? = some (.cells #[.string p, .string q, .string r, .string s] 95 (0, 0)) := by
  rw [← hW]
  exact blk_put (cs := #[.string p, .string q, .string r, .string (⟨#[]⟩ : ByteArray)]) (blk_put (cs := #[.string p, .string q, .string (⟨#[]⟩ : ByteArray), .string (⟨#[]⟩ : ByteArray)]) (blk_put (cs := #[.string p, .string (⟨#[]⟩ : ByteArray), .string (⟨#[]⟩ : ByteArray), .string (⟨#[]⟩ : ByteArray)]) (blk_put hbox 0 _ rfl) 1 _ rfl) 2 _ rfl) 3 _ rfl
 have hBW : Below w.heap.size w W := by rw [← hW]; exact below_set (below_set (below_set (below_set HB.out hgl) hgl) hgl) hgl
 rw [hW]
 clear hW HB hbox
 have hxd : W.drew.heap[gb]? = some (.cells #[.string p, .string q, .string r, .string s] 95 (0, 0)) := hx
 have hBd : Below w.heap.size w W.drew := hBW.drew
 go_region_held3 (fun w' => w'.cell? ⟨gb, 0, none⟩ = some (.string p) ∧ w'.cell? ⟨gb, 1, none⟩ = some (.string q) ∧ w'.cell? ⟨gb, 2, none⟩ = some (.string r) ∧ w'.cell? ⟨gb, 3, none⟩ = some (.string s))
  (first | exact ⟨blk_cell hxd 0, blk_cell hxd 1, blk_cell hxd 2, blk_cell hxd 3⟩ | exact ⟨blk_cell hx2 0, blk_cell hx2 1, blk_cell hx2 2, blk_cell hx2 3⟩ | exact ⟨blk_cell hx3 0, blk_cell hx3 1, blk_cell hx3 2, blk_cell hx3 3⟩)
  (first
    | (go_at_call 133; refine (rops_calls _).mono ?_; rintro e w2 ⟨m, g1, g2, rfl, hm, hg1, hg2, hb2⟩
       have hx2 := (hb2.block gb (Array.getElem?_eq_some_iff.1 hxd).1).trans hxd
       have hB2 := below_step hBd hb2
       have hlk := run_look m (ropsE g1 g2) 4 42 2 _ w2 hm rfl)
    | (go_at_call 174; refine (rAoperations_1.calls k p q r s y1 y2 e2 w2 (hL.below hB2) ho).mono ?_; rintro e w3 ⟨rfl, hb3⟩
       have hx3 := (hb3.block gb (Array.getElem?_eq_some_iff.1 hx2).1).trans hx2
       have HB := Z0.mk (below_step hB2 hb3)))
 all_goals go_wp2
 go_ret2
 exact ⟨rfl, HB.out⟩
theorem calc47 (k : Nat) (a1 a2 : ByteArray) (r1 : ByteArray) (r2 : Int) (w : World) (hL : LaidW w) (h : calcF (rAoperations_2.f k) k a1 a2 = some (r1, r2)) :
    Calls Tryz.prog 97 #[.int .u8 47, .string a1, .string a2] w fun e w' => e = .returned (.tuple #[.string r1, .int .i64 r2]) ∧ Below w.heap.size w w' := by
 have hu95 := Tryz.underlying95
 unfold calcF at h
 obtain ⟨⟨p, q, r, s, e1⟩, hp, h⟩ := Option.bind_eq_some_iff.mp h
 simp only at h
 by_cases c1 : e1 = 0
 rotate_left
 ·rw [if_neg c1] at h
  simp only [Option.some.injEq, Prod.mk.injEq] at h
  obtain ⟨rfl, rfl⟩ := h
  have c1b : (e1 != 0) = true := bne_iff_ne.mpr c1
  have c1c : (e1 == 0) = false := beq_eq_false_iff_ne.mpr c1
  go_enter Tryz.func97, Tryz.ntmps97
  go_wp2_with (first | ((with_reducible refine gc_ 90 rfl ?_); refine goB (w0 := w) (some 15) Tryz.func90 #[.string a1, .string a2] (Below.refl _ _) (rAnewPair.calls k a1 a2 p q r s e1 _ hL hp) ?_; intro w1 HB) | ((with_reducible refine gd_ 8 rfl ?_); refine bxE 8 #[.string (⟨#[]⟩ : ByteArray), .string (⟨#[]⟩ : ByteArray), .string (⟨#[]⟩ : ByteArray), .string (⟨#[]⟩ : ByteArray)] 95 ?_; intro gb hg wb hbox hbb; have hgl : w.heap.size ≤ gb := (by rw [hg]; exact HB.out.size); have HB2 := Z0.mk (below_step HB.out hbb); clear HB hg hbb; have HB := HB2; clear HB2; have hc0 : wb.cell? ⟨gb, 0, none⟩ = some (.string (⟨#[]⟩ : ByteArray)) := (blk_cell hbox 0).trans rfl; have hf0 := blk_frozen hbox 0; have hc1 : wb.cell? ⟨gb, 1, none⟩ = some (.string (⟨#[]⟩ : ByteArray)) := (blk_cell hbox 1).trans rfl; have hf1 := blk_frozen hbox 1; have hc2 : wb.cell? ⟨gb, 2, none⟩ = some (.string (⟨#[]⟩ : ByteArray)) := (blk_cell hbox 2).trans rfl; have hf2 := blk_frozen hbox 2; have hc3 : wb.cell? ⟨gb, 3, none⟩ = some (.string (⟨#[]⟩ : ByteArray)) := (blk_cell hbox 3).trans rfl; have hf3 := blk_frozen hbox 3))
  go_ret2
  exact ⟨rfl, below_set (below_set (below_set (below_set HB.out hgl) hgl) hgl) hgl⟩
 rw [if_pos c1] at h
 obtain ⟨⟨y1, y2, e2⟩, ho, h⟩ := Option.bind_eq_some_iff.mp h
 simp only at h
 have c1b : (e1 != 0) = false := bne_eq_false_iff_eq.mpr c1
 have c1c : (e1 == 0) = true := beq_iff_eq.mpr c1
 clear c1
 by_cases c2 : e2 = 0
 ·rw [if_pos c2] at h
  have c2b : (e2 != 0) = false := bne_eq_false_iff_eq.mpr c2
  have c2c : (e2 == 0) = true := beq_iff_eq.mpr c2
  clear c2
  have hw := h
  go_enter Tryz.func97, Tryz.ntmps97
  go_wp2_with (first | ((with_reducible refine gc_ 90 rfl ?_); refine goB (w0 := w) (some 15) Tryz.func90 #[.string a1, .string a2] (Below.refl _ _) (rAnewPair.calls k a1 a2 p q r s e1 _ hL hp) ?_; intro w1 HB) | ((with_reducible refine gd_ 8 rfl ?_); refine bxE 8 #[.string (⟨#[]⟩ : ByteArray), .string (⟨#[]⟩ : ByteArray), .string (⟨#[]⟩ : ByteArray), .string (⟨#[]⟩ : ByteArray)] 95 ?_; intro gb hg wb hbox hbb; have hgl : w.heap.size ≤ gb := (by rw [hg]; exact HB.out.size); have HB2 := Z0.mk (below_step HB.out hbb); clear HB hg hbb; have HB := HB2; clear HB2; have hc0 : wb.cell? ⟨gb, 0, none⟩ = some (.string (⟨#[]⟩ : ByteArray)) := (blk_cell hbox 0).trans rfl; have hf0 := blk_frozen hbox 0; have hc1 : wb.cell? ⟨gb, 1, none⟩ = some (.string (⟨#[]⟩ : ByteArray)) := (blk_cell hbox 1).trans rfl; have hf1 := blk_frozen hbox 1; have hc2 : wb.cell? ⟨gb, 2, none⟩ = some (.string (⟨#[]⟩ : ByteArray)) := (blk_cell hbox 2).trans rfl; have hf2 := blk_frozen hbox 2; have hc3 : wb.cell? ⟨gb, 3, none⟩ = some (.string (⟨#[]⟩ : ByteArray)) := (blk_cell hbox 3).trans rfl; have hf3 := blk_frozen hbox 3))
  obtain ⟨W, hW⟩ : ∃ W, ((((wb.setCell ⟨gb, 0, none⟩ (.string p)).setCell ⟨gb, 1, none⟩ (.string q)).setCell ⟨gb, 2, none⟩ (.string r)).setCell ⟨gb, 3, none⟩ (.string s)) = W := ⟨_, rfl⟩
  have hx : W.heap[gb]? = some (.cells #[.string p, .string q, .string r, .string s] 95 (0, 0)) := by
   rw [← hW]
   exact blk_put (cs := #[.string p, .string q, .string r, .string (⟨#[]⟩ : ByteArray)]) (blk_put (cs := #[.string p, .string q, .string (⟨#[]⟩ : ByteArray), .string (⟨#[]⟩ : ByteArray)]) (blk_put (cs := #[.string p, .string (⟨#[]⟩ : ByteArray), .string (⟨#[]⟩ : ByteArray), .string (⟨#[]⟩ : ByteArray)]) (blk_put hbox 0 _ rfl) 1 _ rfl) 2 _ rfl) 3 _ rfl
  have hBW : Below w.heap.size w W := by rw [← hW]; exact below_set (below_set (below_set (below_set HB.out hgl) hgl) hgl) hgl
  rw [hW]
  clear hW HB hbox
  have hxd : W.drew.heap[gb]? = some (.cells #[.string p, .string q, .string r, .string s] 95 (0, 0)) := hx
  have hBd : Below w.heap.size w W.drew := hBW.drew
  go_region_held3 (fun w' => w'.cell? ⟨gb, 0, none⟩ = some (.string p) ∧ w'.cell? ⟨gb, 1, none⟩ = some (.string q) ∧ w'.cell? ⟨gb, 2, none⟩ = some (.string r) ∧ w'.cell? ⟨gb, 3, none⟩ = some (.string s))
   (first | exact ⟨blk_cell hxd 0, blk_cell hxd 1, blk_cell hxd 2, blk_cell hxd 3⟩ | exact ⟨blk_cell hx2 0, blk_cell hx2 1, blk_cell hx2 2, blk_cell hx2 3⟩ | exact ⟨blk_cell hx3 0, blk_cell hx3 1, blk_cell hx3 2, blk_cell hx3 3⟩)
   (first
     | (go_at_call 133; refine (rops_calls _).mono ?_; rintro e w2 ⟨m, g1, g2, rfl, hm, hg1, hg2, hb2⟩
        have hx2 := (hb2.block gb (Array.getElem?_eq_some_iff.1 hxd).1).trans hxd
        have hB2 := below_step hBd hb2
        have hlk := run_look m (ropsE g1 g2) 4 47 3 _ w2 hm rfl)
     | (go_at_call 175; refine (rAoperations_2.calls k p q r s y1 y2 e2 w2 (hL.below hB2) ho).mono ?_; rintro e w3 ⟨rfl, hb3⟩
        have hx3 := (hb3.block gb (Array.getElem?_eq_some_iff.1 hx2).1).trans hx2
        have HB := Z0.mk (below_step hB2 hb3)))
  all_goals go_wp2_with (first | ((with_reducible refine gc_ 84 rfl ?_); refine goB (w0 := w) (some 35) Tryz.func84 #[.string y1, .string y2] HB.out (rAwhole.calls k y1 y2 r1 r2 _ (hL.below HB.out) hw) ?_; clear HB; intro w5 HB))
  go_ret2
  exact ⟨rfl, HB.out⟩
 rw [if_neg c2] at h
 simp only [Option.some.injEq, Prod.mk.injEq] at h
 obtain ⟨rfl, rfl⟩ := h
 have c2b : (e2 != 0) = true := bne_iff_ne.mpr c2
 have c2c : (e2 == 0) = false := beq_eq_false_iff_ne.mpr c2
 go_enter Tryz.func97, Tryz.ntmps97
 go_wp2_with (first | ((with_reducible refine gc_ 90 rfl ?_); refine goB (w0 := w) (some 15) Tryz.func90 #[.string a1, .string a2] (Below.refl _ _) (rAnewPair.calls k a1 a2 p q r s e1 _ hL hp) ?_; intro w1 HB) | ((with_reducible refine gd_ 8 rfl ?_); refine bxE 8 #[.string (⟨#[]⟩ : ByteArray), .string (⟨#[]⟩ : ByteArray), .string (⟨#[]⟩ : ByteArray), .string (⟨#[]⟩ : ByteArray)] 95 ?_; intro gb hg wb hbox hbb; have hgl : w.heap.size ≤ gb := (by rw [hg]; exact HB.out.size); have HB2 := Z0.mk (below_step HB.out hbb); clear HB hg hbb; have HB := HB2; clear HB2; have hc0 : wb.cell? ⟨gb, 0, none⟩ = some (.string (⟨#[]⟩ : ByteArray)) := (blk_cell hbox 0).trans rfl; have hf0 := blk_frozen hbox 0; have hc1 : wb.cell? ⟨gb, 1, none⟩ = some (.string (⟨#[]⟩ : ByteArray)) := (blk_cell hbox 1).trans rfl; have hf1 := blk_frozen hbox 1; have hc2 : wb.cell? ⟨gb, 2, none⟩ = some (.string (⟨#[]⟩ : ByteArray)) := (blk_cell hbox 2).trans rfl; have hf2 := blk_frozen hbox 2; have hc3 : wb.cell? ⟨gb, 3, none⟩ = some (.string (⟨#[]⟩ : ByteArray)) := (blk_cell hbox 3).trans rfl; have hf3 := blk_frozen hbox 3))
 obtain ⟨W, hW⟩ : ∃ W, ((((wb.setCell ⟨gb, 0, none⟩ (.string p)).setCell ⟨gb, 1, none⟩ (.string q)).setCell ⟨gb, 2, none⟩ (.string r)).setCell ⟨gb, 3, none⟩ (.string s)) = W := ⟨_, rfl⟩
 have hx : W.heap[gb]? = some (.cells #[.string p, .string q, .string r, .string s] 95 (0, 0)) := by
  rw [← hW]
  exact blk_put (cs := #[.string p, .string q, .string r, .string (⟨#[]⟩ : ByteArray)]) (blk_put (cs := #[.string p, .string q, .string (⟨#[]⟩ : ByteArray), .string (⟨#[]⟩ : ByteArray)]) (blk_put (cs := #[.string p, .string (⟨#[]⟩ : ByteArray), .string (⟨#[]⟩ : ByteArray), .string (⟨#[]⟩ : ByteArray)]) (blk_put hbox 0 _ rfl) 1 _ rfl) 2 _ rfl) 3 _ rfl
 have hBW : Below w.heap.size w W := by rw [← hW]; exact below_set (below_set (below_set (below_set HB.out hgl) hgl) hgl) hgl
 rw [hW]
 clear hW HB hbox
 have hxd : W.drew.heap[gb]? = some (.cells #[.string p, .string q, .string r, .string s] 95 (0, 0)) := hx
 have hBd : Below w.heap.size w W.drew := hBW.drew
 go_region_held3 (fun w' => w'.cell? ⟨gb, 0, none⟩ = some (.string p) ∧ w'.cell? ⟨gb, 1, none⟩ = some (.string q) ∧ w'.cell? ⟨gb, 2, none⟩ = some (.string r) ∧ w'.cell? ⟨gb, 3, none⟩ = some (.string s))
  (first | exact ⟨blk_cell hxd 0, blk_cell hxd 1, blk_cell hxd 2, blk_cell hxd 3⟩ | exact ⟨blk_cell hx2 0, blk_cell hx2 1, blk_cell hx2 2, blk_cell hx2 3⟩ | exact ⟨blk_cell hx3 0, blk_cell hx3 1, blk_cell hx3 2, blk_cell hx3 3⟩)
  (first
    | (go_at_call 133; refine (rops_calls _).mono ?_; rintro e w2 ⟨m, g1, g2, rfl, hm, hg1, hg2, hb2⟩
       have hx2 := (hb2.block gb (Array.getElem?_eq_some_iff.1 hxd).1).trans hxd
       have hB2 := below_step hBd hb2
       have hlk := run_look m (ropsE g1 g2) 4 47 3 _ w2 hm rfl)
    | (go_at_call 175; refine (rAoperations_2.calls k p q r s y1 y2 e2 w2 (hL.below hB2) ho).mono ?_; rintro e w3 ⟨rfl, hb3⟩
       have hx3 := (hb3.block gb (Array.getElem?_eq_some_iff.1 hx2).1).trans hx2
       have HB := Z0.mk (below_step hB2 hb3)))
 all_goals go_wp2
 go_ret2
 exact ⟨rfl, HB.out⟩
theorem rAcalculate.calls (k : Nat) (a0 : Int) (a1 : ByteArray) (a2 : ByteArray) (r1 : ByteArray) (r2 : Int) (w : World) (hL : LaidW w) (h : rAcalculate.f k a0 a1 a2 = some (r1, r2)) :
    Calls Tryz.prog 97 #[.int .u8 a0, .string a1, .string a2] w fun e w' => e = .returned (.tuple #[.string r1, .int .i64 r2]) ∧ Below w.heap.size w w' := by
 unfold rAcalculate.f at h
 split at h
 ·rename_i e; subst e; exact calc43 k a1 a2 r1 r2 w hL h
 split at h
 ·rename_i e; subst e; exact calc45 k a1 a2 r1 r2 w hL h
 split at h
 ·rename_i e; subst e; exact calc42 k a1 a2 r1 r2 w hL h
 split at h
 ·rename_i e; subst e; exact calc47 k a1 a2 r1 r2 w hL h
 cases h
end Go.Proofs.YthnfajboebaajaaGreatDoor
namespace Go.Proofs.YthnfajboebaajaaGreatDoor.PA
set_option linter.unusedVariables false
open Go.RowKit Go.Proofs.WWords Go.Proofs.WLast Go.Proofs.WMore
attribute [local go_sem] max2_int min2_int max_two min_two max_three min_three max_four min_four
set_option linter.unusedSimpArgs false
theorem rAAdd.calls (k : Nat) (a0 : ByteArray) (a1 : ByteArray) (r1 : ByteArray) (r2 : Int) (w : World) (hL : LaidW w) (h : rAAdd.f k a0 a1 = some (r1, r2)) :
  Calls Tryz.prog 43 #[.string a0, .string a1] w fun e w' => e = .returned (.tuple #[.string r1, .int .i64 r2]) ∧ Below w.heap.size w w' := by
 have HB := Z0.mk (Below.refl w.heap.size w)
 have H := h
 clear h
 unfold rAAdd.f at H
 obtain ⟨⟨t411, t412⟩, A3, H⟩ := bnd H
 try dsimp only at H
 simp only [Option.some.injEq, Prod.mk.injEq] at H
 obtain ⟨rfl, rfl⟩ := H
 go_enter Tryz.func43, Tryz.ntmps43
 go_wp2_with (first | ((with_reducible refine gc_ 97 rfl ?_); refine goB (some 8) Tryz.func97 #[.int .u8 43, .string a0, .string a1] bq (rAcalculate.calls k 43 a0 a1 t411 t412 _ (hL.below bq) A3.out) ?_; clear HB; intro w4 HB))
 go_ret2
 exact finE
theorem rFslash.calls (k : Nat) (a0 : ByteArray) (r : Int) (w : World) (h : rFslash.f k a0 = some r) :
  Calls Tryz.prog 113 #[.string a0] w fun e w' => e = .returned (.int .i64 r) ∧ Drawn0 w w' := by
 have H := h
 clear h
 unfold rFslash.f at H
 have H' := Z0.mk H
 clear H
 go_enter Tryz.func113, Tryz.ntmps113
 go_wp2
 go_loopg [3] k (fun kq v3 w' => ∃ (x3_1 : Int), v3 = .int .i64 x3_1 ∧ Z0 (rFslash.l0 kq a0 x3_1 = some r) ∧ Z0 (kq ≤ k) ∧ Drawn0 w w')
 case atStart => exact ⟨(0), fs, H', ⟨Nat.le_refl _⟩, by repeat (first | exact Drawn0.refl _ | apply Drawn0.step)⟩
 case round =>
  clear H'
  try clear c1
  obtain ⟨x3_1, rfl, HA, HK1, ⟨m1, rfl⟩⟩ := hrel
  cases gk with
  | zero => exact absurd HA.out (by simp [rFslash.l0])
  | succ k1 =>
   have H := HA.out
   clear HA
   simp only [rFslash.l0] at H
   rcases jd H with ⟨-, c2b0, H⟩ | ⟨-, c2b0, H⟩
   ·obtain ⟨-, c3b0, H⟩ := gd H
    rcases je H with ⟨-, c5b0, c5b1, H⟩ | ⟨c5, c5b0, c5b1, H⟩
    ·obtain rfl := Option.some.inj H
     obtain ⟨hx4, p4, q4⟩ := btA a0 x3_1
     go_wp2
     go_ret
     exact finD
    have H' := Z0.mk H
    clear H
    obtain ⟨hx4, p4, q4⟩ := btA a0 x3_1
    go_wp2
    go_roundg k1
    case measure => have := HK1.out; omega
    case rel => exact ⟨(wrap64 (x3_1 + 1)), fs, H', ⟨by have := HK1.out; omega⟩, by repeat (first | exact Drawn0.refl _ | apply Drawn0.step)⟩
   obtain rfl := Option.some.inj H
   go_wp2
   go_ret
   exact finD
theorem rFBottom.calls (k : Nat) (a0 : ByteArray) (r : ByteArray) (w : World) (h : rFBottom.f k a0 = some r) :
  Calls Tryz.prog 73 #[.string a0] w fun e w' => e = .returned (.string r) ∧ Drawn0 w w' := by
 have H := h
 clear h
 unfold rFBottom.f at H
 obtain ⟨t442, A2, H⟩ := bnd H
 rcases jh H with ⟨-, c3b0, H⟩ | ⟨-, c3b0, H⟩
 ·obtain ⟨ji4, hji4⟩ : ∃ j_ : Int, (wrap64 (t442 + 1)) = j_ := ⟨_, rfl⟩
  replace H : (if 0 ≤ (ji4) then (if (ji4) ≤ (a0.size : Int) then (some (a0.extract ((ji4) : Int).toNat a0.size)) else (none)) else (none)) = some r := by first | (rw [hji4] at H; exact H) | (simp only [hji4] at H ⊢; exact H)
  (try rw [hji4] at A2)
  have hji4w : (IntKind.i64.wrap (t442 + 1)) = ji4 := (i64_w _).trans hji4
  obtain ⟨-, c5b0, c5b1, H⟩ := gt H
  obtain ⟨-, c6b0, c6b1, H⟩ := gt H
  obtain rfl := Option.some.inj H
  go_enter Tryz.func73, Tryz.ntmps73
  go_wp2_with (first | ((with_reducible refine gc_ 113 rfl ?_); refine goD (some 5) Tryz.func113 #[.string a0] (rFslash.calls k a0 t442 _ A2.out) ?_; intro nd))
  go_ret
  exact ⟨by first | rfl | (simp; done) | (simp only [← hji4] <;> (first | rfl | simp)) | (simp [*]; done), by repeat (first | exact Drawn0.refl _ | apply Drawn0.step)⟩
 obtain rfl := Option.some.inj H
 go_enter Tryz.func73, Tryz.ntmps73
 go_wp2_with (first | ((with_reducible refine gc_ 113 rfl ?_); refine goD (some 5) Tryz.func113 #[.string a0] (rFslash.calls k a0 t442 _ A2.out) ?_; intro nd))
 go_ret
 exact finD
theorem rFTop.calls (k : Nat) (a0 : ByteArray) (r : ByteArray) (w : World) (h : rFTop.f k a0 = some r) :
  Calls Tryz.prog 72 #[.string a0] w fun e w' => e = .returned (.string r) ∧ Drawn0 w w' := by
 have H := h
 clear h
 unfold rFTop.f at H
 obtain ⟨t441, A2, H⟩ := bnd H
 rcases jh H with ⟨-, c3b0, H⟩ | ⟨-, c3b0, H⟩
 ·obtain ⟨-, c4b0, c4b1, H⟩ := gt H
  obtain ⟨-, c5b0, c5b1, H⟩ := gt H
  obtain rfl := Option.some.inj H
  go_enter Tryz.func72, Tryz.ntmps72
  go_wp2_with (first | ((with_reducible refine gc_ 113 rfl ?_); refine goD (some 5) Tryz.func113 #[.string a0] (rFslash.calls k a0 t441 _ A2.out) ?_; intro nd))
  go_ret
  exact finD
 obtain rfl := Option.some.inj H
 go_enter Tryz.func72, Tryz.ntmps72
 go_wp2_with (first | ((with_reducible refine gc_ 113 rfl ?_); refine goD (some 5) Tryz.func113 #[.string a0] (rFslash.calls k a0 t441 _ A2.out) ?_; intro nd))
 go_ret
 exact finD
theorem rFDigits.calls (k : Nat) (a0 : ByteArray) (r : Int) (w : World) (h : rFDigits.f k a0 = some r) :
  Calls Tryz.prog 82 #[.string a0] w fun e w' => e = .returned (.int .i64 r) ∧ Below w.heap.size w w' := by
 have HB := Z0.mk (Below.refl w.heap.size w)
 have H := h
 clear h
 unfold rFDigits.f at H
 obtain ⟨t649, A2, H⟩ := bnd H
 obtain ⟨t650, A3, H⟩ := bnd H
 obtain ⟨t651, A4, H⟩ := bnd H
 obtain ⟨t652, A5, H⟩ := bnd H
 obtain ⟨ji6, hji6⟩ : ∃ j_ : Int, (mx t650 t652) = j_ := ⟨_, rfl⟩
 replace H : (some ji6) = some r := by first | (rw [hji6] at H; exact H) | (simp only [hji6] at H ⊢; exact H)
 (try rw [hji6] at A2)
 (try rw [hji6] at A3)
 (try rw [hji6] at A4)
 (try rw [hji6] at A5)
 have hji6_ : (if t650 < t652 then t652 else t650) = ji6 := hji6
 obtain rfl := Option.some.inj H
 go_enter Tryz.func82, Tryz.ntmps82
 go_wp2_with (first | ((with_reducible refine gc_ 72 rfl ?_); refine goD (some 4) Tryz.func72 #[.string a0] (rFTop.calls k a0 t649 _ A2.out) ?_; intro nd) | ((with_reducible refine gc_ 93 rfl ?_); refine goD (some 5) Tryz.func93 #[.string t649] (rEDigits.calls t649 t650 _ A3.out) ?_; intro nd) | ((with_reducible refine gc_ 73 rfl ?_); refine goD (some 7) Tryz.func73 #[.string a0] (rFBottom.calls k a0 t651 _ A4.out) ?_; intro nd) | ((with_reducible refine gc_ 93 rfl ?_); refine goD (some 8) Tryz.func93 #[.string t651] (rEDigits.calls t651 t652 _ A5.out) ?_; intro nd))
 go_ret
 exact ⟨by first | rfl | (simp [errW_none, errW_some] <;> rfl) | (simp only [← hji6]; first | rfl | (simp [errW_none, errW_some] <;> rfl)) | (simp [*, errW_none, errW_some] <;> rfl), bqs⟩
theorem rEMagnitude.calls (a0 : ByteArray) (r : ByteArray) (w : World) (h : rEMagnitude.f a0 = some r) :
  Calls Tryz.prog 157 #[.string a0] w fun e w' => e = .returned (.string r) ∧ Drawn0 w w' := by
 have H := h
 clear h
 unfold rEMagnitude.f at H
 obtain ⟨t477, A2, H⟩ := bnd H
 by_cases c3 : t477 = true
 ·subst c3
  have H1 : (if 1 ≤ (a0.size : Int) then (some (a0.extract 1 a0.size)) else (none)) = some r := by rw [if_pos rfl] at H; exact H
  clear H
  have H := H1
  clear H1
  obtain ⟨-, c4b0, c4b1, H⟩ := gt H
  obtain rfl := Option.some.inj H
  go_enter Tryz.func157, Tryz.ntmps157
  go_wp2_with (first | ((with_reducible refine gc_ 126 rfl ?_); refine goD (some 4) Tryz.func126 #[.string a0] (rENegative.calls a0 true _ A2.out) ?_; intro nd))
  go_ret
  exact finD
 replace c3 := Bool.eq_false_iff.mpr c3
 subst c3
 have H1 : (some a0) = some r := by rw [if_neg (show ¬ (false = true) by decide)] at H; exact H
 clear H
 have H := H1
 clear H1
 obtain rfl := Option.some.inj H
 go_enter Tryz.func157, Tryz.ntmps157
 go_wp2_with (first | ((with_reducible refine gc_ 126 rfl ?_); refine goD (some 4) Tryz.func126 #[.string a0] (rENegative.calls a0 false _ A2.out) ?_; intro nd))
 go_ret
 exact finD
theorem rENegated.calls (a0 : ByteArray) (r : ByteArray) (w : World) (h : rENegated.f a0 = some r) :
  Calls Tryz.prog 114 #[.string a0] w fun e w' => e = .returned (.string r) ∧ Drawn0 w w' := by
 have H := h
 clear h
 unfold rENegated.f at H
 rcases je H with ⟨-, c2b0, c2b1, H⟩ | ⟨c2, c2b0, c2b1, H⟩
 ·obtain rfl := Option.some.inj H
  go_enter Tryz.func114, Tryz.ntmps114
  go_wp2
  go_ret
  exact finD
 obtain ⟨t517, A3, H⟩ := bnd H
 by_cases c4 : t517 = true
 ·subst c4
  have H1 : (if 1 ≤ (a0.size : Int) then (some (a0.extract 1 a0.size)) else (none)) = some r := by rw [if_pos rfl] at H; exact H
  clear H
  have H := H1
  clear H1
  obtain ⟨-, c5b0, c5b1, H⟩ := gt H
  obtain rfl := Option.some.inj H
  go_enter Tryz.func114, Tryz.ntmps114
  go_wp2_with (first | ((with_reducible refine gc_ 126 rfl ?_); refine goD (some 7) Tryz.func126 #[.string a0] (rENegative.calls a0 true _ A3.out) ?_; intro nd))
  go_ret
  exact finD
 replace c4 := Bool.eq_false_iff.mpr c4
 subst c4
 have H1 : (if 1 + a0.size ≤ 9223372036854775807 then (some ((⟨#[45]⟩ : ByteArray) ++ a0)) else (none)) = some r := by rw [if_neg (show ¬ (false = true) by decide)] at H; exact H
 clear H
 have H := H1
 clear H1
 obtain ⟨c6, c6b0, c6b1, H⟩ := gt H
 try have c6b2 : (9223372036854775807 < 1 + a0.size) = False := eq_false (Nat.not_lt.2 c6)
 obtain rfl := Option.some.inj H
 go_enter Tryz.func114, Tryz.ntmps114
 go_wp2_with (first | ((with_reducible refine gc_ 126 rfl ?_); refine goD (some 7) Tryz.func126 #[.string a0] (rENegative.calls a0 false _ A3.out) ?_; intro nd))
 go_ret
 exact finD
theorem rEWhole.calls (k : Nat) (a0 : Int) (r : ByteArray) (w : World) (h : rEWhole.f k a0 = some r) :
  Calls Tryz.prog 134 #[.int .i64 a0] w fun e w' => e = .returned (.string r) ∧ Below w.heap.size w w' := by
 have HB := Z0.mk (Below.refl w.heap.size w)
 have H := h
 clear h
 unfold rEWhole.f at H
 rcases je H with ⟨-, c2b0, c2b1, H⟩ | ⟨c2, c2b0, c2b1, H⟩
 ·obtain rfl := Option.some.inj H
  go_enter Tryz.func134, Tryz.ntmps134
  go_wp2
  go_ret
  exact finE
 have H' := Z0.mk H
 clear H
 go_enter Tryz.func134, Tryz.ntmps134
 go_wp2
 go_loopg [3, 4] k (fun kq v3 v4 w' => ∃ (x3_1 : ByteArray) (x4_1 : Int), v3 = .string x3_1 ∧ v4 = .int .i64 x4_1 ∧ Z0 (rEWhole.l0 kq a0 x3_1 x4_1 = some r) ∧ Z0 (kq ≤ k) ∧ Z0 (Below w.heap.size w w'))
 case atStart => exact ⟨((⟨#[]⟩ : ByteArray)), (a0), fs, fs, H', ⟨Nat.le_refl _⟩, ⟨bqs⟩⟩
 case round =>
  clear H'
  try clear c1
  try clear c2
  try clear c2b0
  try clear c2b1
  try clear p2
  obtain ⟨x3_1, x4_1, rfl, rfl, HA, HK1, HB⟩ := hrel
  cases gk with
  | zero => exact absurd HA.out (by simp [rEWhole.l0])
  | succ k1 =>
   have H := HA.out
   clear HA
   simp only [rEWhole.l0] at H
   rcases je H with ⟨-, c3b0, c3b1, H⟩ | ⟨c3, c3b0, c3b1, H⟩
   ·rcases jd H with ⟨-, c4b0, H⟩ | ⟨-, c4b0, H⟩
    ·obtain ⟨c5, c5b0, c5b1, H⟩ := gt H
     try have c5b2 : (9223372036854775807 < 1 + x3_1.size) = False := eq_false (Nat.not_lt.2 c5)
     obtain rfl := Option.some.inj H
     go_wp2
     go_ret
     exact finE
    obtain rfl := Option.some.inj H
    go_wp2
    go_ret
    exact finE
   obtain ⟨ji6, hji6⟩ : ∃ j_ : Int, (mx (Int.tmod x4_1 10) (wrap64 (-(Int.tmod x4_1 10)))) = j_ := ⟨_, rfl⟩
   replace H : (if 0 ≤ (ji6) then (if (ji6) ≤ (wrap64 ((ji6) + 1)) then (if (wrap64 ((ji6) + 1)) ≤ 10 then (if ((⟨#[48, 49, 50, 51, 52, 53, 54, 55, 56, 57]⟩ : ByteArray).extract ((ji6) : Int).toNat ((wrap64 ((ji6) + 1)) : Int).toNat).size + x3_1.size ≤ 9223372036854775807 then (rEWhole.l0 k1 a0 (((⟨#[48, 49, 50, 51, 52, 53, 54, 55, 56, 57]⟩ : ByteArray).extract ((ji6) : Int).toNat ((wrap64 ((ji6) + 1)) : Int).toNat) ++ x3_1) (wrap64 (Int.tdiv x4_1 10))) else (none)) else (none)) else (none)) else (none)) = some r := by first | (rw [hji6] at H; exact H) | (simp only [hji6] at H ⊢; exact H)
   have hji6_ : (if (Int.tmod x4_1 10) < (wrap64 (-(Int.tmod x4_1 10))) then (wrap64 (-(Int.tmod x4_1 10))) else (Int.tmod x4_1 10)) = ji6 := hji6
   obtain ⟨-, c7b0, c7b1, H⟩ := gt H
   obtain ⟨c8, c8b0, c8b1, H⟩ := gt H
   obtain ⟨c9, c9b0, c9b1, H⟩ := gt H
   obtain ⟨c10, c10b0, c10b1, H⟩ := gt H
   try have c10b2 : (9223372036854775807 < ((⟨#[48, 49, 50, 51, 52, 53, 54, 55, 56, 57]⟩ : ByteArray).extract ((ji6) : Int).toNat ((wrap64 ((ji6) + 1)) : Int).toNat).size + x3_1.size) = False := eq_false (Nat.not_lt.2 c10)
   have H' := Z0.mk H
   clear H
   go_wp2
   go_roundg k1
   case measure => have := HK1.out; omega
   case rel => exact ⟨(((⟨#[48, 49, 50, 51, 52, 53, 54, 55, 56, 57]⟩ : ByteArray).extract ((ji6) : Int).toNat ((wrap64 ((ji6) + 1)) : Int).toNat) ++ x3_1), (wrap64 (Int.tdiv x4_1 10)), (by first | rfl | (simp; done) | (simp only [← hji6] <;> (first | rfl | simp)) | (simp [*]; done)), fs, H', ⟨by have := HK1.out; omega⟩, ⟨bqs⟩⟩
theorem rEcut.calls (k : Nat) (P0_ : Nat → Prop) (A0 : Option Addr) (c0 : Nat) (l0 : List Int) (r : List Int) (w : World) (hs0 : Kd.V (Kd.int .i64) 3 w w.heap.size (fun k_ => P0_ k_) (.slice A0 l0.length c0) l0) (h : rEcut.f k l0 = some r) :
  Calls Tryz.prog 142 #[.slice A0 l0.length c0] w fun e w' => ∃ v0_ : Value, e = .returned (v0_) ∧ Kd.V (Kd.int .i64) 3 w' w.heap.size (fun k_ => (P0_ k_ ∨ w.heap.size ≤ k_)) v0_ r ∧ Below w.heap.size w w' := by
 have HO0 := Z0.mk (show Kd.V (Kd.int .i64) 3 w w.heap.size (fun k_ => (P0_ k_ ∨ w.heap.size ≤ k_)) (.slice A0 l0.length c0) l0 from Kd.V_mono hs0 (fun k_ hk => .inl hk))
 have HB := Z0.mk (Below.refl w.heap.size w)
 have H := h
 clear h
 unfold rEcut.f at H
 have H' := Z0.mk H
 clear H
 go_enter Tryz.func142, Tryz.ntmps142
 go_wp2
 go_loopg [3] k (fun kq v3 w' => ∃ (x3_1 : Int), v3 = .int .i64 x3_1 ∧ Z0 (rEcut.l0 kq l0 x3_1 = some r) ∧ Z0 (kq ≤ k) ∧ Z0 (Kd.V (Kd.int .i64) 3 w' w.heap.size (fun k_ => (P0_ k_ ∨ w.heap.size ≤ k_)) (.slice A0 l0.length c0) l0) ∧ Z0 (Below w.heap.size w w'))
 case atStart => exact ⟨((l0.length : Int)), fs, H', ⟨Nat.le_refl _⟩, ⟨vq HO0⟩, ⟨bqs⟩⟩
 case round =>
  clear H'
  try clear c1
  obtain ⟨x3_1, rfl, HA, HK1, HO_0, HB⟩ := hrel
  cases gk with
  | zero => exact absurd HA.out (by simp [rEcut.l0])
  | succ k1 =>
   have H := HA.out
   clear HA
   simp only [rEcut.l0] at H
   rcases jg H with ⟨-, c2b0, H⟩ | ⟨-, c2b0, H⟩
   ·obtain ⟨ji3, hji3⟩ : ∃ j_ : Int, (wrap64 (x3_1 - 1)) = j_ := ⟨_, rfl⟩
    replace H : (if 0 ≤ (ji3) then (if (ji3) < (l0.length : Int) then (if (rd l0 (ji3)) = 0 then (rEcut.l0 k1 l0 ji3) else (if 0 ≤ x3_1 then (if x3_1 ≤ (l0.length : Int) then (some (l0.take (x3_1 : Int).toNat)) else (none)) else (none))) else (none)) else (none)) = some r := by first | (rw [hji3] at H; exact H) | (simp only [hji3] at H ⊢; exact H)
    have hji3w : (IntKind.i64.wrap (x3_1 - 1)) = ji3 := (i64_w _).trans hji3
    obtain ⟨-, c4b0, H⟩ := gd H
    obtain ⟨-, c5b0, H⟩ := gd H
    rcases je H with ⟨-, c6b0, c6b1, H⟩ | ⟨c6, c6b0, c6b1, H⟩
    ·have H' := Z0.mk H
     clear H
     obtain ⟨ad451, e451, hx451_0, p451, q451⟩ := atI (Kd.V_reads' HO_0.out).2.2 (ji3)
     cases e451
     go_wp2
     go_roundg k1
     case measure => have := HK1.out; omega
     case rel => exact ⟨(ji3), (by first | rfl | (simp; done) | (simp only [← hji3] <;> (first | rfl | simp)) | (simp [*]; done)), H', ⟨by have := HK1.out; omega⟩, ⟨vq HO_0⟩, ⟨bqs⟩⟩
    obtain ⟨-, c7b0, c7b1, H⟩ := gt H
    obtain ⟨-, c8b0, c8b1, H⟩ := gt H
    generalize hy452 : (l0.take (x3_1 : Int).toNat : List Int) = y452 at H
    have Ny452 := Z0.mk hy452.symm
    clear hy452
    obtain rfl := Option.some.inj H
    obtain ⟨ad451, e451, hx451_0, p451, q451⟩ := atI (Kd.V_reads' HO_0.out).2.2 (ji3)
    cases e451
    have q9 : (x3_1 : Int) ≤ ((l0.length : Int) : Int) := od
    obtain ⟨i09, hi09, _, hsz9, _⟩ := info_parts info3
    have hroom9 : l0.length ≤ c0 := (Kd.V_reads' HO_0.out).2.1
    have hC9 : Kd.F (Kd.int .i64) _ _ (some ad451) l0.length l0 := (Kd.V_at (base := w.heap.size) HO_0.out).2.2
    have hcut9 := cut_to (P := Tryz.prog) 86 3 .i64 Tryz.underlying86 hi09 (some ad451) l0.length c0 x3_1 od q9 hroom9
    have hr9 := Kd.F_take (m := (x3_1 : Int).toNat) hC9 (by omega)
    have hy9 : y452.length = (x3_1 : Int).toNat := (by rw [Ny452.out, List.length_take]; omega)
    rw [← Ny452.out] at hr9
    rw [← hy9] at hcut9
    have HO456 := Z0.mk (show Kd.V (Kd.int .i64) 3 _ w.heap.size _ (.slice (some ad451) y452.length c0) y452 from Kd.V_mk (by omega) hr9)
    have HC456 := Z0.mk (show y452.length ≤ c0 from by omega)
    clear hr9 hC9 hroom9 hi09 hsz9
    have KY9 := Z0.mk hy9
    clear hy9
    replace q9 := eq_true q9
    go_wp2
    go_ret
    exact ⟨_, by first | rfl | (simp [errW_none, errW_some] <;> rfl) | (simp only [← hji3]; first | rfl | (simp [errW_none, errW_some] <;> rfl)) | (simp [*, errW_none, errW_some] <;> rfl), vq HO456, bqs⟩
   obtain ⟨-, c10b0, c10b1, H⟩ := gt H
   obtain ⟨-, c11b0, c11b1, H⟩ := gt H
   generalize hy457 : (l0.take (x3_1 : Int).toNat : List Int) = y457 at H
   have Ny457 := Z0.mk hy457.symm
   clear hy457
   obtain rfl := Option.some.inj H
   have q12 : (x3_1 : Int) ≤ ((l0.length : Int) : Int) := od
   obtain ⟨i012, hi012, _, hsz12, _⟩ := info_parts info3
   have hroom12 : l0.length ≤ c0 := (Kd.V_reads' HO_0.out).2.1
   have hC12 : Kd.F (Kd.int .i64) _ _ A0 l0.length l0 := (Kd.V_at (base := w.heap.size) HO_0.out).2.2
   have hcut12 := cut_to (P := Tryz.prog) 86 3 .i64 Tryz.underlying86 hi012 A0 l0.length c0 x3_1 od q12 hroom12
   have hr12 := Kd.F_take (m := (x3_1 : Int).toNat) hC12 (by omega)
   have hy12 : y457.length = (x3_1 : Int).toNat := (by rw [Ny457.out, List.length_take]; omega)
   rw [← Ny457.out] at hr12
   rw [← hy12] at hcut12
   have HO461 := Z0.mk (show Kd.V (Kd.int .i64) 3 _ w.heap.size _ (.slice A0 y457.length c0) y457 from Kd.V_mk (by omega) hr12)
   have HC461 := Z0.mk (show y457.length ≤ c0 from by omega)
   clear hr12 hC12 hroom12 hi012 hsz12
   have KY12 := Z0.mk hy12
   clear hy12
   replace q12 := eq_true q12
   go_wp2
   go_ret
   exact ⟨_, fe, vq HO461, bqs⟩
theorem rEdigits.calls (k : Nat) (a0 : ByteArray) (r : List Int) (w : World) (h : rEdigits.f k a0 = some r) :
  Calls Tryz.prog 138 #[.string a0] w fun e w' => ∃ v0_ : Value, e = .returned (v0_) ∧ Kd.R (Kd.int .i64) 3 w' w.heap.size (fun _ => True) v0_ r ∧ Below w.heap.size w w' := by
 have HB := Z0.mk (Below.refl w.heap.size w)
 have H := h
 clear h
 unfold rEdigits.f at H
 have H' := Z0.mk H
 clear H
 go_enter Tryz.func138, Tryz.ntmps138
 go_wp2
 go_loopg [3, 4] k (fun kq v3 v4 w' => ∃ (x3_1 : List Int) (x4_1 : Int), v4 = .int .i64 x4_1 ∧ Z0 (rEdigits.l0 kq a0 x3_1 x4_1 = some r) ∧ Z0 (kq ≤ k) ∧ Z0 (Kd.R (Kd.int .i64) 3 w' w.heap.size (fun _ => True) v3 x3_1) ∧ Z0 (Below w.heap.size w w'))
 case atStart => exact ⟨(([] : List Int)), (wrap64 ((a0.size : Int) - 1)), fs, H', ⟨Nat.le_refl _⟩, ⟨by first | exact Kd.R_nil _ _ _ _ _ | exact Kd.N_nil _ _ _ _ _ | exact Kd.V_nil _ _ _ _ _ | exact Kd.Q_nil _ _ _ _ _ | exact Kd.S_nil _ _ _ _ _⟩, ⟨bqs⟩⟩
 case round =>
  clear H'
  try clear c1
  obtain ⟨x3_1, x4_1, rfl, HA, HK1, HO_3, HB⟩ := hrel
  cases gk with
  | zero => exact absurd HA.out (by simp [rEdigits.l0])
  | succ k1 =>
   have H := HA.out
   clear HA
   simp only [rEdigits.l0] at H
   rcases jh H with ⟨-, c2b0, H⟩ | ⟨-, c2b0, H⟩
   ·obtain ⟨-, c3b0, H⟩ := gd H
    obtain ⟨-, c4b0, H⟩ := gd H
    rcases je H with ⟨-, c6b0, c6b1, H⟩ | ⟨c6, c6b0, c6b1, H⟩
    ·obtain rfl := Option.some.inj H
     obtain ⟨hx5, p5, q5⟩ := btA a0 x4_1
     go_wp2
     go_ret
     exact ⟨_, fe, rq HO_3, bqs⟩
    obtain ⟨c8, H⟩ := gn H
    have LMc8 := Z0.mk c8
    clear c8
    generalize hy444 : (x3_1 ++ [((bt a0 x4_1) - 48) % 256] : List Int) = y444 at H
    have Ny444 := Z0.mk hy444.symm
    clear hy444
    have H' := Z0.mk H
    clear H
    obtain ⟨hx5, p5, q5⟩ := btA a0 x4_1
    obtain ⟨hx7, p7, q7⟩ := btA a0 x4_1
    go_wp2_with (first | ((with_reducible refine gate_builtin (b := .append) (xs := #[.tmp 18, .tmp 24]) rfl ?_); at_builtin; refine Kd.R_append (Kd.int .i64) (w0 := w) w.heap.size rfl (.tmp 18) (.tmp 24) 86 3 (.int .i64 0) 8 rfl Tryz.underlying86 info3 rfl (by decide) (by omega) u3 x3_1 (((bt a0 x4_1) - 48) % 256) [.int .i64 (((bt a0 x4_1) - 48) % 256)] (fun _ => True) (fun _ => False) rfl rfl ?aP (fun _ hk => hk.elim) ?aF ?aO ?aB ?aS ?aL ?_; (case aP => exact rfl); (case aB => exact bqs); (case aF => exact (fun _ _ => trivial)); (case aO => exact (rq HO_3)); (case aS => exact (below_size bqs)); (case aL => have := LMc8.out; omega); intro v445 w9 ho hb hg hat; rw [← Ny444.out] at ho; have HO446 := Z0.mk (ho); replace HB := Z0.mk (hb); clear HO_3; clear ho hb hg hat))
    go_roundg k1
    case measure => have := HK1.out; omega
    case rel => exact ⟨(y444), (wrap64 (x4_1 - 1)), fs, H', ⟨by have := HK1.out; omega⟩, ⟨rq HO446⟩, ⟨bqs⟩⟩
   obtain rfl := Option.some.inj H
   go_wp2
   go_ret
   exact ⟨_, fe, rq HO_3, bqs⟩
end Go.Proofs.YthnfajboebaajaaGreatDoor.PA
