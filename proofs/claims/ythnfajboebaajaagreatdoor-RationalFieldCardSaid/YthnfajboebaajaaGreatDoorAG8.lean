import Derived.Test.YthnfajboebaajaaGreatDoorAG1
import Derived.Test.YthnfajboebaajaaGreatDoorAD
import Derived.Test.YthnfajboebaajaaGreatDoorAG7
import Derived.Test.YthnfajboebaajaaGreatDoorAG2
import Derived.Test.YthnfajboebaajaaGreatDoorAG3
import Derived.Test.YthnfajboebaajaaGreatDoorAG6
set_option maxHeartbeats 8000000
set_option maxRecDepth 100000
set_option linter.unusedVariables false
namespace Go.Proofs.YthnfajboebaajaaGreatDoor.PA
open Go.RowKit Go.Proofs.WWords Go.Proofs.WLast Go.Proofs.WMore
attribute [local go_sem] max2_int min2_int max_two min_two max_three min_three max_four min_four
set_option linter.unusedVariables false
set_option linter.unusedSimpArgs false
theorem bIdivided.calls (k : Nat) (a0 : ByteArray) (a1 : ByteArray) (r1 : ByteArray) (r2 : ByteArray) (r3 : Int) (w : World) (hL : LaidW w) (h : bIdivided.f k a0 a1 = some (r1, r2, r3)) :
  Calls Tryz.prog 111 #[.string a0, .string a1] w fun e w' => e = .returned (.tuple #[.string r1, .string r2, .int .i64 r3]) ∧ Below w.heap.size w w' := by
 have hu88 := Tryz.underlying88
 have HB := Z0.mk (Below.refl w.heap.size w)
 have H := h
 clear h
 unfold bIdivided.f at H
 obtain ⟨⟨t260, t261, t264, t265, t268⟩, A3, H⟩ := bnd H
 try dsimp only at H
 rcases je H with ⟨-, c4b0, c4b1, H⟩ | ⟨c4, c4b0, c4b1, H⟩
 ·rcases je H with ⟨-, c5b0, c5b1, H⟩ | ⟨c5, c5b0, c5b1, H⟩
  ·simp only [Option.some.injEq, Prod.mk.injEq] at H
   obtain ⟨rfl, rfl, rfl⟩ := H
   go_enter Tryz.func111, Tryz.ntmps111
   go_wp2_with (first | ((with_reducible refine gc_ 86 rfl ?_); refine gL 15 Tryz.func86 (bIpair.calls _ _ _ _ _ _ _ _ _ A3.out) ?_; rintro _ w6 ⟨v262, v266, rfl, ho0, ho1, hb⟩; refine ⟨_, rfl, ?_⟩; have HO263 := fN ho0; have HO267 := fN ho1; replace HB := fB HB hb; clear hb ho0 ho1) | ((with_reducible refine gd_ 7 rfl ?_); refine bxE 7 #[.bool false, .slice none 0 0] 88 ?_; intro gb269 hg w7 hbox hb; have BK269 := Z0.mk hbox; have GW269 := fE HB hg; have GE269 := fE HB hg; replace HO263 := fR HO263 hb; replace HO267 := fR HO267 hb; replace HB := fB HB hb; clear hb hbox hg) | ((with_reducible refine gd_ 8 rfl ?_); refine bxE 8 #[.bool false, .slice none 0 0] 88 ?_; intro gb270 hg w8 hbox hb; have BK270 := Z0.mk hbox; have GW270 := fE HB hg; have GE270 := fE HB hg; have NB269_270 := fl BK269 hg; have NB270_269 := fg BK269 hg; replace HO263 := fR HO263 hb; replace HO267 := fR HO267 hb; replace BK269 := fk BK269 hb; replace HB := fB HB hb; clear hb hbox hg; have hnb9 := NB269_270.out; have hnc9 := NB270_269.out; obtain ⟨hcz10_0, hcz10_1, hfz10_0, hfz10_1⟩ := b2 BK269; obtain ⟨Ao11, co11, eo11⟩ := Kd.R_slice HO263.out; subst eo11; obtain ⟨hcz12_0, hcz12_1, hfz12_0, hfz12_1⟩ := b2 BK270; obtain ⟨Ao13, co13, eo13⟩ := Kd.R_slice HO267.out; subst eo13))
   go_ret3
   exact finE
  have c5b2 : ¬ (t265 = []) := fun h_ => c5 (by rw [h_]; rfl)
  obtain ⟨⟨t271, t272, t275, t276⟩, A14, H⟩ := bnd H
  try dsimp only at H
  obtain ⟨t281, A15, H⟩ := bnd H
  obtain ⟨t282, A16, H⟩ := bnd H
  simp only [Option.some.injEq, Prod.mk.injEq] at H
  obtain ⟨rfl, rfl, rfl⟩ := H
  go_enter Tryz.func111, Tryz.ntmps111
  try go_wp2_with (first | ((with_reducible refine gc_ 86 rfl ?_); refine gL 15 Tryz.func86 (bIpair.calls _ _ _ _ _ _ _ _ _ A3.out) ?_; rintro _ w17 ⟨v262, v266, rfl, ho0, ho1, hb⟩; refine ⟨_, rfl, ?_⟩; have HO263 := fN ho0; have HO267 := fN ho1; replace HB := fB HB hb; clear hb ho0 ho1) | ((with_reducible refine gd_ 7 rfl ?_); refine bxE 7 #[.bool false, .slice none 0 0] 88 ?_; intro gb269 hg w18 hbox hb; have BK269 := Z0.mk hbox; have GW269 := fE HB hg; have GE269 := fE HB hg; replace HO263 := fR HO263 hb; replace HO267 := fR HO267 hb; replace HB := fB HB hb; clear hb hbox hg) | ((with_reducible refine gd_ 8 rfl ?_); refine bxE 8 #[.bool false, .slice none 0 0] 88 ?_; intro gb270 hg w19 hbox hb; have BK270 := Z0.mk hbox; have GW270 := fE HB hg; have GE270 := fE HB hg; have NB269_270 := fl BK269 hg; have NB270_269 := fg BK269 hg; replace HO263 := fR HO263 hb; replace HO267 := fR HO267 hb; replace BK269 := fk BK269 hb; replace HB := fB HB hb; clear hb hbox hg; have hnb20 := NB269_270.out; have hnc20 := NB270_269.out; obtain ⟨hcz21_0, hcz21_1, hfz21_0, hfz21_1⟩ := b2 BK269; obtain ⟨Ao22, co22, eo22⟩ := Kd.R_slice HO263.out; subst eo22) | ((with_reducible refine gate_store (t := 88) (p := 7) rfl ?_); refine store_event (t := 88) (p := 7) (v := ?vo_w23) (w1 := ((w19.setCell ⟨gb269, 0, none⟩ (.bool t260)).setCell ⟨gb269, 1, none⟩ (.slice Ao22 t261.length co22))) ?hg ?ho ?hn ?hr ?_; (case ho => rfl); (case hg => rfl); (case hn => rfl); (case hr => first | (go_simp; done) | (go_simp; rfl)); intro w23 hw; have n0_ : Z0 (Kd.R (Kd.int .i64) 3 w23 w.heap.size (fun k_ => some k_ ≠ (v266 : Value).ownBlock) (.slice Ao22 t261.length co22) t261) := ⟨(by rw [hw]; exact (by (with_reducible repeat (first | apply Kd.R_alloc | apply Kd.R_drewN | apply Kd.R_drew)); exact Kd.R_mono (Kd.R_far (p := ⟨gb269, 1, none⟩) (Kd.R_far (p := ⟨gb269, 0, none⟩) (Kd.R_types HO263.out BK269.out (by decide)) (fun _ hk => hk.2) (.bool t260)) (fun _ hk => hk.2) (.slice Ao22 t261.length co22)) (fun _ hk => hk.1)))⟩; have n1_ : Z0 (Kd.R (Kd.int .i64) 3 w23 w.heap.size (fun k_ => some k_ ≠ (.slice Ao22 t261.length co22 : Value).ownBlock) v266 t265) := ⟨(by rw [hw]; exact (by (with_reducible repeat (first | apply Kd.R_alloc | apply Kd.R_drewN | apply Kd.R_drew)); exact Kd.R_mono (Kd.R_far (p := ⟨gb269, 1, none⟩) (Kd.R_far (p := ⟨gb269, 0, none⟩) (Kd.R_types HO267.out BK269.out (by decide)) (fun _ hk => hk.2) (.bool t260)) (fun _ hk => hk.2) (.slice Ao22 t261.length co22)) (fun _ hk => hk.1)))⟩; have n2_ : Z0 (w23.heap[gb269]? = some (.cells #[.bool t260, .slice Ao22 t261.length co22] 88 (0, 0))) := ⟨(by rw [hw]; exact (by (with_reducible repeat (first | refine blk_drewN ?_ _ | refine blk_drew ?_ | refine blk_alloc ?_ _)); refine blk_put (cs := #[.bool t260, .slice none 0 0]) ?_ 1 _ rfl; (with_reducible repeat (first | refine blk_drewN ?_ _ | refine blk_drew ?_ | refine blk_alloc ?_ _)); refine blk_put (cs := #[.bool false, .slice none 0 0]) ?_ 0 _ rfl; (with_reducible repeat (first | refine blk_drewN ?_ _ | refine blk_drew ?_ | refine blk_alloc ?_ _)); exact BK269.out))⟩; have n3_ : Z0 (w23.heap[gb270]? = some (.cells #[.bool false, .slice none 0 0] 88 (0, 0))) := ⟨(by rw [hw]; exact (by (with_reducible repeat (first | refine blk_drewN ?_ _ | refine blk_drew ?_ | refine blk_alloc ?_ _)); refine blk_far ?_ NB270_269.out _; (with_reducible repeat (first | refine blk_drewN ?_ _ | refine blk_drew ?_ | refine blk_alloc ?_ _)); refine blk_far ?_ NB270_269.out _; (with_reducible repeat (first | refine blk_drewN ?_ _ | refine blk_drew ?_ | refine blk_alloc ?_ _)); exact BK270.out))⟩; have n4_ : Z0 (Below w.heap.size w w23) := ⟨(by rw [hw]; exact bqs)⟩; clear hw; clear HO263; clear HO267; clear BK269; clear BK270; clear HB; have HO263 := n0_; have HO267 := n1_; have BK269 := n2_; have BK270 := n3_; have HB := n4_; clear n0_ n1_ n2_ n3_ n4_; obtain ⟨hcz24_0, hcz24_1, hfz24_0, hfz24_1⟩ := b2 BK270; obtain ⟨Ao25, co25, eo25⟩ := Kd.R_slice HO267.out; subst eo25) | ((with_reducible refine gate_store (t := 88) (p := 8) rfl ?_); refine store_event (t := 88) (p := 8) (v := ?vo_w26) (w1 := ((w23.setCell ⟨gb270, 0, none⟩ (.bool t264)).setCell ⟨gb270, 1, none⟩ (.slice Ao25 t265.length co25))) ?hg ?ho ?hn ?hr ?_; (case ho => rfl); (case hg => rfl); (case hn => rfl); (case hr => first | (go_simp; done) | (go_simp; rfl)); intro w26 hw; have n0_ : Z0 (Kd.R (Kd.int .i64) 3 w26 w.heap.size (fun k_ => some k_ ≠ (.slice Ao25 t265.length co25 : Value).ownBlock) (.slice Ao22 t261.length co22) t261) := ⟨(by rw [hw]; exact (by (with_reducible repeat (first | apply Kd.R_alloc | apply Kd.R_drewN | apply Kd.R_drew)); exact Kd.R_mono (Kd.R_far (p := ⟨gb270, 1, none⟩) (Kd.R_far (p := ⟨gb270, 0, none⟩) (Kd.R_types HO263.out BK270.out (by decide)) (fun _ hk => hk.2) (.bool t264)) (fun _ hk => hk.2) (.slice Ao25 t265.length co25)) (fun _ hk => hk.1)))⟩; have n1_ : Z0 (Kd.R (Kd.int .i64) 3 w26 w.heap.size (fun k_ => some k_ ≠ (.slice Ao22 t261.length co22 : Value).ownBlock) (.slice Ao25 t265.length co25) t265) := ⟨(by rw [hw]; exact (by (with_reducible repeat (first | apply Kd.R_alloc | apply Kd.R_drewN | apply Kd.R_drew)); exact Kd.R_mono (Kd.R_far (p := ⟨gb270, 1, none⟩) (Kd.R_far (p := ⟨gb270, 0, none⟩) (Kd.R_types HO267.out BK270.out (by decide)) (fun _ hk => hk.2) (.bool t264)) (fun _ hk => hk.2) (.slice Ao25 t265.length co25)) (fun _ hk => hk.1)))⟩; have n2_ : Z0 (w26.heap[gb269]? = some (.cells #[.bool t260, .slice Ao22 t261.length co22] 88 (0, 0))) := ⟨(by rw [hw]; exact (by (with_reducible repeat (first | refine blk_drewN ?_ _ | refine blk_drew ?_ | refine blk_alloc ?_ _)); refine blk_far ?_ NB269_270.out _; (with_reducible repeat (first | refine blk_drewN ?_ _ | refine blk_drew ?_ | refine blk_alloc ?_ _)); refine blk_far ?_ NB269_270.out _; (with_reducible repeat (first | refine blk_drewN ?_ _ | refine blk_drew ?_ | refine blk_alloc ?_ _)); exact BK269.out))⟩; have n3_ : Z0 (w26.heap[gb270]? = some (.cells #[.bool t264, .slice Ao25 t265.length co25] 88 (0, 0))) := ⟨(by rw [hw]; exact (by (with_reducible repeat (first | refine blk_drewN ?_ _ | refine blk_drew ?_ | refine blk_alloc ?_ _)); refine blk_put (cs := #[.bool t264, .slice none 0 0]) ?_ 1 _ rfl; (with_reducible repeat (first | refine blk_drewN ?_ _ | refine blk_drew ?_ | refine blk_alloc ?_ _)); refine blk_put (cs := #[.bool false, .slice none 0 0]) ?_ 0 _ rfl; (with_reducible repeat (first | refine blk_drewN ?_ _ | refine blk_drew ?_ | refine blk_alloc ?_ _)); exact BK270.out))⟩; have n4_ : Z0 (Below w.heap.size w w26) := ⟨(by rw [hw]; exact bqs)⟩; clear hw; clear HO263; clear HO267; clear BK269; clear BK270; clear HB; have HO263 := n0_; have HO267 := n1_; have BK269 := n2_; have BK270 := n3_; have HB := n4_; clear n0_ n1_ n2_ n3_ n4_; obtain ⟨hcz27_0, hcz27_1, hfz27_0, hfz27_1⟩ := b2 BK270; obtain ⟨hcz28_0, hcz28_1, hfz28_0, hfz28_1⟩ := b2 BK269) | ((with_reducible refine gc_ 107 rfl ?_); refine gL 29 Tryz.func107 (bIquotient.calls k t260 (fun k_ => some k_ = (.slice Ao22 t261.length co22 : Value).ownBlock) (.slice Ao22 t261.length co22) t261 t264 _ _ t265 t271 t272 t275 t276 w _ ?side1 ?side2 ?side3 ?side4 A14.out) ?_; (case side1 => repeat (first | (with_reducible first | exact HB.out | apply below_alloc | apply pw_below_drewN | apply below_drew1 | refine below_set ?_ GE269.out | refine below_set ?_ GE270.out) | exact HB.out)); (case side2 => exact Kd.R_tight rfl HO263.out); (case side3 => exact Kd.C_kept_own (HO267.out) (fun k_ hk_ hs_ => (hk_) hs_)); (case side4 => exact (Kd.R_reads' HO267.out).2.1); rintro _ w29 ⟨v273, v277, rfl, ho0, ho1, hb, hkp⟩; refine ⟨_, rfl, ?_⟩; have HO274 := Z0.mk (Kd.R_mono (ok' := fun k_ => some k_ ≠ (v277 : Value).ownBlock ∧ some k_ ≠ (.slice Ao25 t265.length co25 : Value).ownBlock) ho0 (fun k_ hk_ => ⟨hk_.2, Or.elim hk_.1 (fun hs_ => fun e_ => (((HO267.out).1 k_ e_.symm)) hs_) (fun hn_ => (Kd.fresh' (Kd.R_lt (rq HO267)) k_ hn_))⟩)); have HO278 := Z0.mk (Kd.R_mono (ok' := fun k_ => some k_ ≠ (v273 : Value).ownBlock ∧ some k_ ≠ (.slice Ao25 t265.length co25 : Value).ownBlock) ho1 (fun k_ hk_ => ⟨hk_.2, Or.elim hk_.1 (fun hs_ => fun e_ => (((HO267.out).1 k_ e_.symm)) hs_) (fun hn_ => (Kd.fresh' (Kd.R_lt (rq HO267)) k_ hn_))⟩)); replace HO267 := Z0.mk (Kd.R_mono (ok' := fun k_ => some k_ ≠ (v273 : Value).ownBlock ∧ some k_ ≠ (v277 : Value).ownBlock) (Kd.R_keptB (HO267.out) hkp (fun k_ hk_ hs_ => (hk_) hs_)) (fun k_ hk_ => ⟨fun e_ => Or.elim (ho0.1 k_ e_.symm).1 (fun hs_ => hk_.2.1 hs_) (fun hn_ => Nat.not_le.2 hk_.2.2 hn_), fun e_ => Or.elim (ho1.1 k_ e_.symm).1 (fun hs_ => hk_.2.1 hs_) (fun hn_ => Nat.not_le.2 hk_.2.2 hn_)⟩)); replace BK269 := Z0.mk (blk_kept (hq BK269) hkp (fun hs_ => (fun e_ => (Kd.R_ne HO263.out BK269.out (by decide)) e_) hs_)); replace BK270 := Z0.mk (blk_kept (hq BK270) hkp (fun hs_ => (fun e_ => (Kd.R_ne HO263.out BK270.out (by decide)) e_) hs_)); replace HB := Z0.mk (hb); clear HO263; clear hb hkp ho0 ho1) | ((with_reducible refine gd_ 10 rfl ?_); refine bxE 10 #[.bool false, .slice none 0 0] 88 ?_; intro gb279 hg w30 hbox hb; have BK279 := Z0.mk hbox; have GW279 := fE HB hg; have GE279 := fE HB hg; have NB269_279 := fl BK269 hg; have NB279_269 := fg BK269 hg; have NB270_279 := fl BK270 hg; have NB279_270 := fg BK270 hg; replace HO267 := fR HO267 hb; replace HO274 := fR HO274 hb; replace HO278 := fR HO278 hb; replace BK269 := fk BK269 hb; replace BK270 := fk BK270 hb; replace HB := fB HB hb; clear hb hbox hg) | ((with_reducible refine gd_ 11 rfl ?_); refine bxE 11 #[.bool false, .slice none 0 0] 88 ?_; intro gb280 hg w31 hbox hb; have BK280 := Z0.mk hbox; have GW280 := fE HB hg; have GE280 := fE HB hg; have NB269_280 := fl BK269 hg; have NB280_269 := fg BK269 hg; have NB270_280 := fl BK270 hg; have NB280_270 := fg BK270 hg; have NB279_280 := fl BK279 hg; have NB280_279 := fg BK279 hg; replace HO267 := fR HO267 hb; replace HO274 := fR HO274 hb; replace HO278 := fR HO278 hb; replace BK269 := fk BK269 hb; replace BK270 := fk BK270 hb; replace BK279 := fk BK279 hb; replace HB := fB HB hb; clear hb hbox hg; have hnb32 := NB279_269.out; have hnc32 := NB269_279.out; have hnb33 := NB279_270.out; have hnc33 := NB270_279.out; have hnb34 := NB279_280.out; have hnc34 := NB280_279.out; obtain ⟨hcz35_0, hcz35_1, hfz35_0, hfz35_1⟩ := b2 BK279; obtain ⟨Ao36, co36, eo36⟩ := Kd.R_slice HO274.out; subst eo36; have hnb37 := NB280_269.out; have hnc37 := NB269_280.out; have hnb38 := NB280_270.out; have hnc38 := NB270_280.out; obtain ⟨hcz39_0, hcz39_1, hfz39_0, hfz39_1⟩ := b2 BK280; obtain ⟨Ao40, co40, eo40⟩ := Kd.R_slice HO278.out; subst eo40))
  have n0_ : Z0 (Kd.R (Kd.int .i64) 3 ((((w31.setCell ⟨gb279, 0, none⟩ (.bool t271)).setCell ⟨gb279, 1, none⟩ (.slice Ao36 t272.length co36)).setCell ⟨gb280, 0, none⟩ (.bool t275)).setCell ⟨gb280, 1, none⟩ (.slice Ao40 t276.length co40)) w.heap.size (fun k_ => some k_ ≠ (.slice Ao36 t272.length co36 : Value).ownBlock ∧ some k_ ≠ (.slice Ao40 t276.length co40 : Value).ownBlock) (.slice Ao25 t265.length co25) t265) := ⟨by (with_reducible repeat (first | apply Kd.R_alloc | apply Kd.R_drewN | apply Kd.R_drew)); exact Kd.R_mono (Kd.R_far (p := ⟨gb280, 1, none⟩) (Kd.R_far (p := ⟨gb280, 0, none⟩) (Kd.R_far (p := ⟨gb279, 1, none⟩) (Kd.R_far (p := ⟨gb279, 0, none⟩) (Kd.R_types (Kd.R_types HO267.out BK279.out (by decide)) BK280.out (by decide)) (fun _ hk => hk.1.2) (.bool t271)) (fun _ hk => hk.1.2) (.slice Ao36 t272.length co36)) (fun _ hk => hk.2) (.bool t275)) (fun _ hk => hk.2) (.slice Ao40 t276.length co40)) (fun _ hk => ⟨hk.1.1.1, hk.1.1.2⟩)⟩
  have n1_ : Z0 (Kd.R (Kd.int .i64) 3 ((((w31.setCell ⟨gb279, 0, none⟩ (.bool t271)).setCell ⟨gb279, 1, none⟩ (.slice Ao36 t272.length co36)).setCell ⟨gb280, 0, none⟩ (.bool t275)).setCell ⟨gb280, 1, none⟩ (.slice Ao40 t276.length co40)) w.heap.size (fun k_ => some k_ ≠ (.slice Ao25 t265.length co25 : Value).ownBlock ∧ some k_ ≠ (.slice Ao40 t276.length co40 : Value).ownBlock) (.slice Ao36 t272.length co36) t272) := ⟨by (with_reducible repeat (first | apply Kd.R_alloc | apply Kd.R_drewN | apply Kd.R_drew)); exact Kd.R_mono (Kd.R_far (p := ⟨gb280, 1, none⟩) (Kd.R_far (p := ⟨gb280, 0, none⟩) (Kd.R_far (p := ⟨gb279, 1, none⟩) (Kd.R_far (p := ⟨gb279, 0, none⟩) (Kd.R_types (Kd.R_types HO274.out BK279.out (by decide)) BK280.out (by decide)) (fun _ hk => hk.1.2) (.bool t271)) (fun _ hk => hk.1.2) (.slice Ao36 t272.length co36)) (fun _ hk => hk.2) (.bool t275)) (fun _ hk => hk.2) (.slice Ao40 t276.length co40)) (fun _ hk => ⟨hk.1.1.2, hk.1.1.1⟩)⟩
  have n2_ : Z0 (Kd.R (Kd.int .i64) 3 ((((w31.setCell ⟨gb279, 0, none⟩ (.bool t271)).setCell ⟨gb279, 1, none⟩ (.slice Ao36 t272.length co36)).setCell ⟨gb280, 0, none⟩ (.bool t275)).setCell ⟨gb280, 1, none⟩ (.slice Ao40 t276.length co40)) w.heap.size (fun k_ => some k_ ≠ (.slice Ao25 t265.length co25 : Value).ownBlock ∧ some k_ ≠ (.slice Ao36 t272.length co36 : Value).ownBlock) (.slice Ao40 t276.length co40) t276) := ⟨by (with_reducible repeat (first | apply Kd.R_alloc | apply Kd.R_drewN | apply Kd.R_drew)); exact Kd.R_mono (Kd.R_far (p := ⟨gb280, 1, none⟩) (Kd.R_far (p := ⟨gb280, 0, none⟩) (Kd.R_far (p := ⟨gb279, 1, none⟩) (Kd.R_far (p := ⟨gb279, 0, none⟩) (Kd.R_types (Kd.R_types HO278.out BK279.out (by decide)) BK280.out (by decide)) (fun _ hk => hk.1.2) (.bool t271)) (fun _ hk => hk.1.2) (.slice Ao36 t272.length co36)) (fun _ hk => hk.2) (.bool t275)) (fun _ hk => hk.2) (.slice Ao40 t276.length co40)) (fun _ hk => ⟨hk.1.1.2, hk.1.1.1⟩)⟩
  have n3_ : Z0 (((((w31.setCell ⟨gb279, 0, none⟩ (.bool t271)).setCell ⟨gb279, 1, none⟩ (.slice Ao36 t272.length co36)).setCell ⟨gb280, 0, none⟩ (.bool t275)).setCell ⟨gb280, 1, none⟩ (.slice Ao40 t276.length co40)).heap[gb269]? = some (.cells #[.bool t260, .slice Ao22 t261.length co22] 88 (0, 0))) := ⟨by (with_reducible repeat (first | refine blk_drewN ?_ _ | refine blk_drew ?_ | refine blk_alloc ?_ _)); refine blk_far ?_ NB269_280.out _; (with_reducible repeat (first | refine blk_drewN ?_ _ | refine blk_drew ?_ | refine blk_alloc ?_ _)); refine blk_far ?_ NB269_280.out _; (with_reducible repeat (first | refine blk_drewN ?_ _ | refine blk_drew ?_ | refine blk_alloc ?_ _)); refine blk_far ?_ NB269_279.out _; (with_reducible repeat (first | refine blk_drewN ?_ _ | refine blk_drew ?_ | refine blk_alloc ?_ _)); refine blk_far ?_ NB269_279.out _; (with_reducible repeat (first | refine blk_drewN ?_ _ | refine blk_drew ?_ | refine blk_alloc ?_ _)); exact BK269.out⟩
  have n4_ : Z0 (((((w31.setCell ⟨gb279, 0, none⟩ (.bool t271)).setCell ⟨gb279, 1, none⟩ (.slice Ao36 t272.length co36)).setCell ⟨gb280, 0, none⟩ (.bool t275)).setCell ⟨gb280, 1, none⟩ (.slice Ao40 t276.length co40)).heap[gb270]? = some (.cells #[.bool t264, .slice Ao25 t265.length co25] 88 (0, 0))) := ⟨by (with_reducible repeat (first | refine blk_drewN ?_ _ | refine blk_drew ?_ | refine blk_alloc ?_ _)); refine blk_far ?_ NB270_280.out _; (with_reducible repeat (first | refine blk_drewN ?_ _ | refine blk_drew ?_ | refine blk_alloc ?_ _)); refine blk_far ?_ NB270_280.out _; (with_reducible repeat (first | refine blk_drewN ?_ _ | refine blk_drew ?_ | refine blk_alloc ?_ _)); refine blk_far ?_ NB270_279.out _; (with_reducible repeat (first | refine blk_drewN ?_ _ | refine blk_drew ?_ | refine blk_alloc ?_ _)); refine blk_far ?_ NB270_279.out _; (with_reducible repeat (first | refine blk_drewN ?_ _ | refine blk_drew ?_ | refine blk_alloc ?_ _)); exact BK270.out⟩
  have n5_ : Z0 (((((w31.setCell ⟨gb279, 0, none⟩ (.bool t271)).setCell ⟨gb279, 1, none⟩ (.slice Ao36 t272.length co36)).setCell ⟨gb280, 0, none⟩ (.bool t275)).setCell ⟨gb280, 1, none⟩ (.slice Ao40 t276.length co40)).heap[gb279]? = some (.cells #[.bool t271, .slice Ao36 t272.length co36] 88 (0, 0))) := ⟨by (with_reducible repeat (first | refine blk_drewN ?_ _ | refine blk_drew ?_ | refine blk_alloc ?_ _)); refine blk_far ?_ NB279_280.out _; (with_reducible repeat (first | refine blk_drewN ?_ _ | refine blk_drew ?_ | refine blk_alloc ?_ _)); refine blk_far ?_ NB279_280.out _; (with_reducible repeat (first | refine blk_drewN ?_ _ | refine blk_drew ?_ | refine blk_alloc ?_ _)); refine blk_put (cs := #[.bool t271, .slice none 0 0]) ?_ 1 _ rfl; (with_reducible repeat (first | refine blk_drewN ?_ _ | refine blk_drew ?_ | refine blk_alloc ?_ _)); refine blk_put (cs := #[.bool false, .slice none 0 0]) ?_ 0 _ rfl; (with_reducible repeat (first | refine blk_drewN ?_ _ | refine blk_drew ?_ | refine blk_alloc ?_ _)); exact BK279.out⟩
  have n6_ : Z0 (((((w31.setCell ⟨gb279, 0, none⟩ (.bool t271)).setCell ⟨gb279, 1, none⟩ (.slice Ao36 t272.length co36)).setCell ⟨gb280, 0, none⟩ (.bool t275)).setCell ⟨gb280, 1, none⟩ (.slice Ao40 t276.length co40)).heap[gb280]? = some (.cells #[.bool t275, .slice Ao40 t276.length co40] 88 (0, 0))) := ⟨by (with_reducible repeat (first | refine blk_drewN ?_ _ | refine blk_drew ?_ | refine blk_alloc ?_ _)); refine blk_put (cs := #[.bool t275, .slice none 0 0]) ?_ 1 _ rfl; (with_reducible repeat (first | refine blk_drewN ?_ _ | refine blk_drew ?_ | refine blk_alloc ?_ _)); refine blk_put (cs := #[.bool false, .slice none 0 0]) ?_ 0 _ rfl; (with_reducible repeat (first | refine blk_drewN ?_ _ | refine blk_drew ?_ | refine blk_alloc ?_ _)); refine blk_far ?_ NB280_279.out _; (with_reducible repeat (first | refine blk_drewN ?_ _ | refine blk_drew ?_ | refine blk_alloc ?_ _)); refine blk_far ?_ NB280_279.out _; (with_reducible repeat (first | refine blk_drewN ?_ _ | refine blk_drew ?_ | refine blk_alloc ?_ _)); exact BK280.out⟩
  have n7_ : Z0 (Below w.heap.size w ((((w31.setCell ⟨gb279, 0, none⟩ (.bool t271)).setCell ⟨gb279, 1, none⟩ (.slice Ao36 t272.length co36)).setCell ⟨gb280, 0, none⟩ (.bool t275)).setCell ⟨gb280, 1, none⟩ (.slice Ao40 t276.length co40))) := ⟨bqs⟩
  (try clear HO267)
  (try clear HO274)
  (try clear HO278)
  (try clear BK269)
  (try clear BK270)
  (try clear BK279)
  (try clear BK280)
  (try clear HB)
  generalize ((((w31.setCell ⟨gb279, 0, none⟩ (.bool t271)).setCell ⟨gb279, 1, none⟩ (.slice Ao36 t272.length co36)).setCell ⟨gb280, 0, none⟩ (.bool t275)).setCell ⟨gb280, 1, none⟩ (.slice Ao40 t276.length co40)) = w41 at n0_ n1_ n2_ n3_ n4_ n5_ n6_ n7_ ⊢
  have HO267 := n0_
  have HO274 := n1_
  have HO278 := n2_
  have BK269 := n3_
  have BK270 := n4_
  have BK279 := n5_
  have BK280 := n6_
  have HB := n7_
  clear n0_ n1_ n2_ n3_ n4_ n5_ n6_ n7_
  replace HO267 := Z0.mk (Kd.R_drew HO267.out)
  replace HO274 := Z0.mk (Kd.R_drew HO274.out)
  replace HO278 := Z0.mk (Kd.R_drew HO278.out)
  replace BK269 := Z0.mk (blk_drew BK269.out)
  replace BK270 := Z0.mk (blk_drew BK270.out)
  replace BK279 := Z0.mk (blk_drew BK279.out)
  replace BK280 := Z0.mk (blk_drew BK280.out)
  replace HB := Z0.mk (below_drew1 HB.out)
  refine start_ (n := 7) (S := fun w' => w'.cell? ⟨gb279, 0, none⟩ = some (.bool t271) ∧ w'.cell? ⟨gb279, 1, none⟩ = some (.slice Ao36 t272.length co36) ∧ w'.cell? ⟨gb280, 0, none⟩ = some (.bool t275) ∧ w'.cell? ⟨gb280, 1, none⟩ = some (.slice Ao40 t276.length co40)) (ds := []) #[false, false, false, false, false, false, false] (by kernel_rfl) rfl rfl ⟨(blk_cell BK279.out 0).trans rfl, (blk_cell BK279.out 1).trans rfl, (blk_cell BK280.out 0).trans rfl, (blk_cell BK280.out 1).trans rfl⟩ (fun hHeld => ?_)
  generalize w41.drew = w42 at HO267 HO274 HO278 BK269 BK270 BK279 BK280 HB hHeld ⊢
  refine take_ (i := 0) (N := some 32) (v := ?_) (a' := ?_) #[true, false, false, false, false, false, false] rfl rfl (by kernel_rfl) (fun _ _ _ h => h) (Or.inl ⟨by rfl, ?_⟩) hHeld ?_ ?_
  rotate_left
  ·rintro w' ⟨s0, s1, s2, s3⟩
   go_simp
   with_reducible rfl
  rotate_left
  ·simp only [Act.put, List.setIfInBounds_toArray, List.set_cons_zero, List.set_cons_succ, i64_w, i32_w]
   rfl
  refine take_ (i := 2) (N := some 34) (v := ?_) (a' := ?_) #[true, false, true, false, false, false, false] rfl rfl (by kernel_rfl) (fun _ _ _ h => h) (Or.inl ⟨by rfl, ?_⟩) hHeld ?_ ?_
  rotate_left
  ·rintro w' ⟨s0, s1, s2, s3⟩
   go_simp
   with_reducible rfl
  rotate_left
  ·simp only [Act.put, List.setIfInBounds_toArray, List.set_cons_zero, List.set_cons_succ, i64_w, i32_w]
   rfl
  refine one_ (i := 1) (N := some 33) #[true, true, true, false, false, false, false] rfl rfl (by kernel_rfl) (by decide) (fun K hK => ?_)
  refine goes_ Tryz.func95 (by kernel_rfl) rfl #[.agg #[.bool t271, .slice Ao36 t272.length co36]] (by rfl) rfl rfl (by (try simp only [List.map_toArray, List.map_cons, List.map_nil]); first | done | rfl | (simp only [List.length_drop, List.length_take]; rfl)) ?_
  with_reducible refine (bInumber_text.calls t271 _ _ t272 t281 _ ?side3 ?side1 ?side2 A15.out).mono ?_
  (case side1 => exact cq (Kd.R_reads' HO274.out).2.2)
  (case side2 => exact (Kd.R_reads' HO274.out).2.1)
  (case side3 => exact LaidW.below hL bqs)
  rintro e w43 ⟨rfl, hb⟩
  refine ⟨_, rfl, ?_⟩
  replace HO267 := fR HO267 hb
  replace HO274 := fR HO274 hb
  replace HO278 := fR HO278 hb
  replace BK269 := fk BK269 hb
  replace BK270 := fk BK270 hb
  replace BK279 := fk BK279 hb
  replace BK280 := fk BK280 hb
  replace HB := fB HB hb
  (try clear hb)
  (try clear hb2)
  (try clear hk)
  (try clear hi)
  refine hK.out _ _ ⟨(blk_cell BK279.out 0).trans rfl, (blk_cell BK279.out 1).trans rfl, (blk_cell BK280.out 0).trans rfl, (blk_cell BK280.out 1).trans rfl⟩ (fun hHeld => ?_)
  clear hK K
  refine norm_ (a' := ?_) ?_ ?_
  rotate_left
  ·show Act.put _ (some 33) _ = _
   simp only [Act.put, List.setIfInBounds_toArray, List.set_cons_zero, List.set_cons_succ, i64_w, i32_w]
   rfl
  refine one_ (i := 3) (N := some 35) #[true, true, true, true, false, false, false] rfl rfl (by kernel_rfl) (by decide) (fun K hK => ?_)
  refine goes_ Tryz.func95 (by kernel_rfl) rfl #[.agg #[.bool t275, .slice Ao40 t276.length co40]] (by rfl) rfl rfl (by (try simp only [List.map_toArray, List.map_cons, List.map_nil]); first | done | rfl | (simp only [List.length_drop, List.length_take]; rfl)) ?_
  with_reducible refine (bInumber_text.calls t275 _ _ t276 t282 _ ?side3 ?side1 ?side2 A16.out).mono ?_
  (case side1 => exact cq (Kd.R_reads' HO278.out).2.2)
  (case side2 => exact (Kd.R_reads' HO278.out).2.1)
  (case side3 => exact LaidW.below hL bqs)
  rintro e w44 ⟨rfl, hb⟩
  refine ⟨_, rfl, ?_⟩
  replace HO267 := fR HO267 hb
  replace HO274 := fR HO274 hb
  replace HO278 := fR HO278 hb
  replace BK269 := fk BK269 hb
  replace BK270 := fk BK270 hb
  replace BK279 := fk BK279 hb
  replace BK280 := fk BK280 hb
  replace HB := fB HB hb
  (try clear hb)
  (try clear hb2)
  (try clear hk)
  (try clear hi)
  refine hK.out _ _ ⟨(blk_cell BK279.out 0).trans rfl, (blk_cell BK279.out 1).trans rfl, (blk_cell BK280.out 0).trans rfl, (blk_cell BK280.out 1).trans rfl⟩ (fun hHeld => ?_)
  clear hK K
  refine norm_ (a' := ?_) ?_ ?_
  rotate_left
  ·show Act.put _ (some 35) _ = _
   simp only [Act.put, List.setIfInBounds_toArray, List.set_cons_zero, List.set_cons_succ, i64_w, i32_w]
   rfl
  refine pure_ (i := 4) (N := some 4) (v := ?_) (a' := ?_) #[true, true, true, true, true, false, false] rfl rfl (by kernel_rfl) (fun _ _ _ h => h) (Or.inl ⟨by rfl, ?_⟩) ?_ ?_
  rotate_left
  ·intro w'
   go_simp
   with_reducible rfl
  rotate_left
  ·simp only [Act.put, List.setIfInBounds_toArray, List.set_cons_zero, List.set_cons_succ, i64_w, i32_w]
   rfl
  refine pure_ (i := 5) (N := some 5) (v := ?_) (a' := ?_) #[true, true, true, true, true, true, false] rfl rfl (by kernel_rfl) (fun _ _ _ h => h) (Or.inl ⟨by rfl, ?_⟩) ?_ ?_
  rotate_left
  ·intro w'
   go_simp
   with_reducible rfl
  rotate_left
  ·simp only [Act.put, List.setIfInBounds_toArray, List.set_cons_zero, List.set_cons_succ, i64_w, i32_w]
   rfl
  refine pure_ (i := 6) (N := some 6) (v := ?_) (a' := ?_) #[true, true, true, true, true, true, true] rfl rfl (by kernel_rfl) (fun _ _ _ h => h) (Or.inl ⟨by rfl, ?_⟩) ?_ ?_
  rotate_left
  ·intro w'
   go_simp
   with_reducible rfl
  rotate_left
  ·simp only [Act.put, List.setIfInBounds_toArray, List.set_cons_zero, List.set_cons_succ, i64_w, i32_w]
   rfl
  refine done_ (by kernel_rfl) ?_
  try go_wp2
  go_ret3
  exact finE
 simp only [Option.some.injEq, Prod.mk.injEq] at H
 obtain ⟨rfl, rfl, rfl⟩ := H
 go_enter Tryz.func111, Tryz.ntmps111
 go_wp2_with (first | ((with_reducible refine gc_ 86 rfl ?_); refine gL 15 Tryz.func86 (bIpair.calls _ _ _ _ _ _ _ _ _ A3.out) ?_; rintro _ w45 ⟨v262, v266, rfl, ho0, ho1, hb⟩; refine ⟨_, rfl, ?_⟩; have HO263 := fN ho0; have HO267 := fN ho1; replace HB := fB HB hb; clear hb ho0 ho1) | ((with_reducible refine gd_ 7 rfl ?_); refine bxE 7 #[.bool false, .slice none 0 0] 88 ?_; intro gb269 hg w46 hbox hb; have BK269 := Z0.mk hbox; have GW269 := fE HB hg; have GE269 := fE HB hg; replace HO263 := fR HO263 hb; replace HO267 := fR HO267 hb; replace HB := fB HB hb; clear hb hbox hg) | ((with_reducible refine gd_ 8 rfl ?_); refine bxE 8 #[.bool false, .slice none 0 0] 88 ?_; intro gb270 hg w47 hbox hb; have BK270 := Z0.mk hbox; have GW270 := fE HB hg; have GE270 := fE HB hg; have NB269_270 := fl BK269 hg; have NB270_269 := fg BK269 hg; replace HO263 := fR HO263 hb; replace HO267 := fR HO267 hb; replace BK269 := fk BK269 hb; replace HB := fB HB hb; clear hb hbox hg; have hnb48 := NB269_270.out; have hnc48 := NB270_269.out; obtain ⟨hcz49_0, hcz49_1, hfz49_0, hfz49_1⟩ := b2 BK269; obtain ⟨Ao50, co50, eo50⟩ := Kd.R_slice HO263.out; subst eo50; obtain ⟨hcz51_0, hcz51_1, hfz51_0, hfz51_1⟩ := b2 BK270; obtain ⟨Ao52, co52, eo52⟩ := Kd.R_slice HO267.out; subst eo52))
 go_ret3
 exact finE
theorem bIQuo.calls (k : Nat) (a0 : ByteArray) (a1 : ByteArray) (r1 : ByteArray) (r2 : Int) (w : World) (hL : LaidW w) (h : bIQuo.f k a0 a1 = some (r1, r2)) :
  Calls Tryz.prog 69 #[.string a0, .string a1] w fun e w' => e = .returned (.tuple #[.string r1, .int .i64 r2]) ∧ Below w.heap.size w w' := by
 have HB := Z0.mk (Below.refl w.heap.size w)
 have H := h
 clear h
 unfold bIQuo.f at H
 obtain ⟨⟨t283, t284, t285⟩, A3, H⟩ := bnd H
 try dsimp only at H
 simp only [Option.some.injEq, Prod.mk.injEq] at H
 obtain ⟨rfl, rfl⟩ := H
 go_enter Tryz.func69, Tryz.ntmps69
 go_wp2_with (first | ((with_reducible refine gc_ 111 rfl ?_); refine goB (some 12) Tryz.func111 #[.string a0, .string a1] bq (bIdivided.calls k a0 a1 t283 t284 t285 _ (hL.below bq) A3.out) ?_; clear HB; intro w4 HB))
 go_ret2
 exact finE
theorem bIsign.calls (a0_0 : Bool) (A0_1 : Option Addr) (c0_1 : Nat) (l0_1 : List Int) (r : Int) (w : World) (hr0_1 : Kd.C (Kd.int .i64) w A0_1 l0_1.length l0_1) (hc0_1 : l0_1.length ≤ c0_1) (h : bIsign.f a0_0 l0_1 = some r) :
  Calls Tryz.prog 105 #[.agg #[.bool a0_0, .slice A0_1 l0_1.length c0_1]] w fun e w' => e = .returned (.int .i64 r) ∧ Below w.heap.size w w' := by
 have hu88 := Tryz.underlying88
 have HR0_1 := Z0.mk hr0_1
 have HC0_1 := Z0.mk hc0_1
 clear hr0_1 hc0_1
 have HB := Z0.mk (Below.refl w.heap.size w)
 have H := h
 clear h
 unfold bIsign.f at H
 rcases je H with ⟨-, c2b0, c2b1, H⟩ | ⟨c2, c2b0, c2b1, H⟩
 ·obtain rfl := Option.some.inj H
  go_enter Tryz.func105, Tryz.ntmps105
  go_wp2_with (first | ((with_reducible refine gd_ 1 rfl ?_); refine bxE 1 #[.bool a0_0, .slice A0_1 l0_1.length c0_1] 88 ?_; intro gb329 hg w3 hbox hb; have BK329 := Z0.mk hbox; have GW329 := fE HB hg; have GE329 := fE HB hg; replace HB := fB HB hb; clear hb hbox hg; obtain ⟨hcz4_0, hcz4_1, hfz4_0, hfz4_1⟩ := b2 BK329))
  go_ret
  exact finE
 have c2b2 : ¬ (l0_1 = []) := fun h_ => c2 (by rw [h_]; rfl)
 by_cases c5 : a0_0 = true
 ·subst c5
  have H1 : (some (-1)) = some r := by rw [if_pos rfl] at H; exact H
  clear H
  have H := H1
  clear H1
  obtain rfl := Option.some.inj H
  go_enter Tryz.func105, Tryz.ntmps105
  go_wp2_with (first | ((with_reducible refine gd_ 1 rfl ?_); refine bxE 1 #[.bool true, .slice A0_1 l0_1.length c0_1] 88 ?_; intro gb329 hg w6 hbox hb; have BK329 := Z0.mk hbox; have GW329 := fE HB hg; have GE329 := fE HB hg; replace HB := fB HB hb; clear hb hbox hg; obtain ⟨hcz7_0, hcz7_1, hfz7_0, hfz7_1⟩ := b2 BK329))
  go_ret
  exact finE
 replace c5 := Bool.eq_false_iff.mpr c5
 subst c5
 have H1 : (some 1) = some r := by rw [if_neg (show ¬ (false = true) by decide)] at H; exact H
 clear H
 have H := H1
 clear H1
 obtain rfl := Option.some.inj H
 go_enter Tryz.func105, Tryz.ntmps105
 go_wp2_with (first | ((with_reducible refine gd_ 1 rfl ?_); refine bxE 1 #[.bool false, .slice A0_1 l0_1.length c0_1] 88 ?_; intro gb329 hg w8 hbox hb; have BK329 := Z0.mk hbox; have GW329 := fE HB hg; have GE329 := fE HB hg; replace HB := fB HB hb; clear hb hbox hg; obtain ⟨hcz9_0, hcz9_1, hfz9_0, hfz9_1⟩ := b2 BK329))
 go_ret
 exact finE
theorem bICompare.calls (k : Nat) (a0 : ByteArray) (a1 : ByteArray) (r1 : Int) (r2 : Int) (w : World) (h : bICompare.f k a0 a1 = some (r1, r2)) :
  Calls Tryz.prog 63 #[.string a0, .string a1] w fun e w' => e = .returned (.tuple #[.int .i64 r1, .int .i64 r2]) ∧ Below w.heap.size w w' := by
 have hu88 := Tryz.underlying88
 have HB := Z0.mk (Below.refl w.heap.size w)
 have H := h
 clear h
 unfold bICompare.f at H
 obtain ⟨⟨t330, t331, t334, t335, t338⟩, A3, H⟩ := bnd H
 try dsimp only at H
 rcases je H with ⟨-, c4b0, c4b1, H⟩ | ⟨c4, c4b0, c4b1, H⟩
 ·obtain ⟨⟨t341, t342⟩, A5, H⟩ := bnd H
  try dsimp only at H
  obtain ⟨⟨t345, t346⟩, A6, H⟩ := bnd H
  try dsimp only at H
  obtain ⟨t349, A7, H⟩ := bnd H
  simp only [Option.some.injEq, Prod.mk.injEq] at H
  obtain ⟨rfl, rfl⟩ := H
  go_enter Tryz.func63, Tryz.ntmps63
  try go_wp2_with (first | ((with_reducible refine gc_ 86 rfl ?_); refine gL 12 Tryz.func86 (bIpair.calls _ _ _ _ _ _ _ _ _ A3.out) ?_; rintro _ w8 ⟨v332, v336, rfl, ho0, ho1, hb⟩; refine ⟨_, rfl, ?_⟩; have HO333 := fN ho0; have HO337 := fN ho1; replace HB := fB HB hb; clear hb ho0 ho1) | ((with_reducible refine gd_ 6 rfl ?_); refine bxE 6 #[.bool false, .slice none 0 0] 88 ?_; intro gb339 hg w9 hbox hb; have BK339 := Z0.mk hbox; have GW339 := fE HB hg; have GE339 := fE HB hg; replace HO333 := fR HO333 hb; replace HO337 := fR HO337 hb; replace HB := fB HB hb; clear hb hbox hg) | ((with_reducible refine gd_ 7 rfl ?_); refine bxE 7 #[.bool false, .slice none 0 0] 88 ?_; intro gb340 hg w10 hbox hb; have BK340 := Z0.mk hbox; have GW340 := fE HB hg; have GE340 := fE HB hg; have NB339_340 := fl BK339 hg; have NB340_339 := fg BK339 hg; replace HO333 := fR HO333 hb; replace HO337 := fR HO337 hb; replace BK339 := fk BK339 hb; replace HB := fB HB hb; clear hb hbox hg; have hnb11 := NB339_340.out; have hnc11 := NB340_339.out; obtain ⟨hcz12_0, hcz12_1, hfz12_0, hfz12_1⟩ := b2 BK339; obtain ⟨Ao13, co13, eo13⟩ := Kd.R_slice HO333.out; subst eo13; obtain ⟨hcz14_0, hcz14_1, hfz14_0, hfz14_1⟩ := b2 BK340; obtain ⟨Ao15, co15, eo15⟩ := Kd.R_slice HO337.out; subst eo15))
  have n0_ : Z0 (Kd.R (Kd.int .i64) 3 ((((w10.setCell ⟨gb339, 0, none⟩ (.bool t330)).setCell ⟨gb339, 1, none⟩ (.slice Ao13 t331.length co13)).setCell ⟨gb340, 0, none⟩ (.bool t334)).setCell ⟨gb340, 1, none⟩ (.slice Ao15 t335.length co15)) w.heap.size (fun k_ => some k_ ≠ (.slice Ao15 t335.length co15 : Value).ownBlock) (.slice Ao13 t331.length co13) t331) := ⟨by (with_reducible repeat (first | apply Kd.R_alloc | apply Kd.R_drewN | apply Kd.R_drew)); exact Kd.R_mono (Kd.R_far (p := ⟨gb340, 1, none⟩) (Kd.R_far (p := ⟨gb340, 0, none⟩) (Kd.R_far (p := ⟨gb339, 1, none⟩) (Kd.R_far (p := ⟨gb339, 0, none⟩) (Kd.R_types (Kd.R_types HO333.out BK339.out (by decide)) BK340.out (by decide)) (fun _ hk => hk.1.2) (.bool t330)) (fun _ hk => hk.1.2) (.slice Ao13 t331.length co13)) (fun _ hk => hk.2) (.bool t334)) (fun _ hk => hk.2) (.slice Ao15 t335.length co15)) (fun _ hk => hk.1.1)⟩
  have n1_ : Z0 (Kd.R (Kd.int .i64) 3 ((((w10.setCell ⟨gb339, 0, none⟩ (.bool t330)).setCell ⟨gb339, 1, none⟩ (.slice Ao13 t331.length co13)).setCell ⟨gb340, 0, none⟩ (.bool t334)).setCell ⟨gb340, 1, none⟩ (.slice Ao15 t335.length co15)) w.heap.size (fun k_ => some k_ ≠ (.slice Ao13 t331.length co13 : Value).ownBlock) (.slice Ao15 t335.length co15) t335) := ⟨by (with_reducible repeat (first | apply Kd.R_alloc | apply Kd.R_drewN | apply Kd.R_drew)); exact Kd.R_mono (Kd.R_far (p := ⟨gb340, 1, none⟩) (Kd.R_far (p := ⟨gb340, 0, none⟩) (Kd.R_far (p := ⟨gb339, 1, none⟩) (Kd.R_far (p := ⟨gb339, 0, none⟩) (Kd.R_types (Kd.R_types HO337.out BK339.out (by decide)) BK340.out (by decide)) (fun _ hk => hk.1.2) (.bool t330)) (fun _ hk => hk.1.2) (.slice Ao13 t331.length co13)) (fun _ hk => hk.2) (.bool t334)) (fun _ hk => hk.2) (.slice Ao15 t335.length co15)) (fun _ hk => hk.1.1)⟩
  have n2_ : Z0 (((((w10.setCell ⟨gb339, 0, none⟩ (.bool t330)).setCell ⟨gb339, 1, none⟩ (.slice Ao13 t331.length co13)).setCell ⟨gb340, 0, none⟩ (.bool t334)).setCell ⟨gb340, 1, none⟩ (.slice Ao15 t335.length co15)).heap[gb339]? = some (.cells #[.bool t330, .slice Ao13 t331.length co13] 88 (0, 0))) := ⟨by (with_reducible repeat (first | refine blk_drewN ?_ _ | refine blk_drew ?_ | refine blk_alloc ?_ _)); refine blk_far ?_ NB339_340.out _; (with_reducible repeat (first | refine blk_drewN ?_ _ | refine blk_drew ?_ | refine blk_alloc ?_ _)); refine blk_far ?_ NB339_340.out _; (with_reducible repeat (first | refine blk_drewN ?_ _ | refine blk_drew ?_ | refine blk_alloc ?_ _)); refine blk_put (cs := #[.bool t330, .slice none 0 0]) ?_ 1 _ rfl; (with_reducible repeat (first | refine blk_drewN ?_ _ | refine blk_drew ?_ | refine blk_alloc ?_ _)); refine blk_put (cs := #[.bool false, .slice none 0 0]) ?_ 0 _ rfl; (with_reducible repeat (first | refine blk_drewN ?_ _ | refine blk_drew ?_ | refine blk_alloc ?_ _)); exact BK339.out⟩
  have n3_ : Z0 (((((w10.setCell ⟨gb339, 0, none⟩ (.bool t330)).setCell ⟨gb339, 1, none⟩ (.slice Ao13 t331.length co13)).setCell ⟨gb340, 0, none⟩ (.bool t334)).setCell ⟨gb340, 1, none⟩ (.slice Ao15 t335.length co15)).heap[gb340]? = some (.cells #[.bool t334, .slice Ao15 t335.length co15] 88 (0, 0))) := ⟨by (with_reducible repeat (first | refine blk_drewN ?_ _ | refine blk_drew ?_ | refine blk_alloc ?_ _)); refine blk_put (cs := #[.bool t334, .slice none 0 0]) ?_ 1 _ rfl; (with_reducible repeat (first | refine blk_drewN ?_ _ | refine blk_drew ?_ | refine blk_alloc ?_ _)); refine blk_put (cs := #[.bool false, .slice none 0 0]) ?_ 0 _ rfl; (with_reducible repeat (first | refine blk_drewN ?_ _ | refine blk_drew ?_ | refine blk_alloc ?_ _)); refine blk_far ?_ NB340_339.out _; (with_reducible repeat (first | refine blk_drewN ?_ _ | refine blk_drew ?_ | refine blk_alloc ?_ _)); refine blk_far ?_ NB340_339.out _; (with_reducible repeat (first | refine blk_drewN ?_ _ | refine blk_drew ?_ | refine blk_alloc ?_ _)); exact BK340.out⟩
  have n4_ : Z0 (Below w.heap.size w ((((w10.setCell ⟨gb339, 0, none⟩ (.bool t330)).setCell ⟨gb339, 1, none⟩ (.slice Ao13 t331.length co13)).setCell ⟨gb340, 0, none⟩ (.bool t334)).setCell ⟨gb340, 1, none⟩ (.slice Ao15 t335.length co15))) := ⟨bqs⟩
  (try clear HO333)
  (try clear HO337)
  (try clear BK339)
  (try clear BK340)
  (try clear HB)
  generalize ((((w10.setCell ⟨gb339, 0, none⟩ (.bool t330)).setCell ⟨gb339, 1, none⟩ (.slice Ao13 t331.length co13)).setCell ⟨gb340, 0, none⟩ (.bool t334)).setCell ⟨gb340, 1, none⟩ (.slice Ao15 t335.length co15)) = w16 at n0_ n1_ n2_ n3_ n4_ ⊢
  have HO333 := n0_
  have HO337 := n1_
  have BK339 := n2_
  have BK340 := n3_
  have HB := n4_
  clear n0_ n1_ n2_ n3_ n4_
  replace HO333 := Z0.mk (Kd.R_drew HO333.out)
  replace HO337 := Z0.mk (Kd.R_drew HO337.out)
  replace BK339 := Z0.mk (blk_drew BK339.out)
  replace BK340 := Z0.mk (blk_drew BK340.out)
  replace HB := Z0.mk (below_drew1 HB.out)
  refine start_ (n := 7) (S := fun w' => w'.cell? ⟨gb339, 0, none⟩ = some (.bool t330) ∧ w'.cell? ⟨gb339, 1, none⟩ = some (.slice Ao13 t331.length co13) ∧ w'.cell? ⟨gb340, 0, none⟩ = some (.bool t334) ∧ w'.cell? ⟨gb340, 1, none⟩ = some (.slice Ao15 t335.length co15)) (ds := []) #[false, false, false, false, false, false, false] (by kernel_rfl) rfl rfl ⟨(blk_cell BK339.out 0).trans rfl, (blk_cell BK339.out 1).trans rfl, (blk_cell BK340.out 0).trans rfl, (blk_cell BK340.out 1).trans rfl⟩ (fun hHeld => ?_)
  generalize w16.drew = w17 at HO333 HO337 BK339 BK340 HB hHeld ⊢
  refine take_ (i := 0) (N := some 19) (v := ?_) (a' := ?_) #[true, false, false, false, false, false, false] rfl rfl (by kernel_rfl) (fun _ _ _ h => h) (Or.inl ⟨by rfl, ?_⟩) hHeld ?_ ?_
  rotate_left
  ·rintro w' ⟨s0, s1, s2, s3⟩
   go_simp
   with_reducible rfl
  rotate_left
  ·simp only [Act.put, List.setIfInBounds_toArray, List.set_cons_zero, List.set_cons_succ, i64_w, i32_w]
   rfl
  refine take_ (i := 1) (N := some 20) (v := ?_) (a' := ?_) #[true, true, false, false, false, false, false] rfl rfl (by kernel_rfl) (fun _ _ _ h => h) (Or.inl ⟨by rfl, ?_⟩) hHeld ?_ ?_
  rotate_left
  ·rintro w' ⟨s0, s1, s2, s3⟩
   go_simp
   with_reducible rfl
  rotate_left
  ·simp only [Act.put, List.setIfInBounds_toArray, List.set_cons_zero, List.set_cons_succ, i64_w, i32_w]
   rfl
  refine one_ (i := 2) (N := some 21) #[true, true, true, false, false, false, false] rfl rfl (by kernel_rfl) (by decide) (fun K hK => ?_)
  refine goes_ Tryz.func89 (by kernel_rfl) rfl #[.agg #[.bool t334, .slice Ao15 t335.length co15]] (by rfl) rfl rfl (by (try simp only [List.map_toArray, List.map_cons, List.map_nil]); first | done | rfl | (simp only [List.length_drop, List.length_take]; rfl)) ?_
  with_reducible refine (bInegated.calls t334 (fun k_ => some k_ = (.slice Ao15 t335.length co15 : Value).ownBlock) (.slice Ao15 t335.length co15) t335 t341 t342 w _ ?side1 ?side2 A5.out).mono ?_
  (case side1 => repeat (first | (with_reducible first | exact HB.out | apply below_alloc | apply pw_below_drewN | apply below_drew1 | refine below_set ?_ GE339.out | refine below_set ?_ GE340.out) | exact HB.out))
  (case side2 => exact Kd.R_tight rfl HO337.out)
  rintro e w18 ⟨v343, rfl, ho0, hb, hkp⟩
  refine ⟨_, rfl, ?_⟩
  have HO344 := Z0.mk (Kd.R_mono (ok' := fun k_ => some k_ ≠ (.slice Ao13 t331.length co13 : Value).ownBlock) ho0 (fun k_ hk_ => Or.elim hk_ (fun hs_ => fun e_ => (((HO333.out).1 k_ e_.symm)) hs_) (fun hn_ => (Kd.fresh' (Kd.R_lt (rq HO333)) k_ hn_))))
  replace HO333 := Z0.mk (Kd.R_mono (ok' := fun k_ => some k_ ≠ (v343 : Value).ownBlock) (Kd.R_keptB (HO333.out) hkp (fun k_ hk_ hs_ => (hk_) hs_)) (fun k_ hk_ => fun e_ => Or.elim (ho0.1 k_ e_.symm) (fun hs_ => hk_.2.1 hs_) (fun hn_ => Nat.not_le.2 hk_.2.2 hn_)))
  replace BK339 := Z0.mk (blk_kept (hq BK339) hkp (fun hs_ => (fun e_ => (Kd.R_ne HO337.out BK339.out (by decide)) e_) hs_))
  replace BK340 := Z0.mk (blk_kept (hq BK340) hkp (fun hs_ => (fun e_ => (Kd.R_ne HO337.out BK340.out (by decide)) e_) hs_))
  replace HB := Z0.mk (hb)
  clear HO337
  (try clear hb)
  (try clear hkp)
  (try clear ho0)
  obtain ⟨Ao19, co19, eo19⟩ := Kd.R_slice HO344.out
  (first | subst eo19 | (injection eo19 with f1_ f2_ f3_; have f4_ := f1_.symm; have f5_ := f3_.symm; clear f1_ f2_ f3_; subst f4_; subst f5_))
  refine hK.out _ _ ⟨(blk_cell BK339.out 0).trans rfl, (blk_cell BK339.out 1).trans rfl, (blk_cell BK340.out 0).trans rfl, (blk_cell BK340.out 1).trans rfl⟩ (fun hHeld => ?_)
  clear hK K
  refine norm_ (a' := ?_) ?_ ?_
  rotate_left
  ·show Act.put _ (some 21) _ = _
   simp only [Act.put, List.setIfInBounds_toArray, List.set_cons_zero, List.set_cons_succ, i64_w, i32_w]
   rfl
  refine one_ (i := 3) (N := some 22) #[true, true, true, true, false, false, false] rfl rfl (by kernel_rfl) (by decide) (fun K hK => ?_)
  refine goes_ Tryz.func88 (by kernel_rfl) rfl #[.agg #[.bool t330, .slice Ao13 t331.length co13], .agg #[.bool t341, .slice Ao19 t342.length co19]] (by rfl) rfl rfl (by (try simp only [List.map_toArray, List.map_cons, List.map_nil]); first | done | rfl | (simp only [List.length_drop, List.length_take]; rfl)) ?_
  with_reducible refine (bIsum.calls k t330 _ _ t331 t341 _ _ t342 t345 t346 _ ?side1 ?side2 ?side3 ?side4 A6.out).mono ?_
  (case side1 => exact cq (Kd.R_reads' HO333.out).2.2)
  (case side2 => exact (Kd.R_reads' HO333.out).2.1)
  (case side3 => exact cq (Kd.R_reads' HO344.out).2.2)
  (case side4 => exact (Kd.R_reads' HO344.out).2.1)
  rintro e w20 ⟨v347, rfl, ho0, hb⟩
  refine ⟨_, rfl, ?_⟩
  have HO348 := Z0.mk (Kd.R_lower (Kd.R_new' (Kd.R_new' ho0 (Kd.R_lt (rq HO333))) (Kd.R_lt (rq HO344))) (below_size bqs))
  replace HO333 := Z0.mk (Kd.R_elder' (rq HO333) (Kd.R_base ho0) hb)
  replace HO344 := Z0.mk (Kd.R_elder' (rq HO344) (Kd.R_base ho0) hb)
  replace BK339 := fk BK339 hb
  replace BK340 := fk BK340 hb
  replace HB := fB HB hb
  (try clear hb)
  (try clear hb2)
  (try clear hk)
  (try clear hi)
  (try clear ho0)
  obtain ⟨Ao21, co21, eo21⟩ := Kd.R_slice HO348.out
  (first | subst eo21 | (injection eo21 with f1_ f2_ f3_; have f4_ := f1_.symm; have f5_ := f3_.symm; clear f1_ f2_ f3_; subst f4_; subst f5_))
  refine hK.out _ _ ⟨(blk_cell BK339.out 0).trans rfl, (blk_cell BK339.out 1).trans rfl, (blk_cell BK340.out 0).trans rfl, (blk_cell BK340.out 1).trans rfl⟩ (fun hHeld => ?_)
  clear hK K
  refine norm_ (a' := ?_) ?_ ?_
  rotate_left
  ·show Act.put _ (some 22) _ = _
   simp only [Act.put, List.setIfInBounds_toArray, List.set_cons_zero, List.set_cons_succ, i64_w, i32_w]
   rfl
  refine one_ (i := 4) (N := some 23) #[true, true, true, true, true, false, false] rfl rfl (by kernel_rfl) (by decide) (fun K hK => ?_)
  refine goes_ Tryz.func105 (by kernel_rfl) rfl #[.agg #[.bool t345, .slice Ao21 t346.length co21]] (by rfl) rfl rfl (by (try simp only [List.map_toArray, List.map_cons, List.map_nil]); first | done | rfl | (simp only [List.length_drop, List.length_take]; rfl)) ?_
  with_reducible refine (bIsign.calls t345 _ _ t346 t349 _ ?side1 ?side2 A7.out).mono ?_
  (case side1 => exact cq (Kd.R_reads' HO348.out).2.2)
  (case side2 => exact (Kd.R_reads' HO348.out).2.1)
  rintro e w22 ⟨rfl, hb⟩
  refine ⟨_, rfl, ?_⟩
  replace HO333 := fR HO333 hb
  replace HO344 := fR HO344 hb
  replace HO348 := fR HO348 hb
  replace BK339 := fk BK339 hb
  replace BK340 := fk BK340 hb
  replace HB := fB HB hb
  (try clear hb)
  (try clear hb2)
  (try clear hk)
  (try clear hi)
  refine hK.out _ _ ⟨(blk_cell BK339.out 0).trans rfl, (blk_cell BK339.out 1).trans rfl, (blk_cell BK340.out 0).trans rfl, (blk_cell BK340.out 1).trans rfl⟩ (fun hHeld => ?_)
  clear hK K
  refine norm_ (a' := ?_) ?_ ?_
  rotate_left
  ·show Act.put _ (some 23) _ = _
   simp only [Act.put, List.setIfInBounds_toArray, List.set_cons_zero, List.set_cons_succ, i64_w, i32_w]
   rfl
  refine pure_ (i := 5) (N := some 4) (v := ?_) (a' := ?_) #[true, true, true, true, true, true, false] rfl rfl (by kernel_rfl) (fun _ _ _ h => h) (Or.inl ⟨by rfl, ?_⟩) ?_ ?_
  rotate_left
  ·intro w'
   go_simp
   with_reducible rfl
  rotate_left
  ·simp only [Act.put, List.setIfInBounds_toArray, List.set_cons_zero, List.set_cons_succ, i64_w, i32_w]
   rfl
  refine pure_ (i := 6) (N := some 5) (v := ?_) (a' := ?_) #[true, true, true, true, true, true, true] rfl rfl (by kernel_rfl) (fun _ _ _ h => h) (Or.inl ⟨by rfl, ?_⟩) ?_ ?_
  rotate_left
  ·intro w'
   go_simp
   with_reducible rfl
  rotate_left
  ·simp only [Act.put, List.setIfInBounds_toArray, List.set_cons_zero, List.set_cons_succ, i64_w, i32_w]
   rfl
  refine done_ (by kernel_rfl) ?_
  try go_wp2
  go_ret2
  exact finE
 simp only [Option.some.injEq, Prod.mk.injEq] at H
 obtain ⟨rfl, rfl⟩ := H
 go_enter Tryz.func63, Tryz.ntmps63
 go_wp2_with (first | ((with_reducible refine gc_ 86 rfl ?_); refine gL 12 Tryz.func86 (bIpair.calls _ _ _ _ _ _ _ _ _ A3.out) ?_; rintro _ w23 ⟨v332, v336, rfl, ho0, ho1, hb⟩; refine ⟨_, rfl, ?_⟩; have HO333 := fN ho0; have HO337 := fN ho1; replace HB := fB HB hb; clear hb ho0 ho1) | ((with_reducible refine gd_ 6 rfl ?_); refine bxE 6 #[.bool false, .slice none 0 0] 88 ?_; intro gb339 hg w24 hbox hb; have BK339 := Z0.mk hbox; have GW339 := fE HB hg; have GE339 := fE HB hg; replace HO333 := fR HO333 hb; replace HO337 := fR HO337 hb; replace HB := fB HB hb; clear hb hbox hg) | ((with_reducible refine gd_ 7 rfl ?_); refine bxE 7 #[.bool false, .slice none 0 0] 88 ?_; intro gb340 hg w25 hbox hb; have BK340 := Z0.mk hbox; have GW340 := fE HB hg; have GE340 := fE HB hg; have NB339_340 := fl BK339 hg; have NB340_339 := fg BK339 hg; replace HO333 := fR HO333 hb; replace HO337 := fR HO337 hb; replace BK339 := fk BK339 hb; replace HB := fB HB hb; clear hb hbox hg; have hnb26 := NB339_340.out; have hnc26 := NB340_339.out; obtain ⟨hcz27_0, hcz27_1, hfz27_0, hfz27_1⟩ := b2 BK339; obtain ⟨Ao28, co28, eo28⟩ := Kd.R_slice HO333.out; subst eo28; obtain ⟨hcz29_0, hcz29_1, hfz29_0, hfz29_1⟩ := b2 BK340; obtain ⟨Ao30, co30, eo30⟩ := Kd.R_slice HO337.out; subst eo30))
 go_ret2
 exact finE
theorem bISign.calls (k : Nat) (a0 : ByteArray) (r1 : Int) (r2 : Int) (w : World) (h : bISign.f k a0 = some (r1, r2)) :
  Calls Tryz.prog 38 #[.string a0] w fun e w' => e = .returned (.tuple #[.int .i64 r1, .int .i64 r2]) ∧ Below w.heap.size w w' := by
 have HB := Z0.mk (Below.refl w.heap.size w)
 have H := h
 clear h
 unfold bISign.f at H
 obtain ⟨⟨t350, t351⟩, A2, H⟩ := bnd H
 try dsimp only at H
 simp only [Option.some.injEq, Prod.mk.injEq] at H
 obtain ⟨rfl, rfl⟩ := H
 go_enter Tryz.func38, Tryz.ntmps38
 go_wp2_with (first | ((with_reducible refine gc_ 63 rfl ?_); refine goB (some 5) Tryz.func63 #[.string a0, .string (⟨#[48]⟩ : ByteArray)] bq (bICompare.calls k a0 (⟨#[48]⟩ : ByteArray) t350 t351 _ A2.out) ?_; clear HB; intro w3 HB))
 go_ret2
 exact finE
theorem rAwhole.calls (k : Nat) (a0 : ByteArray) (a1 : ByteArray) (r1 : ByteArray) (r2 : Int) (w : World) (hL : LaidW w) (h : rAwhole.f k a0 a1 = some (r1, r2)) :
  Calls Tryz.prog 84 #[.string a0, .string a1] w fun e w' => e = .returned (.tuple #[.string r1, .int .i64 r2]) ∧ Below w.heap.size w w' := by
 have HB := Z0.mk (Below.refl w.heap.size w)
 have H := h
 clear h
 unfold rAwhole.f at H
 obtain ⟨⟨t352, t353⟩, A3, H⟩ := bnd H
 try dsimp only at H
 rcases je H with ⟨-, c4b0, c4b1, H⟩ | ⟨c4, c4b0, c4b1, H⟩
 ·obtain ⟨⟨t354, t355⟩, A5, H⟩ := bnd H
  try dsimp only at H
  have HC6 := Z0.mk H
  clear H
  go_enter Tryz.func84, Tryz.ntmps84
  go_upto_if 27 with (first | ((with_reducible refine gc_ 37 rfl ?_); refine goB (some 15) Tryz.func37 #[.string a0, .string a1] bq (bIGcd.calls k a0 a1 t352 t353 _ (hL.below bq) A3.out) ?_; clear HB; intro w7 HB) | ((with_reducible refine gc_ 38 rfl ?_); refine goB (some 23) Tryz.func38 #[.string a1] bq (bISign.calls k a1 t354 t355 _ A5.out) ?_; clear HB; intro w8 HB))
  (try simp only [Act.put, List.setIfInBounds_toArray, List.set_cons_zero, List.set_cons_succ])
  go_cut [6] (fun v6 wc => ∃ (kq : Nat) (x6_5 : ByteArray), v6 = .string x6_5 ∧ Z0 (rAwhole.j0 kq a0 a1 x6_5 = some (r1, r2)) ∧ Z0 (kq ≤ k) ∧ Z0 (Below w.heap.size w wc))
  case first =>
   have H := HC6.out
   clear HC6
   rcases jd H with ⟨-, c9b0, H⟩ | ⟨-, c9b0, H⟩
   ·(first | rw [c9b0] | (simp only [i64_w, i32_w]; rw [c9b0]) | skip)
    obtain ⟨⟨t356, t357⟩, A10, H⟩ := bnd H
    try dsimp only at H
    have H' := Z0.mk H
    clear H
    go_wp2_with (first | ((with_reducible refine gc_ 35 rfl ?_); refine goB (some 30) Tryz.func35 #[.string t352] bq (bINeg.calls k t352 t356 t357 _ (hL.below bq) A10.out) ?_; clear HB; intro w11 HB))
    go_meet
    case rel => exact ⟨_, (t356), fs, H', ⟨by first | omega | exact Nat.le_refl _⟩, ⟨bqs⟩⟩
   (first | rw [c9b0] | (simp only [i64_w, i32_w]; rw [c9b0]) | skip)
   have H' := Z0.mk H
   clear H
   go_wp2
   go_meet
   case rel => exact ⟨_, (t352), fs, H', ⟨by first | omega | exact Nat.le_refl _⟩, ⟨bqs⟩⟩
  case rest =>
   clear HC6
   try clear p2
   try clear c3
   try clear c4
   try clear c4b0
   try clear c4b1
   try clear c8
   try clear c9
   try clear c9b0
   obtain ⟨kq, x6_5, rfl, HA, HJ5, HB⟩ := hcut
   cases kq with
   | zero => exact absurd HA.out (by simp [rAwhole.j0])
   | succ kj5 =>
    have H := HA.out
    clear HA
    simp only [rAwhole.j0] at H
    obtain ⟨⟨t358, t359⟩, A12, H⟩ := bnd H
    try dsimp only at H
    rcases je H with ⟨-, c13b0, c13b1, H⟩ | ⟨c13, c13b0, c13b1, H⟩
    ·obtain ⟨⟨t360, t361⟩, A14, H⟩ := bnd H
     try dsimp only at H
     rcases je H with ⟨-, c15b0, c15b1, H⟩ | ⟨c15, c15b0, c15b1, H⟩
     ·rcases je H with ⟨-, c16b0, c16b1, H⟩ | ⟨c16, c16b0, c16b1, H⟩
      ·simp only [Option.some.injEq, Prod.mk.injEq] at H
       obtain ⟨rfl, rfl⟩ := H
       go_wp2_with (first | ((with_reducible refine gc_ 69 rfl ?_); refine goB (some 36) Tryz.func69 #[.string a0, .string x6_5] bq (bIQuo.calls kj5 a0 x6_5 t358 t359 _ (hL.below bq) A12.out) ?_; clear HB; intro w17 HB) | ((with_reducible refine gc_ 69 rfl ?_); refine goB (some 45) Tryz.func69 #[.string a1, .string x6_5] bq (bIQuo.calls kj5 a1 x6_5 t360 t361 _ (hL.below bq) A14.out) ?_; clear HB; intro w18 HB))
       go_ret2
       exact finE
      obtain ⟨c19, c19b0, c19b1, H⟩ := gt H
      try have c19b2 : (9223372036854775807 < t358.size + 1) = False := eq_false (Nat.not_lt.2 c19)
      obtain ⟨c20, c20b0, c20b1, H⟩ := gt H
      try have c20b2 : (9223372036854775807 < (t358 ++ (⟨#[47]⟩ : ByteArray)).size + t360.size) = False := eq_false (Nat.not_lt.2 c20)
      simp only [Option.some.injEq, Prod.mk.injEq] at H
      obtain ⟨rfl, rfl⟩ := H
      go_wp2_with (first | ((with_reducible refine gc_ 69 rfl ?_); refine goB (some 36) Tryz.func69 #[.string a0, .string x6_5] bq (bIQuo.calls kj5 a0 x6_5 t358 t359 _ (hL.below bq) A12.out) ?_; clear HB; intro w21 HB) | ((with_reducible refine gc_ 69 rfl ?_); refine goB (some 45) Tryz.func69 #[.string a1, .string x6_5] bq (bIQuo.calls kj5 a1 x6_5 t360 t361 _ (hL.below bq) A14.out) ?_; clear HB; intro w22 HB))
      go_ret2
      exact finE
     simp only [Option.some.injEq, Prod.mk.injEq] at H
     obtain ⟨rfl, rfl⟩ := H
     go_wp2_with (first | ((with_reducible refine gc_ 69 rfl ?_); refine goB (some 36) Tryz.func69 #[.string a0, .string x6_5] bq (bIQuo.calls kj5 a0 x6_5 t358 t359 _ (hL.below bq) A12.out) ?_; clear HB; intro w23 HB) | ((with_reducible refine gc_ 69 rfl ?_); refine goB (some 45) Tryz.func69 #[.string a1, .string x6_5] bq (bIQuo.calls kj5 a1 x6_5 t360 t361 _ (hL.below bq) A14.out) ?_; clear HB; intro w24 HB))
     go_ret2
     exact finE
    simp only [Option.some.injEq, Prod.mk.injEq] at H
    obtain ⟨rfl, rfl⟩ := H
    go_wp2_with (first | ((with_reducible refine gc_ 69 rfl ?_); refine goB (some 36) Tryz.func69 #[.string a0, .string x6_5] bq (bIQuo.calls kj5 a0 x6_5 t358 t359 _ (hL.below bq) A12.out) ?_; clear HB; intro w25 HB))
    go_ret2
    exact finE
 simp only [Option.some.injEq, Prod.mk.injEq] at H
 obtain ⟨rfl, rfl⟩ := H
 go_enter Tryz.func84, Tryz.ntmps84
 go_wp2_with (first | ((with_reducible refine gc_ 37 rfl ?_); refine goB (some 15) Tryz.func37 #[.string a0, .string a1] bq (bIGcd.calls k a0 a1 t352 t353 _ (hL.below bq) A3.out) ?_; clear HB; intro w26 HB))
 go_ret2
 exact finE
end Go.Proofs.YthnfajboebaajaaGreatDoor.PA
