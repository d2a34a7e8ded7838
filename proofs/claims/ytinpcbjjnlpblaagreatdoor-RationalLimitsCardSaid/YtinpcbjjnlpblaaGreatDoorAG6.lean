import Derived.Test.YtinpcbjjnlpblaaGreatDoorAG1
import Derived.Test.YtinpcbjjnlpblaaGreatDoorAD
import Derived.Test.YtinpcbjjnlpblaaGreatDoorAG2
import Derived.Test.YtinpcbjjnlpblaaGreatDoorAG3
import Derived.Test.YtinpcbjjnlpblaaGreatDoorAG4
import Derived.Test.YtinpcbjjnlpblaaGreatDoorAG5
set_option maxHeartbeats 8000000
set_option maxRecDepth 100000
set_option linter.unusedVariables false
namespace Go.Proofs.YtinpcbjjnlpblaaGreatDoor
set_option linter.unusedVariables false
open Go.RowKit Go.Proofs.WWords Go.Proofs.WLast Go.Proofs.WMore PA
attribute [local go_sem] max2_int min2_int max_two min_two max_three min_three max_four min_four
set_option linter.unusedSimpArgs false
theorem bIestimateW.ok {k : Nat} {l0 : List Int} {j : Int} {l1 : List Int} {r : Int × List Int} (h : bIestimateW.f k l0 j l1 = some r) : 0 ≤ j ∧ j + (l1.length : Int) + 1 ≤ (l0.length : Int) := by
 unfold bIestimateW.f at h
 split at h
 ·assumption
 cases h
theorem bIestimateW.calls (m : Nat) (l1 : List Int) (hm1 : m = l1.length + 1) (k : Nat) (P0_ : Nat → Prop) (g capf : Nat) (l0 : List Int) (j : Int) (A1 : Option Addr) (c1 : Nat) (r1 : Int) (r2 : List Int) (w0 w : World) (hB : Below w0.heap.size w0 w) (ho0 : Kd.R (Kd.int .i64) 3 w w0.heap.size P0_ (.slice (some ⟨g, 0, none⟩) l0.length capf) l0) (hr1 : ∀ W_, Kept w W_ (fun k_ => P0_ k_) → Kd.C (Kd.int .i64) W_ A1 l1.length l1) (hc1 : l1.length ≤ c1) (h : bIestimateW.f k l0 j l1 = some (r1, r2)) :
  Calls Tryz.prog 108 #[.slice (some ⟨g, j.toNat, none⟩) m (capf - j.toNat), .slice A1 l1.length c1] w fun e w' => e = .returned (.int .i64 r1) ∧ Kd.R (Kd.int .i64) 3 w' w0.heap.size (fun k_ => (P0_ k_ ∨ w.heap.size ≤ k_)) (.slice (some ⟨g, 0, none⟩) l0.length capf) r2 ∧ Below w0.heap.size w0 w' ∧ Kept w w' (fun k_ => P0_ k_) := by
 subst hm1
 unfold bIestimateW.f at h
 split at h
 ·rename_i hc
  obtain ⟨⟨q, r⟩, hq, h⟩ := Option.bind_eq_some_iff.mp h
  simp only [Option.some.injEq, Prod.mk.injEq] at h
  obtain ⟨rfl, rfl⟩ := h
  have hm : ((l0.drop j.toNat).take (l1.length + 1)).length = l1.length + 1 := by rw [List.length_take, List.length_drop]; omega
  have hsp : l0.take j.toNat ++ (l0.drop j.toNat).take (l1.length + 1) ++ l0.drop (j.toNat + (l1.length + 1)) = l0 := by
   rw [List.append_assoc, ← List.drop_drop, List.take_append_drop, List.take_append_drop]
  have hcap := (Kd.R_reads' ho0).2.1
  have hW : WR (l0.take j.toNat) (l0.drop (j.toNat + (l1.length + 1))) j.toNat capf w w0.heap.size P0_ (.slice (some ⟨g, j.toNat, none⟩) (l1.length + 1) (capf - j.toNat)) ((l0.drop j.toNat).take (l1.length + 1)) := by
   refine ⟨fun k hk => ho0.1 k (by simpa [Value.ownBlock] using hk), by rw [List.length_take]; omega, g, capf - j.toNat, by rw [hm], by omega, ?_⟩
   rw [hsp]
   exact Kd.R_mono (Kd.R_tight rfl ho0) (fun k hk => by simpa [Value.ownBlock] using hk)
  have hC := bIestimate.calls (pre := l0.take j.toNat) (post := l0.drop (j.toNat + (l1.length + 1))) (oW := j.toNat) (cF := capf) k P0_ (.slice (some ⟨g, j.toNat, none⟩) (l1.length + 1) (capf - j.toNat)) _ A1 c1 l1 q r w0 w hB hW hr1 hc1 hq
  refine hC.mono ?_
  rintro e w' ⟨rfl, hw, hb, hk⟩
  obtain ⟨hn, _, _, hok, hR⟩ := WR_full hw
  refine ⟨rfl, ?_, hb, hk⟩
  have hlen : (l0.take j.toNat ++ r ++ l0.drop (j.toNat + (l1.length + 1))).length = l0.length := by simp; omega
  rw [hlen] at hR
  exact Kd.R_mono hR (fun k hk => by rw [hk]; exact hok)
 cases h
def bIdivide.T16 : Bool × List (List Nat × List Nat) := (true, [([], []), ([0], [0]), ([], []), ([2], [2]), ([3], [3]), ([1, 4, 1], [1, 4]), ([5], [5]), ([6], [6]), ([6], [6]), ([7, 5, 0, 1, 2, 3, 4, 5, 6, 7], [7]), ([8, 9, 0, 1, 2, 3, 4, 5, 6, 7, 8, 9], [8])])
def bIdivide.B16 : List Nat := [0, 1, 0, 4, 12, 31, 63, 127, 127, 255, 1023]
theorem bIdivide.tab16 : rtab .any (opsOf Tryz.f62 16) = bIdivide.T16 := by kernel_rfl
theorem bIdivide.bits16 : waitsOk bIdivide.T16.2 bIdivide.B16 = true := by kernel_rfl
theorem bIdivide.calls (k : Nat) (P0_ : Nat → Prop) (u9000_ : Value) (l0 : List Int) (A1 : Option Addr) (c1 : Nat) (l1 : List Int) (r1 : List Int) (r2 : List Int) (w0 w : World) (hB : Below w0.heap.size w0 w) (ho0 : Kd.R (Kd.int .i64) 3 w w0.heap.size P0_ u9000_ l0) (hr1 : ∀ W_, Kept w W_ (fun k_ => P0_ k_) → Kd.C (Kd.int .i64) W_ A1 l1.length l1) (hc1 : l1.length ≤ c1) (h : bIdivide.f k l0 l1 = some (r1, r2)) :
  Calls Tryz.prog 62 #[u9000_, .slice A1 l1.length c1] w fun e w' => ∃ v0_ v1_ : Value, e = .returned (.tuple #[v0_, v1_]) ∧ Kd.R (Kd.int .i64) 3 w' w0.heap.size (fun k_ => (P0_ k_ ∨ w.heap.size ≤ k_) ∧ some k_ ≠ (v1_ : Value).ownBlock) v0_ r1 ∧ Kd.R (Kd.int .i64) 3 w' w0.heap.size (fun k_ => (P0_ k_ ∨ w.heap.size ≤ k_) ∧ some k_ ≠ (v0_ : Value).ownBlock) v1_ r2 ∧ Below w0.heap.size w0 w' ∧ Kept w w' (fun k_ => P0_ k_) := by
 have HO0 := Z0.mk (show Kd.R (Kd.int .i64) 3 w w0.heap.size (fun k_ => (P0_ k_ ∨ w.heap.size ≤ k_)) u9000_ l0 from Kd.R_mono ho0 (fun k_ hk => (.inl hk)))
 have HR1 := Z0.mk hr1
 have HC1 := Z0.mk hc1
 clear hr1 hc1
 have HK := Z0.mk (Kept.refl w (fun k_ => P0_ k_))
 have HW0 := Z0.mk hB.size
 have HB := Z0.mk hB
 clear hB
 have H := h
 clear h
 unfold bIdivide.f at H
 obtain ⟨t126, A3, H⟩ := bnd H
 rcases jd H with ⟨-, c4b0, H⟩ | ⟨-, c4b0, H⟩
 ·simp only [Option.some.injEq, Prod.mk.injEq] at H
  obtain ⟨rfl, rfl⟩ := H
  obtain ⟨Ao5, co5, eo5⟩ := Kd.R_slice HO0.out
  subst eo5
  go_enter Tryz.func62, Tryz.ntmps62
  go_wp2_with (first | ((with_reducible refine gc_ 105 rfl ?_); refine gL 18 Tryz.func105 (bIorder.calls _ _ l0 _ _ l1 t126 _ ?side1 ?side2 ?side3 ?side4 A3.out) ?_; (case side1 => exact cq (Kd.R_reads' HO0.out).2.2); (case side2 => exact (Kd.R_reads' HO0.out).2.1); (case side3 => exact Kd.C_kept_now HR1.out kqs); (case side4 => exact HC1.out); rintro _ w6 ⟨rfl, hb⟩; refine ⟨_, rfl, ?_⟩; replace HO0 := fR HO0 hb; replace HK := fK HK hb; replace HB := fB HB hb; clear hb))
  go_ret2
  exact ⟨_, _, fe, by first | exact Kd.R_nil _ _ _ _ _ | exact Kd.N_nil _ _ _ _ _ | exact Kd.V_nil _ _ _ _ _ | exact Kd.Q_nil _ _ _ _ _ | exact Kd.S_nil _ _ _ _ _, by (with_reducible repeat (first | apply Kd.R_alloc | apply Kd.R_drewN | apply Kd.R_drew)); exact Kd.R_mono HO0.out (fun _ hk => ⟨hk, (by simp [Value.ownBlock])⟩), bqs, kqs⟩
 rcases je H with ⟨-, c7b0, c7b1, H⟩ | ⟨c7, c7b0, c7b1, H⟩
 ·obtain ⟨c8, c8b0, H⟩ := gd H
  have c8b1 : decide (0 < l1.length) = true := decide_eq_true (by omega)
  clear c8
  obtain ⟨⟨t128, t129⟩, A9, H⟩ := bnd H
  try dsimp only at H
  generalize hy132 : (([t129] : List Int) : List Int) = y132 at H
  have Ny132 := Z0.mk hy132.symm
  clear hy132
  obtain ⟨t135, A10, H⟩ := bnd H
  simp only [Option.some.injEq, Prod.mk.injEq] at H
  obtain ⟨rfl, rfl⟩ := H
  obtain ⟨Ao11, co11, eo11⟩ := Kd.R_slice HO0.out
  subst eo11
  go_enter Tryz.func62, Tryz.ntmps62
  go_wp2_with (first | ((with_reducible refine gc_ 105 rfl ?_); refine gL 18 Tryz.func105 (bIorder.calls _ _ l0 _ _ l1 t126 _ ?side1 ?side2 ?side3 ?side4 A3.out) ?_; (case side1 => exact cq (Kd.R_reads' HO0.out).2.2); (case side2 => exact (Kd.R_reads' HO0.out).2.1); (case side3 => exact Kd.C_kept_now HR1.out kqs); (case side4 => exact HC1.out); rintro _ w12 ⟨rfl, hb⟩; refine ⟨_, rfl, ?_⟩; replace HO0 := fR HO0 hb; replace HK := fK HK hb; replace HB := fB HB hb; clear hb; have p127 : 0 ≤ (0 : Int) := (by omega); have q127 : 0 < (l1.length : Int) := od; obtain ⟨ad127, e127, hx127_0⟩ := Kd.at_int (Kd.C_kept_now HR1.out HK.out) 0 p127 q127; cases e127; have qi127 : (0 < l1.length) = True := eq_true (by omega); (try rw [show ((0 : Int)).toNat = 0 from rfl] at hx127_0); (try rw [Addr.add_zero'] at hx127_0); replace p127 := eq_true p127; replace q127 := eq_true q127) | ((with_reducible refine gc_ 106 rfl ?_); refine gL 29 Tryz.func106 (bIshort.calls k _ _ l0 (rd l1 0) t128 t129 _ ?side1 ?side2 A9.out) ?_; (case side1 => exact cq (Kd.R_reads' HO0.out).2.2); (case side2 => exact (Kd.R_reads' HO0.out).2.1); rintro _ w13 ⟨v130, rfl, ho0, hb⟩; refine ⟨_, rfl, ?_⟩; have HO131 := Z0.mk (Kd.R_lower (Kd.R_new' (Kd.R_newM (M := fun k_ => (P0_ k_ ∨ w.heap.size ≤ k_)) ho0 (by first | exact HK.out.1 | exact (show Kept w _ (fun k_ => P0_ k_) from kqs).1) (fun k_ h_ => .inr h_)) (Kd.R_lt (rq HO0))) (below_size bqs)); replace HO0 := Z0.mk (Kd.R_elder' (rq HO0) (Kd.R_base ho0) hb); replace HK := fK HK hb; replace HB := fB HB hb; clear hb ho0) | ((with_reducible refine gd_ 34 rfl ?_); refine Kd.R_lit (Kd.int .i64) _ 3 ?hg (N := 34) ?hd (xs := ([t129] : List Int)) (inner := [.int .i64 t129]) (ok := fun _ => True) (okp := fun _ => True) ?hr ?hp (fun _ hk => hk) trivial (Below.refl _ _) (Nat.le_refl _) (by simp) ?_; (case hd => rfl); (case hg => rfl); (case hr => first | (go_simp; done) | (go_simp; rfl)); (case hp => exact (Reps.one (show Kd.M (Kd.int .i64) _ _ _ t129 [.int .i64 t129] from rfl) (Reps.none _ _))); intro v133 w14 ho15 hb hg_ hnew_; clear hg_ hnew_; (first | rw [← Ny132.out] at ho15 | (simp only [Int.reduceToNat] at ho15; rw [← Ny132.out] at ho15)); have HO134 := Z0.mk (Kd.R_lower (Kd.R_new' (Kd.R_new' (Kd.R_newM (M := fun k_ => (P0_ k_ ∨ w.heap.size ≤ k_)) ho15 (by first | exact HK.out.1 | exact (show Kept w _ (fun k_ => P0_ k_) from kqs).1) (fun k_ h_ => .inr h_)) (Kd.R_lt (rq HO0))) (Kd.R_lt (rq HO131))) (below_size bqs)); replace HO0 := Z0.mk (Kd.R_elder' (rq HO0) (Kd.R_base ho15) hb); replace HO131 := Z0.mk (Kd.R_elder' (rq HO131) (Kd.R_base ho15) hb); replace HK := fK HK hb; replace HB := fB HB hb; clear hb ho15; obtain ⟨Ao16, co16, eo16⟩ := Kd.R_slice HO134.out; subst eo16) | ((with_reducible refine gc_ 107 rfl ?_); refine gL 35 Tryz.func107 (bItrim.calls k (fun k_ => some k_ = (.slice Ao16 y132.length co16 : Value).ownBlock) (.slice Ao16 y132.length co16) y132 t135 w0 _ ?side1 ?side2 A10.out) ?_; (case side1 => repeat (first | (with_reducible first | exact HB.out | apply below_alloc | apply pw_below_drewN | apply below_drew1) | exact HB.out)); (case side2 => exact Kd.R_tight rfl HO134.out); rintro _ w17 ⟨v136, rfl, ho0, hb, hkp⟩; refine ⟨_, rfl, ?_⟩; have HO137 := Z0.mk (Kd.R_mono (ok' := fun k_ => (P0_ k_ ∨ w.heap.size ≤ k_) ∧ some k_ ≠ (.slice Ao11 l0.length co11 : Value).ownBlock ∧ some k_ ≠ (v130 : Value).ownBlock) ho0 (fun k_ hk_ => ⟨Or.elim hk_ (fun hs_ => (HO134.out.1 k_ (hs_).symm).1.1.1) (fun hn_ => (.inr (Nat.le_trans (by first | exact HK.out.1 | exact (show Kept w _ (fun k_ => P0_ k_) from kqs).1) hn_))), Or.elim hk_ (fun hs_ => fun e_ => (((HO0.out).1 k_ e_.symm).2) hs_) (fun hn_ => (Kd.fresh' (Kd.R_lt (rq HO0)) k_ hn_)), Or.elim hk_ (fun hs_ => fun e_ => (((HO131.out).1 k_ e_.symm).2) hs_) (fun hn_ => (Kd.fresh' (Kd.R_lt (rq HO131)) k_ hn_))⟩)); replace HO0 := Z0.mk (Kd.R_mono (ok' := fun k_ => (P0_ k_ ∨ w.heap.size ≤ k_) ∧ some k_ ≠ (v130 : Value).ownBlock ∧ some k_ ≠ (v136 : Value).ownBlock) (Kd.R_keptB (HO0.out) hkp (fun k_ hk_ hs_ => (hk_.2) hs_)) (fun k_ hk_ => ⟨hk_.1.1.1, hk_.1.1.2, fun e_ => Or.elim (ho0.1 k_ e_.symm) (fun hs_ => hk_.2.1 hs_) (fun hn_ => Nat.not_le.2 hk_.2.2 hn_)⟩)); replace HO131 := Z0.mk (Kd.R_mono (ok' := fun k_ => (P0_ k_ ∨ w.heap.size ≤ k_) ∧ some k_ ≠ (.slice Ao11 l0.length co11 : Value).ownBlock ∧ some k_ ≠ (v136 : Value).ownBlock) (Kd.R_keptB (HO131.out) hkp (fun k_ hk_ hs_ => (hk_.2) hs_)) (fun k_ hk_ => ⟨hk_.1.1.1.1, hk_.1.1.2, fun e_ => Or.elim (ho0.1 k_ e_.symm) (fun hs_ => hk_.2.1 hs_) (fun hn_ => Nat.not_le.2 hk_.2.2 hn_)⟩)); replace HK := Z0.mk (Kept.then_ (S := (fun k_ => P0_ k_)) kqs hkp (fun k_ hs_ => (fun e_ => (HO134.out.1 k_ e_.symm).1.1.1) hs_)); replace HB := Z0.mk (hb); clear HO134; clear hb hkp ho0))
  go_ret2
  exact ⟨_, _, fe, by (with_reducible repeat (first | apply Kd.R_alloc | apply Kd.R_drewN | apply Kd.R_drew)); exact Kd.R_mono HO131.out (fun _ hk => ⟨hk.1, hk.2.2⟩), by (with_reducible repeat (first | apply Kd.R_alloc | apply Kd.R_drewN | apply Kd.R_drew)); exact Kd.R_mono HO137.out (fun _ hk => ⟨hk.1, hk.2.2⟩), bqs, kqs⟩
 obtain ⟨ji18, hji18⟩ : ∃ j_ : Int, (wrap64 ((l1.length : Int) - 1)) = j_ := ⟨_, rfl⟩
 replace H : (if 0 ≤ (ji18) then (if (ji18) < (l1.length : Int) then (if (wrap64 ((rd l1 (ji18)) + 1)) = 0 then (none) else ((some (([wrap64 (Int.tdiv 1000000000 (wrap64 ((rd l1 (ji18)) + 1)))] : List Int) : List Int)).bind fun y139 => ((bItimes.f k l0 y139).bind fun t142 => (if t142.length < 17592186044416 then ((bItimes.f k l1 y139).bind fun t148 => (bIdivide.l0 k l0 y139 (t142 ++ [0]) t148)) else (none))))) else (none)) else (none)) = some (r1, r2) := by first | (rw [hji18] at H; exact H) | (simp only [hji18] at H ⊢; exact H)
 (try rw [hji18] at A3)
 have hji18w : (IntKind.i64.wrap ((l1.length : Int) - 1)) = ji18 := (i64_w _).trans hji18
 obtain ⟨-, c19b0, H⟩ := gd H
 obtain ⟨-, c20b0, H⟩ := gd H
 obtain ⟨c21, c21b0, c21b1, H⟩ := fQ H
 obtain ⟨y139, Ny139, H⟩ := yb H
 obtain ⟨t142, A22, H⟩ := bnd H
 obtain ⟨c23, H⟩ := gn H
 have LMc23 := Z0.mk c23
 clear c23
 generalize hy145 : (t142 ++ [0] : List Int) = y145 at H
 have Ny145 := Z0.mk hy145.symm
 clear hy145
 obtain ⟨t148, A24, H⟩ := bnd H
 have H' := Z0.mk H
 clear H
 obtain ⟨Ao25, co25, eo25⟩ := Kd.R_slice HO0.out
 subst eo25
 go_enter Tryz.func62, Tryz.ntmps62
 go_wp2_with (first | ((with_reducible refine gc_ 105 rfl ?_); refine gL 18 Tryz.func105 (bIorder.calls _ _ l0 _ _ l1 t126 _ ?side1 ?side2 ?side3 ?side4 A3.out) ?_; (case side1 => exact cq (Kd.R_reads' HO0.out).2.2); (case side2 => exact (Kd.R_reads' HO0.out).2.1); (case side3 => exact Kd.C_kept_now HR1.out kqs); (case side4 => exact HC1.out); rintro _ w26 ⟨rfl, hb⟩; refine ⟨_, rfl, ?_⟩; replace HO0 := fR HO0 hb; replace HK := fK HK hb; replace HB := fB HB hb; clear hb; have p138 : 0 ≤ ((ji18) : Int) := od; have q138 : (ji18) < (l1.length : Int) := od; obtain ⟨ad138, e138, hx138_0⟩ := Kd.at_int (Kd.C_kept_now HR1.out HK.out) (ji18) p138 q138; cases e138; replace p138 := eq_true p138; replace q138 := eq_true q138) | ((with_reducible refine gd_ 44 rfl ?_); refine Kd.R_lit (Kd.int .i64) _ 3 ?hg (N := 44) ?hd (xs := ([wrap64 (Int.tdiv 1000000000 (wrap64 ((rd l1 (ji18)) + 1)))] : List Int)) (inner := [.int .i64 (wrap64 (Int.tdiv 1000000000 (wrap64 ((rd l1 (ji18)) + 1))))]) (ok := fun _ => True) (okp := fun _ => True) ?hr ?hp (fun _ hk => hk) trivial (Below.refl _ _) (Nat.le_refl _) (by simp) ?_; (case hd => rfl); (case hg => rfl); (case hr => first | (go_simp; done) | (go_simp; rfl)); (case hp => exact (Reps.one (show Kd.M (Kd.int .i64) _ _ _ (wrap64 (Int.tdiv 1000000000 (wrap64 ((rd l1 (ji18)) + 1)))) [.int .i64 (wrap64 (Int.tdiv 1000000000 (wrap64 ((rd l1 (ji18)) + 1))))] from rfl) (Reps.none _ _))); intro v140 w27 ho28 hb hg_ hnew_; clear hg_ hnew_; (first | rw [← Ny139.out] at ho28 | (simp only [Int.reduceToNat] at ho28; rw [← Ny139.out] at ho28)); have HO141 := Z0.mk (Kd.R_lower (Kd.R_new' (Kd.R_newM (M := fun k_ => (P0_ k_ ∨ w.heap.size ≤ k_)) ho28 (by first | exact HK.out.1 | exact (show Kept w _ (fun k_ => P0_ k_) from kqs).1) (fun k_ h_ => .inr h_)) (Kd.R_lt (rq HO0))) (below_size bqs)); replace HO0 := Z0.mk (Kd.R_elder' (rq HO0) (Kd.R_base ho28) hb); replace HK := fK HK hb; replace HB := fB HB hb; clear hb ho28; obtain ⟨Ao29, co29, eo29⟩ := Kd.R_slice HO141.out; subst eo29) | ((with_reducible refine gc_ 65 rfl ?_); refine gL 47 Tryz.func65 (bItimes.calls k _ _ l0 _ _ y139 t142 _ ?side1 ?side2 ?side3 ?side4 A22.out) ?_; (case side1 => exact cq (Kd.R_reads' HO0.out).2.2); (case side2 => exact (Kd.R_reads' HO0.out).2.1); (case side3 => exact cq (Kd.R_reads' HO141.out).2.2); (case side4 => exact (Kd.R_reads' HO141.out).2.1); rintro _ w30 ⟨v143, rfl, ho0, hb⟩; refine ⟨_, rfl, ?_⟩; have HO144 := Z0.mk (Kd.R_lower (Kd.R_new' (Kd.R_new' (Kd.R_newM (M := fun k_ => (P0_ k_ ∨ w.heap.size ≤ k_)) ho0 (by first | exact HK.out.1 | exact (show Kept w _ (fun k_ => P0_ k_) from kqs).1) (fun k_ h_ => .inr h_)) (Kd.R_lt (rq HO0))) (Kd.R_lt (rq HO141))) (below_size bqs)); replace HO0 := Z0.mk (Kd.R_elder' (rq HO0) (Kd.R_base ho0) hb); replace HO141 := Z0.mk (Kd.R_elder' (rq HO141) (Kd.R_base ho0) hb); replace HK := fK HK hb; replace HB := fB HB hb; clear hb ho0) | ((with_reducible refine gate_builtin (b := .append) (xs := #[.tmp 47, .tmp 48]) rfl ?_); at_builtin; refine Kd.R_append (Kd.int .i64) (w0 := w0) w0.heap.size rfl (.tmp 47) (.tmp 48) 78 3 (.int .i64 0) 8 rfl Tryz.underlying78 info3 rfl (by decide) (by omega) v143 t142 0 [.int .i64 0] (fun k_ => (P0_ k_ ∨ w.heap.size ≤ k_) ∧ some k_ ≠ (.slice Ao25 l0.length co25 : Value).ownBlock ∧ some k_ ≠ (.slice Ao29 y139.length co29 : Value).ownBlock) (fun _ => False) rfl rfl ?aP (fun _ hk => hk.elim) ?aF ?aO ?aB ?aS ?aL ?_; (case aP => exact rfl); (case aB => exact bqs); (case aF => exact (fun k_ hk => ⟨(.inr (Nat.le_trans (by first | exact HK.out.1 | exact (show Kept w _ (fun k_ => P0_ k_) from kqs).1) hk)), Kd.fresh' (Kd.R_lt (rq HO0)) k_ hk, Kd.fresh' (Kd.R_lt (rq HO141)) k_ hk⟩)); (case aO => exact (by (with_reducible repeat (first | apply Kd.R_alloc | apply Kd.R_drewN | apply Kd.R_drew)); exact Kd.R_mono HO144.out (fun _ hk => ⟨hk.1.1.1, ⟨hk.1.2, hk.2⟩⟩))); (case aS => exact (below_size bqs)); (case aL => have := LMc23.out; omega); intro v146 w31 ho hb hg hat; rw [← Ny145.out] at ho; have HO147 := Z0.mk (ho); replace HO0 := Z0.mk (Kd.R_after (ok := (fun k_ => (P0_ k_ ∨ w.heap.size ≤ k_) ∧ some k_ ≠ (.slice Ao29 y139.length co29 : Value).ownBlock)) (rq HO0) hg hat); replace HO141 := Z0.mk (Kd.R_after (ok := (fun k_ => (P0_ k_ ∨ w.heap.size ≤ k_) ∧ some k_ ≠ (.slice Ao25 l0.length co25 : Value).ownBlock)) (by (with_reducible repeat (first | apply Kd.R_alloc | apply Kd.R_drewN | apply Kd.R_drew)); exact Kd.R_mono HO141.out (fun _ hk => ⟨⟨hk.1.1.1, hk.1.2⟩, hk.2⟩)) hg hat); replace HK := Z0.mk (Kept.of_grown (S := (fun k_ => P0_ k_)) hg kqs (fun k_ e_ => (HO144.out.1 k_ e_).1.1.1)); replace HB := Z0.mk (hb); clear HO144; clear ho hb hg hat) | ((with_reducible refine gc_ 65 rfl ?_); refine gL 52 Tryz.func65 (bItimes.calls k _ _ l1 _ _ y139 t148 _ ?side1 ?side2 ?side3 ?side4 A24.out) ?_; (case side1 => exact Kd.C_kept_now HR1.out kqs); (case side2 => exact HC1.out); (case side3 => exact cq (Kd.R_reads' HO141.out).2.2); (case side4 => exact (Kd.R_reads' HO141.out).2.1); rintro _ w32 ⟨v149, rfl, ho0, hb⟩; refine ⟨_, rfl, ?_⟩; have HO150 := Z0.mk (Kd.R_lower (Kd.R_new' (Kd.R_new' (Kd.R_new' (Kd.R_newM (M := fun k_ => (P0_ k_ ∨ w.heap.size ≤ k_)) ho0 (by first | exact HK.out.1 | exact (show Kept w _ (fun k_ => P0_ k_) from kqs).1) (fun k_ h_ => .inr h_)) (Kd.R_lt (rq HO0))) (Kd.R_lt (rq HO141))) (Kd.R_lt (rq HO147))) (below_size bqs)); replace HO0 := Z0.mk (Kd.R_elder' (rq HO0) (Kd.R_base ho0) hb); replace HO141 := Z0.mk (Kd.R_elder' (rq HO141) (Kd.R_base ho0) hb); replace HO147 := Z0.mk (Kd.R_elder' (rq HO147) (Kd.R_base ho0) hb); replace HK := fK HK hb; replace HB := fB HB hb; clear hb ho0))
 go_loopg [9] k (fun kq v9 w' => ∃ (x9_1 : List Int), Z0 (bIdivide.l0 kq l0 y139 x9_1 t148 = some (r1, r2)) ∧ Z0 (kq ≤ k) ∧ Z0 (Kd.R (Kd.int .i64) 3 w' w0.heap.size (fun k_ => (P0_ k_ ∨ w.heap.size ≤ k_) ∧ some k_ ≠ ((.slice Ao29 y139.length co29) : Value).ownBlock ∧ some k_ ≠ (v9 : Value).ownBlock ∧ some k_ ≠ (v149 : Value).ownBlock) (.slice Ao25 l0.length co25) l0) ∧ Z0 (Kd.R (Kd.int .i64) 3 w' w0.heap.size (fun k_ => (P0_ k_ ∨ w.heap.size ≤ k_) ∧ some k_ ≠ ((.slice Ao25 l0.length co25) : Value).ownBlock ∧ some k_ ≠ (v9 : Value).ownBlock ∧ some k_ ≠ (v149 : Value).ownBlock) (.slice Ao29 y139.length co29) y139) ∧ Z0 (Kd.R (Kd.int .i64) 3 w' w0.heap.size (fun k_ => (P0_ k_ ∨ w.heap.size ≤ k_) ∧ some k_ ≠ ((.slice Ao25 l0.length co25) : Value).ownBlock ∧ some k_ ≠ ((.slice Ao29 y139.length co29) : Value).ownBlock ∧ some k_ ≠ (v149 : Value).ownBlock) v9 x9_1) ∧ Z0 (Kd.R (Kd.int .i64) 3 w' w0.heap.size (fun k_ => (P0_ k_ ∨ w.heap.size ≤ k_) ∧ some k_ ≠ ((.slice Ao25 l0.length co25) : Value).ownBlock ∧ some k_ ≠ ((.slice Ao29 y139.length co29) : Value).ownBlock ∧ some k_ ≠ (v9 : Value).ownBlock) v149 t148) ∧ Z0 (Kept w w' (fun k_ => P0_ k_)) ∧ Z0 (Below w0.heap.size w0 w'))
 case atStart => exact ⟨(y145), H', ⟨Nat.le_refl _⟩, ⟨by (with_reducible repeat (first | apply Kd.R_alloc | apply Kd.R_drewN | apply Kd.R_drew)); exact Kd.R_mono HO0.out (fun _ hk => ⟨hk.1.1.1, ⟨hk.1.1.2, ⟨hk.1.2, hk.2⟩⟩⟩)⟩, ⟨by (with_reducible repeat (first | apply Kd.R_alloc | apply Kd.R_drewN | apply Kd.R_drew)); exact Kd.R_mono HO141.out (fun _ hk => ⟨hk.1.1.1, ⟨hk.1.1.2, ⟨hk.1.2, hk.2⟩⟩⟩)⟩, ⟨by (with_reducible repeat (first | apply Kd.R_alloc | apply Kd.R_drewN | apply Kd.R_drew)); exact Kd.R_mono HO147.out (fun _ hk => ⟨hk.1.1, ⟨hk.1.2.1, ⟨hk.1.2.2, hk.2⟩⟩⟩)⟩, ⟨by (with_reducible repeat (first | apply Kd.R_alloc | apply Kd.R_drewN | apply Kd.R_drew)); exact Kd.R_mono HO150.out (fun _ hk => ⟨hk.1.1.1.1, ⟨hk.1.1.2, ⟨hk.1.2, hk.2⟩⟩⟩)⟩, ⟨kqs⟩, ⟨bqs⟩⟩
 case round =>
  clear H'
  try clear c1
  try clear p1
  try clear q1
  try clear hx1
  try clear qi1
  try clear c2
  try clear p2
  try clear c4
  try clear c4b0
  try clear p6
  try clear c7
  try clear c7b0
  try clear c7b1
  try clear c8
  try clear c8b0
  try clear c8b1
  try clear c10
  try clear p12
  try clear q12
  try clear hx12
  try clear qi12
  try clear p13
  try clear q13
  try clear hx13
  try clear c14
  try clear c19
  try clear c19b0
  try clear c20
  try clear c20b0
  try clear c21
  try clear c21b0
  try clear c21b1
  try clear c23
  try clear hx127_0
  try clear hx138_0
  try clear p127
  try clear p138
  try clear q127
  try clear q138
  obtain ⟨x9_1, HA, HK1, HO_0, HO_8, HO_9, HO_10, HK, HB⟩ := hrel
  cases gk with
  | zero => exact absurd HA.out (by simp [bIdivide.l0])
  | succ k1 =>
   have H := HA.out
   clear HA
   simp only [bIdivide.l0] at H
   rcases jd H with ⟨c33, c33b0, H⟩ | ⟨c33, c33b0, H⟩
   ·have c33b1 : decide (x9_1.length ≤ l0.length) = true := decide_eq_true (Int.ofNat_le.mp c33)
    clear c33
    obtain ⟨c34, H⟩ := gn H
    have LMc34 := Z0.mk c34
    clear c34
    generalize hy151 : (x9_1 ++ [0] : List Int) = y151 at H
    have Ny151 := Z0.mk hy151.symm
    clear hy151
    have H' := Z0.mk H
    clear H
    obtain ⟨Ao35, co35, eo35⟩ := Kd.R_slice HO_9.out
    subst eo35
    go_wp2_with (first | ((with_reducible refine gate_builtin (b := .append) (xs := #[.tmp 58, .tmp 59]) rfl ?_); at_builtin; refine Kd.R_append (Kd.int .i64) (w0 := w0) w0.heap.size rfl (.tmp 58) (.tmp 59) 78 3 (.int .i64 0) 8 rfl Tryz.underlying78 info3 rfl (by decide) (by omega) (.slice Ao35 x9_1.length co35) x9_1 0 [.int .i64 0] (fun k_ => (P0_ k_ ∨ w.heap.size ≤ k_) ∧ some k_ ≠ (.slice Ao25 l0.length co25 : Value).ownBlock ∧ some k_ ≠ (.slice Ao29 y139.length co29 : Value).ownBlock ∧ some k_ ≠ (v149 : Value).ownBlock) (fun _ => False) rfl rfl ?aP (fun _ hk => hk.elim) ?aF ?aO ?aB ?aS ?aL ?_; (case aP => exact rfl); (case aB => exact bqs); (case aF => exact (fun k_ hk => ⟨(.inr (Nat.le_trans (by first | exact HK.out.1 | exact (show Kept w _ (fun k_ => P0_ k_) from kqs).1) hk)), Kd.fresh' (Kd.R_lt (rq HO_0)) k_ hk, Kd.fresh' (Kd.R_lt (rq HO_8)) k_ hk, Kd.fresh' (Kd.R_lt (rq HO_10)) k_ hk⟩)); (case aO => exact (rq HO_9)); (case aS => exact (below_size bqs)); (case aL => have := LMc34.out; omega); intro v152 w36 ho hb hg hat; rw [← Ny151.out] at ho; have HO153 := Z0.mk (ho); replace HO_0 := Z0.mk (Kd.R_after (ok := (fun k_ => (P0_ k_ ∨ w.heap.size ≤ k_) ∧ some k_ ≠ (.slice Ao29 y139.length co29 : Value).ownBlock ∧ some k_ ≠ (v149 : Value).ownBlock)) (by (with_reducible repeat (first | apply Kd.R_alloc | apply Kd.R_drewN | apply Kd.R_drew)); exact Kd.R_mono HO_0.out (fun _ hk => ⟨⟨hk.1, ⟨hk.2.1, hk.2.2.2⟩⟩, hk.2.2.1⟩)) hg hat); replace HO_8 := Z0.mk (Kd.R_after (ok := (fun k_ => (P0_ k_ ∨ w.heap.size ≤ k_) ∧ some k_ ≠ (.slice Ao25 l0.length co25 : Value).ownBlock ∧ some k_ ≠ (v149 : Value).ownBlock)) (by (with_reducible repeat (first | apply Kd.R_alloc | apply Kd.R_drewN | apply Kd.R_drew)); exact Kd.R_mono HO_8.out (fun _ hk => ⟨⟨hk.1, ⟨hk.2.1, hk.2.2.2⟩⟩, hk.2.2.1⟩)) hg hat); replace HO_10 := Z0.mk (Kd.R_after (ok := (fun k_ => (P0_ k_ ∨ w.heap.size ≤ k_) ∧ some k_ ≠ (.slice Ao25 l0.length co25 : Value).ownBlock ∧ some k_ ≠ (.slice Ao29 y139.length co29 : Value).ownBlock)) (by (with_reducible repeat (first | apply Kd.R_alloc | apply Kd.R_drewN | apply Kd.R_drew)); exact Kd.R_mono HO_10.out (fun _ hk => ⟨⟨hk.1, ⟨hk.2.1, hk.2.2.1⟩⟩, hk.2.2.2⟩)) hg hat); replace HK := Z0.mk (Kept.of_grown (S := (fun k_ => P0_ k_)) hg kqs (fun k_ e_ => (HO_9.out.1 k_ e_).1)); replace HB := Z0.mk (hb); clear HO_9; clear ho hb hg hat))
    go_roundg k1
    case measure => have := HK1.out; omega
    case rel => exact ⟨(y151), H', ⟨by have := HK1.out; omega⟩, ⟨by (with_reducible repeat (first | apply Kd.R_alloc | apply Kd.R_drewN | apply Kd.R_drew)); exact Kd.R_mono HO_0.out (fun _ hk => ⟨hk.1.1, ⟨hk.1.2.1, ⟨hk.2, hk.1.2.2⟩⟩⟩)⟩, ⟨by (with_reducible repeat (first | apply Kd.R_alloc | apply Kd.R_drewN | apply Kd.R_drew)); exact Kd.R_mono HO_8.out (fun _ hk => ⟨hk.1.1, ⟨hk.1.2.1, ⟨hk.2, hk.1.2.2⟩⟩⟩)⟩, ⟨rq HO153⟩, ⟨by (with_reducible repeat (first | apply Kd.R_alloc | apply Kd.R_drewN | apply Kd.R_drew)); exact Kd.R_mono HO_10.out (fun _ hk => ⟨hk.1.1, ⟨hk.1.2.1, ⟨hk.1.2.2, hk.2⟩⟩⟩)⟩, ⟨kqs⟩, ⟨bqs⟩⟩
   have c33b1 : decide (x9_1.length ≤ l0.length) = false := decide_eq_false (fun h => c33 (Int.ofNat_le.mpr h))
   clear c33
   obtain ⟨ji37, hji37⟩ : ∃ j_ : Int, (wrap64 ((x9_1.length : Int) - (t148.length : Int))) = j_ := ⟨_, rfl⟩
   replace H : (if 0 ≤ (ji37) then (if (ji37 : Int).toNat ≤ 35184372088832 then (bIdivide.l1 k1 y139 x9_1 t148 (List.replicate (ji37 : Int).toNat 0) (wrap64 ((ji37) - 1))) else (none)) else (none)) = some (r1, r2) := by first | (rw [hji37] at H; exact H) | (simp only [hji37] at H ⊢; exact H)
   have hji37w : (IntKind.i64.wrap ((x9_1.length : Int) - (t148.length : Int))) = ji37 := (i64_w _).trans hji37
   obtain ⟨-, c38b0, c38b1, H⟩ := gt H
   obtain ⟨-, c39b0, c39b1, H⟩ := gt H
   generalize hy154 : (List.replicate (ji37 : Int).toNat 0 : List Int) = y154 at H
   have Ny154 := Z0.mk hy154.symm
   clear hy154
   have H' := Z0.mk H
   clear H
   obtain ⟨Ao40, co40, eo40⟩ := Kd.R_slice HO_9.out
   subst eo40
   obtain ⟨Ao41, co41, eo41⟩ := Kd.R_slice HO_10.out
   subst eo41
   go_wp2_with (first | ((with_reducible refine gd_ 67 rfl ?_); refine Kd.R_make (Kd.int .i64) _ 3 rfl (N := 67) rfl 78 _ _ rfl ji37 rfl rfl Tryz.underlying78 (.int .i64 0) 8 info3 rfl (by decide) (by omega) 0 (ok := fun _ => True) (okp := fun _ => True) rfl (fun _ hk => hk) trivial od (Nat.le_trans (Nat.mul_le_mul_right _ (od : ji37.toNat ≤ 35184372088832)) (by omega)) (Below.refl _ _) (Nat.le_refl _) ?_; intro v155 w42 ho43 hb hg_ hnew_; clear hg_ hnew_; (first | rw [← Ny154.out] at ho43 | (simp only [Int.reduceToNat] at ho43; rw [← Ny154.out] at ho43)); have HO156 := Z0.mk (Kd.R_lower (Kd.R_new' (Kd.R_new' (Kd.R_new' (Kd.R_new' (Kd.R_newM (M := fun k_ => (P0_ k_ ∨ w.heap.size ≤ k_)) ho43 (by first | exact HK.out.1 | exact (show Kept w _ (fun k_ => P0_ k_) from kqs).1) (fun k_ h_ => .inr h_)) (Kd.R_lt (rq HO_0))) (Kd.R_lt (rq HO_8))) (Kd.R_lt (rq HO_9))) (Kd.R_lt (rq HO_10))) (below_size bqs)); replace HO_0 := Z0.mk (Kd.R_elder' (rq HO_0) (Kd.R_base ho43) hb); replace HO_8 := Z0.mk (Kd.R_elder' (rq HO_8) (Kd.R_base ho43) hb); replace HO_9 := Z0.mk (Kd.R_elder' (rq HO_9) (Kd.R_base ho43) hb); replace HO_10 := Z0.mk (Kd.R_elder' (rq HO_10) (Kd.R_base ho43) hb); replace HK := fK HK hb; replace HB := fB HB hb; clear hb ho43))
   go_loopg [13] k1 (fun kq v13 w' => ∃ (x9_2 : List Int) (x12_2 : List Int) (x13_2 : Int), v13 = .int .i64 x13_2 ∧ Z0 (bIdivide.l1 kq y139 x9_2 t148 x12_2 x13_2 = some (r1, r2)) ∧ Z0 (kq ≤ k1) ∧ Z0 (Kd.R (Kd.int .i64) 3 w' w0.heap.size (fun k_ => (P0_ k_ ∨ w.heap.size ≤ k_) ∧ some k_ ≠ ((.slice Ao40 x9_1.length co40) : Value).ownBlock ∧ some k_ ≠ ((.slice Ao41 t148.length co41) : Value).ownBlock ∧ some k_ ≠ (v155 : Value).ownBlock) (.slice Ao29 y139.length co29) y139) ∧ Z0 (Kd.R (Kd.int .i64) 3 w' w0.heap.size (fun k_ => (P0_ k_ ∨ w.heap.size ≤ k_) ∧ some k_ ≠ ((.slice Ao29 y139.length co29) : Value).ownBlock ∧ some k_ ≠ ((.slice Ao41 t148.length co41) : Value).ownBlock ∧ some k_ ≠ (v155 : Value).ownBlock) (.slice Ao40 x9_1.length co40) x9_2) ∧ Z0 (Kd.R (Kd.int .i64) 3 w' w0.heap.size (fun k_ => (P0_ k_ ∨ w.heap.size ≤ k_) ∧ some k_ ≠ ((.slice Ao29 y139.length co29) : Value).ownBlock ∧ some k_ ≠ ((.slice Ao40 x9_1.length co40) : Value).ownBlock ∧ some k_ ≠ (v155 : Value).ownBlock) (.slice Ao41 t148.length co41) t148) ∧ Z0 (Kd.R (Kd.int .i64) 3 w' w0.heap.size (fun k_ => (P0_ k_ ∨ w.heap.size ≤ k_) ∧ some k_ ≠ ((.slice Ao29 y139.length co29) : Value).ownBlock ∧ some k_ ≠ ((.slice Ao40 x9_1.length co40) : Value).ownBlock ∧ some k_ ≠ ((.slice Ao41 t148.length co41) : Value).ownBlock) v155 x12_2) ∧ Z0 (Kept w w' (fun k_ => P0_ k_)) ∧ Z0 (Below w0.heap.size w0 w'))
   case atStart => exact ⟨(x9_1), (y154), (wrap64 ((ji37) - 1)), (by first | rfl | (simp; done) | (simp only [← hji37] <;> (first | rfl | simp)) | (simp [*]; done)), H', ⟨Nat.le_refl _⟩, ⟨by (with_reducible repeat (first | apply Kd.R_alloc | apply Kd.R_drewN | apply Kd.R_drew)); exact Kd.R_mono HO_8.out (fun _ hk => ⟨hk.1.1, ⟨hk.1.2.2.1, ⟨hk.1.2.2.2, hk.2⟩⟩⟩)⟩, ⟨by (with_reducible repeat (first | apply Kd.R_alloc | apply Kd.R_drewN | apply Kd.R_drew)); exact Kd.R_mono HO_9.out (fun _ hk => ⟨hk.1.1, ⟨hk.1.2.2.1, ⟨hk.1.2.2.2, hk.2⟩⟩⟩)⟩, ⟨by (with_reducible repeat (first | apply Kd.R_alloc | apply Kd.R_drewN | apply Kd.R_drew)); exact Kd.R_mono HO_10.out (fun _ hk => ⟨hk.1.1, ⟨hk.1.2.2.1, ⟨hk.1.2.2.2, hk.2⟩⟩⟩)⟩, ⟨by (with_reducible repeat (first | apply Kd.R_alloc | apply Kd.R_drewN | apply Kd.R_drew)); exact Kd.R_mono HO156.out (fun _ hk => ⟨hk.1.1.1.1.1, ⟨hk.1.1.2, ⟨hk.1.2, hk.2⟩⟩⟩)⟩, ⟨kqs⟩, ⟨bqs⟩⟩
   case round =>
    clear H'
    try clear c1
    try clear p1
    try clear q1
    try clear hx1
    try clear qi1
    try clear c2
    try clear p2
    try clear c3
    try clear c4
    try clear c4b0
    try clear p6
    try clear c7
    try clear c7b0
    try clear c7b1
    try clear c8
    try clear c8b0
    try clear c8b1
    try clear c10
    try clear p12
    try clear q12
    try clear hx12
    try clear qi12
    try clear p13
    try clear q13
    try clear hx13
    try clear c14
    try clear c19
    try clear c19b0
    try clear c20
    try clear c20b0
    try clear c21
    try clear c21b0
    try clear c21b1
    try clear c23
    try clear c33
    try clear c33b0
    try clear c33b1
    try clear c34
    try clear c38
    try clear c38b0
    try clear c38b1
    try clear c39
    try clear c39b0
    try clear c39b1
    try clear hx127_0
    try clear hx138_0
    try clear p1
    try clear p12
    try clear p127
    try clear p13
    try clear p138
    try clear p2
    try clear p6
    try clear q1
    try clear q12
    try clear q127
    try clear q13
    try clear q138
    obtain ⟨x9_2, x12_2, x13_2, rfl, HA, HK2, HO_8, HO_9, HO_10, HO_12, HK, HB⟩ := hrel
    have hl9_2 := (Kd.R_reads' HO_9.out).1
    rw [hl9_2] at HO_9
    (try simp only [hl9_2])
    (try simp only [hl9_2] at HO_8)
    (try simp only [hl9_2] at HO_10)
    (try simp only [hl9_2] at HO_12)
    cases gk with
    | zero => exact absurd HA.out (by simp [bIdivide.l1])
    | succ k2 =>
     have H := HA.out
     clear HA
     simp only [bIdivide.l1] at H
     rcases jh H with ⟨-, c44b0, H⟩ | ⟨-, c44b0, H⟩
     ·obtain ⟨⟨t157, t158⟩, A45, H⟩ := bnd H
      try dsimp only at H
      obtain ⟨-, c46b0, H⟩ := gd H
      obtain ⟨c47, c47b0, H⟩ := gd H
      (try (have c47b0_ := c47b0; rw [hl9_2] at c47b0_))
      clear c47
      generalize hy159 : (x12_2.set (x13_2 : Int).toNat t157 : List Int) = y159 at H
      have Ny159 := Z0.mk hy159.symm
      clear hy159
      have H' := Z0.mk H
      clear H
      obtain ⟨ew1_, ew2_⟩ := bIestimateW.ok A45.out
      obtain ⟨gE, cE, eE, gbE, glE, clE, HGE⟩ := Kd.R_form HO_9.out (by omega)
      (first | cases eE | (injection eE with ea_ en_ ec_; (first | subst ea_ | (injection ea_ with ea_; subst ea_)); subst ec_; clear en_))
      obtain ⟨hnE_, hcE_, _⟩ := Kd.R_reads' HO_9.out
      have hmE_ := Kd.C_max (Kd.R_reads' HO_9.out).2.2
      have hw1_ : IntKind.i64.wrap (x13_2 + (t148.length : Int)) = x13_2 + (t148.length : Int) := by rw [IntKind.wrap_i64]; omega
      have hw2_ : IntKind.i64.wrap (x13_2 + (t148.length : Int) + 1) = x13_2 + (t148.length : Int) + 1 := by rw [IntKind.wrap_i64]; omega
      have hw3_ : wrap64 (x13_2 + (t148.length : Int)) = x13_2 + (t148.length : Int) := by rw [← i64_w]; exact hw1_
      have hb1_ : decide (x13_2 ≤ x13_2 + (t148.length : Int) + 1) = true := decide_eq_true (by omega)
      have hb2_ : decide (x13_2 + (t148.length : Int) + 1 ≤ (co40 : Int)) = true := decide_eq_true (by omega)
      have hb3_ : x13_2 + (t148.length : Int) + 1 ≤ (co40 : Int) := by omega
      have hb4_ : x13_2 ≤ x13_2 + (t148.length : Int) + 1 := by omega
      have hwn_ : (x13_2 + (t148.length : Int) + 1).toNat - x13_2.toNat = t148.length + 1 := by omega
      clear hmE_
      go_wp2_with (first | ((with_reducible refine gc_ 108 rfl ?_); refine gL 87 Tryz.func108 (bIestimateW.calls _ t148 rfl k2 (fun k_ => some k_ = (.slice (some ⟨gE, 0, none⟩) x9_2.length co40 : Value).ownBlock) gE co40 x9_2 x13_2 _ _ t157 t158 w0 _ ?side1 ?side2 ?side3 ?side4 A45.out) ?_; (case side1 => repeat (first | (with_reducible first | exact HB.out | apply below_alloc | apply pw_below_drewN | apply below_drew1) | exact HB.out)); (case side2 => exact Kd.R_tight rfl HO_9.out); (case side3 => exact Kd.C_kept_own (HO_10.out) (fun k_ hk_ hs_ => (hk_.2.2.1) hs_)); (case side4 => exact (Kd.R_reads' HO_10.out).2.1); rintro _ w49 ⟨rfl, hy0, hb, hkp⟩; refine ⟨_, rfl, ?_⟩; have n0_ := Z0.mk (Kd.R_mono (ok' := fun k_ => (P0_ k_ ∨ w.heap.size ≤ k_) ∧ some k_ ≠ (.slice (some ⟨gE, 0, none⟩) x9_2.length co40 : Value).ownBlock ∧ some k_ ≠ (.slice Ao41 t148.length co41 : Value).ownBlock ∧ some k_ ≠ (v155 : Value).ownBlock) (Kd.R_keptB (HO_8.out) hkp (fun k_ hk_ hs_ => (hk_.2.1) hs_)) (fun k_ hk_ => ⟨hk_.1.1, hk_.1.2.1, hk_.1.2.2.1, hk_.1.2.2.2⟩)); have n1_ := Z0.mk (Kd.R_reok rfl hy0 (fun k_ e_ => HO_9.out.1 k_ e_)); have n2_ := Z0.mk (Kd.R_mono (ok' := fun k_ => (P0_ k_ ∨ w.heap.size ≤ k_) ∧ some k_ ≠ (.slice Ao29 y139.length co29 : Value).ownBlock ∧ some k_ ≠ (.slice (some ⟨gE, 0, none⟩) x9_2.length co40 : Value).ownBlock ∧ some k_ ≠ (v155 : Value).ownBlock) (Kd.R_keptB (HO_10.out) hkp (fun k_ hk_ hs_ => (hk_.2.2.1) hs_)) (fun k_ hk_ => ⟨hk_.1.1, hk_.1.2.1, hk_.1.2.2.1, hk_.1.2.2.2⟩)); have n3_ := Z0.mk (Kd.R_mono (ok' := fun k_ => (P0_ k_ ∨ w.heap.size ≤ k_) ∧ some k_ ≠ (.slice Ao29 y139.length co29 : Value).ownBlock ∧ some k_ ≠ (.slice (some ⟨gE, 0, none⟩) x9_2.length co40 : Value).ownBlock ∧ some k_ ≠ (.slice Ao41 t148.length co41 : Value).ownBlock) (Kd.R_keptB (HO_12.out) hkp (fun k_ hk_ hs_ => (hk_.2.2.1) hs_)) (fun k_ hk_ => ⟨hk_.1.1, hk_.1.2.1, hk_.1.2.2.1, hk_.1.2.2.2⟩)); have n4_ := Z0.mk (Kept.then_ (S := (fun k_ => P0_ k_)) kqs hkp (fun k_ hs_ => (fun e_ => (HO_9.out.1 k_ e_.symm).1) hs_)); have n5_ := Z0.mk (hb); clear HO_8; clear HO_9; clear HO_10; clear HO_12; clear HK; clear HB; have HO_8 := n0_; have HO_9 := n1_; have HO_10 := n2_; have HO_12 := n3_; have HK := n4_; have HB := n5_; clear n0_ n1_ n2_ n3_ n4_ n5_; clear hb hkp hy0; have p48 : 0 ≤ (x13_2 : Int) := od; have q48 : (x13_2 : Int) < ((x12_2.length : Int) : Int) := od; obtain ⟨go48, co48, eo48, gb48, gl48, cl48, HG48⟩ := Kd.R_form HO_12.out (by omega); (first | cases eo48 | (injection eo48 with ea_ en_ ec_; (first | subst ea_ | (injection ea_ with ea_; subst ea_)); subst ec_; clear en_)); have GB48 := Z0.mk gb48; have GG48 := Z0.mk HG48; clear gb48 gl48 HG48; have HMgo48 := Z0.mk (show (P0_ go48 ∨ w.heap.size ≤ go48) from (HO_12.out.1 _ rfl).1); obtain ⟨hx48_0, hf48_0⟩ := Kd.R_celln 0 HO_12.out (x13_2 : Int) p48 q48; replace p48 := eq_true p48; replace q48 := eq_true q48; obtain ⟨hy50_, hz50_⟩ := Kd.R_celln 0 HO_12.out (x13_2 : Int) od od; have HP50 := Kd.R_putg HO_12.out (x13_2 : Int) t157) | ((with_reducible refine gate_store (t := 3) (p := 88) rfl ?_); refine store_event (t := 3) (p := 88) (v := ?vo_w51) (w1 := (w49.setCell ⟨go48, (x13_2 : Int).toNat, none⟩ (.int .i64 t157))) ?hg ?ho ?hn ?hr ?_; (case ho => rfl); (case hg => rfl); (case hn => rfl); (case hr => first | (go_simp; done) | (go_simp; rfl)); intro w51 hw; have hg : w49.grownBy w51 (some go48) := (by rw [hw]; exact HP50.2); have hp_ : Kd.R (Kd.int .i64) 3 w51 w0.heap.size (fun k_ => (P0_ k_ ∨ w.heap.size ≤ k_) ∧ some k_ ≠ (.slice Ao29 y139.length co29 : Value).ownBlock ∧ some k_ ≠ (.slice (some ⟨gE, 0, none⟩) x9_2.length co40 : Value).ownBlock ∧ some k_ ≠ (.slice Ao41 t148.length co41 : Value).ownBlock) (.slice (some ⟨go48, 0, none⟩) x12_2.length co48) y159 := (by rw [hw, Ny159.out]; exact HP50.1); clear HP50; have n0_ := Z0.mk (Kd.R_after (v := (.slice (some ⟨go48, 0, none⟩) x12_2.length co48)) (v1 := (.slice (some ⟨go48, 0, none⟩) x12_2.length co48)) (ok := (fun k_ => (P0_ k_ ∨ w.heap.size ≤ k_) ∧ some k_ ≠ (.slice (some ⟨gE, 0, none⟩) x9_2.length co40 : Value).ownBlock ∧ some k_ ≠ (.slice Ao41 t148.length co41 : Value).ownBlock)) (by (with_reducible repeat (first | apply Kd.R_alloc | apply Kd.R_drewN | apply Kd.R_drew)); exact Kd.R_mono HO_8.out (fun _ hk => ⟨⟨hk.1, ⟨hk.2.1, hk.2.2.1⟩⟩, hk.2.2.2⟩)) hg (.inl rfl)); have n1_ := Z0.mk (Kd.R_after (v := (.slice (some ⟨go48, 0, none⟩) x12_2.length co48)) (v1 := (.slice (some ⟨go48, 0, none⟩) x12_2.length co48)) (ok := (fun k_ => (P0_ k_ ∨ w.heap.size ≤ k_) ∧ some k_ ≠ (.slice Ao29 y139.length co29 : Value).ownBlock ∧ some k_ ≠ (.slice Ao41 t148.length co41 : Value).ownBlock)) (by (with_reducible repeat (first | apply Kd.R_alloc | apply Kd.R_drewN | apply Kd.R_drew)); exact Kd.R_mono HO_9.out (fun _ hk => ⟨⟨hk.1, ⟨hk.2.1, hk.2.2.1⟩⟩, hk.2.2.2⟩)) hg (.inl rfl)); have n2_ := Z0.mk (Kd.R_after (v := (.slice (some ⟨go48, 0, none⟩) x12_2.length co48)) (v1 := (.slice (some ⟨go48, 0, none⟩) x12_2.length co48)) (ok := (fun k_ => (P0_ k_ ∨ w.heap.size ≤ k_) ∧ some k_ ≠ (.slice Ao29 y139.length co29 : Value).ownBlock ∧ some k_ ≠ (.slice (some ⟨gE, 0, none⟩) x9_2.length co40 : Value).ownBlock)) (by (with_reducible repeat (first | apply Kd.R_alloc | apply Kd.R_drewN | apply Kd.R_drew)); exact Kd.R_mono HO_10.out (fun _ hk => ⟨⟨hk.1, ⟨hk.2.1, hk.2.2.1⟩⟩, hk.2.2.2⟩)) hg (.inl rfl)); have n3_ := Z0.mk (hp_); have n4_ := Z0.mk ((by rw [hw]; exact below_set (HB.out) GB48.out : Below w0.heap.size w0 w51)); have n5_ := Z0.mk (Kept.of_grown (S := (fun k_ => P0_ k_)) hg kqs (fun k_ e_ => (HO_12.out.1 k_ e_).1)); clear HO_8; clear HO_9; clear HO_10; clear HO_12; clear HB; clear HK; have HO_8 := n0_; have HO_9 := n1_; have HO_10 := n2_; have HO_12 := n3_; have HB := n4_; have HK := n5_; clear n0_ n1_ n2_ n3_ n4_ n5_; clear hg hw hp_))
      (try simp only [← hl9_2])
      go_roundg k2
      case measure => have := HK1.out; have := HK2.out; omega
      case rel => exact ⟨(t158), (y159), (wrap64 (x13_2 - 1)), fs, H', ⟨by have := HK1.out; have := HK2.out; omega⟩, ⟨by (try simp only [hl9_2]); (with_reducible repeat (first | apply Kd.R_alloc | apply Kd.R_drewN | apply Kd.R_drew)); exact Kd.R_mono HO_8.out (fun _ hk => ⟨hk.1.1, ⟨hk.1.2.1, ⟨hk.1.2.2, hk.2⟩⟩⟩)⟩, ⟨by (try simp only [hl9_2]); (with_reducible repeat (first | apply Kd.R_alloc | apply Kd.R_drewN | apply Kd.R_drew)); exact Kd.R_mono HO_9.out (fun _ hk => ⟨hk.1.1, ⟨hk.1.2.1, ⟨hk.1.2.2, hk.2⟩⟩⟩)⟩, ⟨by (try simp only [hl9_2]); (with_reducible repeat (first | apply Kd.R_alloc | apply Kd.R_drewN | apply Kd.R_drew)); exact Kd.R_mono HO_10.out (fun _ hk => ⟨hk.1.1, ⟨hk.1.2.1, ⟨hk.1.2.2, hk.2⟩⟩⟩)⟩, ⟨by (try simp only [hl9_2]); (with_reducible repeat (first | apply Kd.R_alloc | apply Kd.R_drewN | apply Kd.R_drew)); exact HO_12.out⟩, ⟨kqs⟩, ⟨bqs⟩⟩
     obtain ⟨t160, A52, H⟩ := bnd H
     obtain ⟨c53, c53b0, H⟩ := gd H
     (try (have c53b0_ := c53b0; rw [hl9_2] at c53b0_))
     have c53b1 : decide (0 < y139.length) = true := decide_eq_true (by omega)
     (try (have c53b1_ := c53b1; rw [hl9_2] at c53b1_))
     clear c53
     obtain ⟨⟨t164, t165⟩, A54, H⟩ := bnd H
     try dsimp only at H
     obtain ⟨t168, A55, H⟩ := bnd H
     simp only [Option.some.injEq, Prod.mk.injEq] at H
     obtain ⟨rfl, rfl⟩ := H
     try go_wp2
     replace HO_8 := Z0.mk (Kd.R_drew HO_8.out)
     replace HO_9 := Z0.mk (Kd.R_drew HO_9.out)
     replace HO_10 := Z0.mk (Kd.R_drew HO_10.out)
     replace HO_12 := Z0.mk (Kd.R_drew HO_12.out)
     replace HK := Z0.mk (Kept.drew HK.out)
     replace HB := Z0.mk (below_drew1 HB.out)
     have p163 : 0 ≤ (0 : Int) := (by omega)
     have q163 : 0 < (y139.length : Int) := od
     obtain ⟨ad163, e163, hx163_0⟩ := Kd.at_int (Kd.R_reads' HO_8.out).2.2 0 p163 q163
     cases e163
     have qi163 : (0 < y139.length) = True := eq_true (by omega)
     (try rw [show ((0 : Int)).toNat = 0 from rfl] at hx163_0)
     (try rw [Addr.add_zero'] at hx163_0)
     replace p163 := eq_true p163
     replace q163 := eq_true q163
     refine start_ (n := 11) (S := fun w' => w'.cell? ad163 = some (.int .i64 (rd y139 0))) (ds := []) #[false, false, false, false, false, false, false, false, false, false, false] (by kernel_rfl) rfl rfl (hx163_0) (fun hHeld => ?_); refine with_tabW bIdivide.tab16 bIdivide.bits16 (fun HT_ HW_ => ?_)
     generalize wr.drew = w56 at HO_8 HO_9 HO_10 HO_12 HK HB hx163_0 hHeld ⊢
     refine pure_ (i := 0) (N := some 90) (v := ?_) (a' := ?_) #[true, false, false, false, false, false, false, false, false, false, false] rfl rfl (any_of HT_.out (by kernel_rfl)) (fun _ _ _ h => h) (Or.inl ⟨by rfl, ?_⟩) ?_ ?_
     rotate_left
     ·intro w'
      go_simp
      with_reducible rfl
     rotate_left
     ·simp only [Act.put, List.setIfInBounds_toArray, List.set_cons_zero, List.set_cons_succ, i64_w, i32_w]
      rfl
     refine pure_ (i := 2) (N := some 92) (v := ?_) (a' := ?_) #[true, false, true, false, false, false, false, false, false, false, false] rfl rfl (any_of HT_.out (by kernel_rfl)) (fun _ _ _ h => h) (Or.inl ⟨by rfl, ?_⟩) ?_ ?_
     rotate_left
     ·intro w'
      go_simp
      with_reducible rfl
     rotate_left
     ·simp only [Act.put, List.setIfInBounds_toArray, List.set_cons_zero, List.set_cons_succ, i64_w, i32_w]
      rfl
     refine pure_ (i := 3) (N := some 93) (v := ?_) (a' := ?_) #[true, false, true, true, false, false, false, false, false, false, false] rfl rfl (any_of HT_.out (by kernel_rfl)) (fun _ _ _ h => h) (Or.inl ⟨by rfl, ?_⟩) ?_ ?_
     rotate_left
     ·intro w'
      go_simp
      with_reducible rfl
     rotate_left
     ·simp only [Act.put, List.setIfInBounds_toArray, List.set_cons_zero, List.set_cons_succ, i64_w, i32_w]
      rfl
     refine take_ (i := 4) (N := some 94) (v := ?_) (a' := ?_) #[true, false, true, true, true, false, false, false, false, false, false] rfl rfl (take_ofW HT_.out HW_.out (by kernel_rfl)) (fun _ _ _ h => h) (Or.inl ⟨by rfl, ?_⟩) hHeld ?_ ?_
     rotate_left
     ·intro w' s0
      go_simp
      with_reducible rfl
     rotate_left
     ·simp only [Act.put, List.setIfInBounds_toArray, List.set_cons_zero, List.set_cons_succ, i64_w, i32_w]
      rfl
     refine one_ (i := 1) (N := some 91) #[true, true, true, true, true, false, false, false, false, false, false] rfl rfl (one_of HT_.out (by kernel_rfl)) (by decide) (fun K hK => ?_)
     refine goes_ Tryz.func107 (by kernel_rfl) rfl #[.slice Ao40 x9_2.length co40] (by rfl) rfl rfl (by (try simp only [List.map_toArray, List.map_cons, List.map_nil]); first | done | rfl | (simp only [List.length_drop, List.length_take]; rfl)) ?_
     with_reducible refine (bItrim.calls k2 (fun k_ => some k_ = (.slice Ao40 x9_2.length co40 : Value).ownBlock) (.slice Ao40 x9_2.length co40) x9_2 t160 w0 _ ?side1 ?side2 A52.out).mono ?_
     (case side1 => repeat (first | (with_reducible first | exact HB.out | apply below_alloc | apply pw_below_drewN | apply below_drew1) | exact HB.out))
     (case side2 => exact Kd.R_tight rfl HO_9.out)
     rintro e w57 ⟨v161, rfl, ho0, hb, hkp⟩
     have HS0_ := Go.Proofs.WWords.cell_kept (hHeld) hkp (by first | (rw [add_block]; exact (fun hs_ => (((HO_8.out).1 _ rfl).2.1) hs_)) | (show ¬ _; simp only [add_block]; exact (fun hs_ => (((HO_8.out).1 _ rfl).2.1) hs_)) | exact (fun hs_ => (((HO_8.out).1 _ rfl).2.1) hs_))
     refine ⟨_, rfl, ?_⟩
     have HO162 := Z0.mk (Kd.R_mono (ok' := fun k_ => (P0_ k_ ∨ w.heap.size ≤ k_) ∧ some k_ ≠ (.slice (some ad163) y139.length co29 : Value).ownBlock ∧ some k_ ≠ (.slice Ao41 t148.length co41 : Value).ownBlock ∧ some k_ ≠ (v155 : Value).ownBlock) ho0 (fun k_ hk_ => ⟨Or.elim hk_ (fun hs_ => (HO_9.out.1 k_ (hs_).symm).1) (fun hn_ => (.inr (Nat.le_trans (by first | exact HK.out.1 | exact (show Kept w _ (fun k_ => P0_ k_) from kqs).1) hn_))), Or.elim hk_ (fun hs_ => fun e_ => (((HO_8.out).1 k_ e_.symm).2.1) hs_) (fun hn_ => (Kd.fresh' (Kd.R_lt (rq HO_8)) k_ hn_)), Or.elim hk_ (fun hs_ => fun e_ => (((HO_10.out).1 k_ e_.symm).2.2.1) hs_) (fun hn_ => (Kd.fresh' (Kd.R_lt (rq HO_10)) k_ hn_)), Or.elim hk_ (fun hs_ => fun e_ => (((HO_12.out).1 k_ e_.symm).2.2.1) hs_) (fun hn_ => (Kd.fresh' (Kd.R_lt (rq HO_12)) k_ hn_))⟩))
     replace HO_8 := Z0.mk (Kd.R_mono (ok' := fun k_ => (P0_ k_ ∨ w.heap.size ≤ k_) ∧ some k_ ≠ (.slice Ao41 t148.length co41 : Value).ownBlock ∧ some k_ ≠ (v155 : Value).ownBlock ∧ some k_ ≠ (v161 : Value).ownBlock) (Kd.R_keptB (HO_8.out) hkp (fun k_ hk_ hs_ => (hk_.2.1) hs_)) (fun k_ hk_ => ⟨hk_.1.1, hk_.1.2.2.1, hk_.1.2.2.2, fun e_ => Or.elim (ho0.1 k_ e_.symm) (fun hs_ => hk_.2.1 hs_) (fun hn_ => Nat.not_le.2 hk_.2.2 hn_)⟩))
     replace HO_10 := Z0.mk (Kd.R_mono (ok' := fun k_ => (P0_ k_ ∨ w.heap.size ≤ k_) ∧ some k_ ≠ (.slice (some ad163) y139.length co29 : Value).ownBlock ∧ some k_ ≠ (v155 : Value).ownBlock ∧ some k_ ≠ (v161 : Value).ownBlock) (Kd.R_keptB (HO_10.out) hkp (fun k_ hk_ hs_ => (hk_.2.2.1) hs_)) (fun k_ hk_ => ⟨hk_.1.1, hk_.1.2.1, hk_.1.2.2.2, fun e_ => Or.elim (ho0.1 k_ e_.symm) (fun hs_ => hk_.2.1 hs_) (fun hn_ => Nat.not_le.2 hk_.2.2 hn_)⟩))
     replace HO_12 := Z0.mk (Kd.R_mono (ok' := fun k_ => (P0_ k_ ∨ w.heap.size ≤ k_) ∧ some k_ ≠ (.slice (some ad163) y139.length co29 : Value).ownBlock ∧ some k_ ≠ (.slice Ao41 t148.length co41 : Value).ownBlock ∧ some k_ ≠ (v161 : Value).ownBlock) (Kd.R_keptB (HO_12.out) hkp (fun k_ hk_ hs_ => (hk_.2.2.1) hs_)) (fun k_ hk_ => ⟨hk_.1.1, hk_.1.2.1, hk_.1.2.2.2, fun e_ => Or.elim (ho0.1 k_ e_.symm) (fun hs_ => hk_.2.1 hs_) (fun hn_ => Nat.not_le.2 hk_.2.2 hn_)⟩))
     replace HK := Z0.mk (Kept.then_ (S := (fun k_ => P0_ k_)) kqs hkp (fun k_ hs_ => (fun e_ => (HO_9.out.1 k_ e_.symm).1) hs_))
     replace HB := Z0.mk (hb)
     clear HO_9
     (try clear hb)
     (try clear hkp)
     (try clear ho0)
     obtain ⟨Ao58, co58, eo58⟩ := Kd.R_slice HO162.out
     (first | subst eo58 | (injection eo58 with f1_ f2_ f3_; have f4_ := f1_.symm; have f5_ := f3_.symm; clear f1_ f2_ f3_; subst f4_; subst f5_))
     refine hK.out _ _ (HS0_) (fun hHeld => ?_)
     clear hK K
     refine norm_ (a' := ?_) ?_ ?_
     rotate_left
     ·show Act.put _ (some 91) _ = _
      simp only [Act.put, List.setIfInBounds_toArray, List.set_cons_zero, List.set_cons_succ, i64_w, i32_w]
      rfl
     refine one_ (i := 5) (N := some 95) #[true, true, true, true, true, true, false, false, false, false, false] rfl rfl (one_of HT_.out (by kernel_rfl)) (by decide) (fun K hK => ?_)
     refine goes_ Tryz.func106 (by kernel_rfl) rfl #[.slice Ao58 t160.length co58, .int .i64 (rd y139 0)] (by rfl) rfl rfl (by (try simp only [List.map_toArray, List.map_cons, List.map_nil]); first | done | rfl | (simp only [List.length_drop, List.length_take]; rfl)) ?_
     with_reducible refine (bIshort.calls k2 _ _ t160 (rd y139 0) t164 t165 _ ?side1 ?side2 A54.out).mono ?_
     (case side1 => exact cq (Kd.R_reads' HO162.out).2.2)
     (case side2 => exact (Kd.R_reads' HO162.out).2.1)
     rintro e w59 ⟨v166, rfl, ho0, hb⟩
     have HS0_ := (hb.cell (World.block_lt_of_cell? _ _ (hHeld))).trans (hHeld)
     refine ⟨_, rfl, ?_⟩
     have HO167 := Z0.mk (Kd.R_lower (Kd.R_new' (Kd.R_new' (Kd.R_new' (Kd.R_new' (Kd.R_newM (M := fun k_ => (P0_ k_ ∨ w.heap.size ≤ k_)) ho0 (by first | exact HK.out.1 | exact (show Kept w _ (fun k_ => P0_ k_) from kqs).1) (fun k_ h_ => .inr h_)) (Kd.R_lt (rq HO_8))) (Kd.R_lt (rq HO_10))) (Kd.R_lt (rq HO_12))) (Kd.R_lt (rq HO162))) (below_size bqs))
     replace HO_8 := Z0.mk (Kd.R_elder' (rq HO_8) (Kd.R_base ho0) hb)
     replace HO_10 := Z0.mk (Kd.R_elder' (rq HO_10) (Kd.R_base ho0) hb)
     replace HO_12 := Z0.mk (Kd.R_elder' (rq HO_12) (Kd.R_base ho0) hb)
     replace HO162 := Z0.mk (Kd.R_elder' (rq HO162) (Kd.R_base ho0) hb)
     replace HK := fK HK hb
     replace HB := fB HB hb
     (try clear hb)
     (try clear hb2)
     (try clear hk)
     (try clear hi)
     (try clear ho0)
     refine hK.out _ _ (HS0_) (fun hHeld => ?_)
     clear hK K
     refine norm_ (a' := ?_) ?_ ?_
     rotate_left
     ·show Act.put _ (some 95) _ = _
      simp only [Act.put, List.setIfInBounds_toArray, List.set_cons_zero, List.set_cons_succ, i64_w, i32_w]
      rfl
     refine pure_ (i := 6) (N := some 89) (v := ?_) (a' := ?_) #[true, true, true, true, true, true, true, false, false, false, false] rfl rfl (any_of HT_.out (by kernel_rfl)) (fun _ _ _ h => h) (Or.inl ⟨by rfl, ?_⟩) ?_ ?_
     rotate_left
     ·intro w'
      go_simp
      with_reducible rfl
     rotate_left
     ·simp only [Act.put, List.setIfInBounds_toArray, List.set_cons_zero, List.set_cons_succ, i64_w, i32_w]
      rfl
     refine pure_ (i := 7) (N := some 96) (v := ?_) (a' := ?_) #[true, true, true, true, true, true, true, true, false, false, false] rfl rfl (any_of HT_.out (by kernel_rfl)) (fun _ _ _ h => h) (Or.inl ⟨by rfl, ?_⟩) ?_ ?_
     rotate_left
     ·intro w'
      go_simp
      with_reducible rfl
     rotate_left
     ·simp only [Act.put, List.setIfInBounds_toArray, List.set_cons_zero, List.set_cons_succ, i64_w, i32_w]
      rfl
     refine pure_ (i := 8) (N := some 97) (v := ?_) (a' := ?_) #[true, true, true, true, true, true, true, true, true, false, false] rfl rfl (any_of HT_.out (by kernel_rfl)) (fun _ _ _ h => h) (Or.inl ⟨by rfl, ?_⟩) ?_ ?_
     rotate_left
     ·intro w'
      go_simp
      with_reducible rfl
     rotate_left
     ·simp only [Act.put, List.setIfInBounds_toArray, List.set_cons_zero, List.set_cons_succ, i64_w, i32_w]
      rfl
     refine pure_ (i := 9) (N := some 14) (v := ?_) (a' := ?_) #[true, true, true, true, true, true, true, true, true, true, false] rfl rfl (any_of HT_.out (by kernel_rfl)) (fun _ _ _ h => h) (Or.inl ⟨by rfl, ?_⟩) ?_ ?_
     rotate_left
     ·intro w'
      go_simp
      with_reducible rfl
     rotate_left
     ·simp only [Act.put, List.setIfInBounds_toArray, List.set_cons_zero, List.set_cons_succ, i64_w, i32_w]
      rfl
     refine pure_ (i := 10) (N := some 15) (v := ?_) (a' := ?_) #[true, true, true, true, true, true, true, true, true, true, true] rfl rfl (any_of HT_.out (by kernel_rfl)) (fun _ _ _ h => h) (Or.inl ⟨by rfl, ?_⟩) ?_ ?_
     rotate_left
     ·intro w'
      go_simp
      with_reducible rfl
     rotate_left
     ·simp only [Act.put, List.setIfInBounds_toArray, List.set_cons_zero, List.set_cons_succ, i64_w, i32_w]
      rfl
     refine done_ (done_of HT_.out (by kernel_rfl)) ?_
     obtain ⟨Ao60, co60, eo60⟩ := Kd.R_slice HO_12.out
     subst eo60
     try go_wp2_with (first | ((with_reducible refine gc_ 107 rfl ?_); refine gL 99 Tryz.func107 (bItrim.calls k2 (fun k_ => some k_ = (.slice Ao60 x12_2.length co60 : Value).ownBlock) (.slice Ao60 x12_2.length co60) x12_2 t168 w0 _ ?side1 ?side2 A55.out) ?_; (case side1 => repeat (first | (with_reducible first | exact HB.out | apply below_alloc | apply pw_below_drewN | apply below_drew1) | exact HB.out)); (case side2 => exact Kd.R_tight rfl HO_12.out); rintro _ w61 ⟨v169, rfl, ho0, hb, hkp⟩; refine ⟨_, rfl, ?_⟩; have HO170 := Z0.mk (Kd.R_mono (ok' := fun k_ => (P0_ k_ ∨ w.heap.size ≤ k_) ∧ some k_ ≠ (.slice (some ad163) y139.length co29 : Value).ownBlock ∧ some k_ ≠ (.slice Ao41 t148.length co41 : Value).ownBlock ∧ some k_ ≠ (.slice Ao58 t160.length co58 : Value).ownBlock ∧ some k_ ≠ (v166 : Value).ownBlock) ho0 (fun k_ hk_ => ⟨Or.elim hk_ (fun hs_ => (HO_12.out.1 k_ (hs_).symm).1.1) (fun hn_ => (.inr (Nat.le_trans (by first | exact HK.out.1 | exact (show Kept w _ (fun k_ => P0_ k_) from kqs).1) hn_))), Or.elim hk_ (fun hs_ => fun e_ => (((HO_8.out).1 k_ e_.symm).1.2.2.1) hs_) (fun hn_ => (Kd.fresh' (Kd.R_lt (rq HO_8)) k_ hn_)), Or.elim hk_ (fun hs_ => fun e_ => (((HO_10.out).1 k_ e_.symm).1.2.2.1) hs_) (fun hn_ => (Kd.fresh' (Kd.R_lt (rq HO_10)) k_ hn_)), Or.elim hk_ (fun hs_ => fun e_ => (((HO162.out).1 k_ e_.symm).1.2.2.2) hs_) (fun hn_ => (Kd.fresh' (Kd.R_lt (rq HO162)) k_ hn_)), Or.elim hk_ (fun hs_ => fun e_ => (((HO167.out).1 k_ e_.symm).1.2) hs_) (fun hn_ => (Kd.fresh' (Kd.R_lt (rq HO167)) k_ hn_))⟩)); replace HO_8 := Z0.mk (Kd.R_mono (ok' := fun k_ => (P0_ k_ ∨ w.heap.size ≤ k_) ∧ some k_ ≠ (.slice Ao41 t148.length co41 : Value).ownBlock ∧ some k_ ≠ (.slice Ao58 t160.length co58 : Value).ownBlock ∧ some k_ ≠ (v166 : Value).ownBlock ∧ some k_ ≠ (v169 : Value).ownBlock) (Kd.R_keptB (HO_8.out) hkp (fun k_ hk_ hs_ => (hk_.1.2.2.1) hs_)) (fun k_ hk_ => ⟨hk_.1.1.1, hk_.1.1.2.1, hk_.1.1.2.2.2, hk_.1.2, fun e_ => Or.elim (ho0.1 k_ e_.symm) (fun hs_ => hk_.2.1 hs_) (fun hn_ => Nat.not_le.2 hk_.2.2 hn_)⟩)); replace HO_10 := Z0.mk (Kd.R_mono (ok' := fun k_ => (P0_ k_ ∨ w.heap.size ≤ k_) ∧ some k_ ≠ (.slice (some ad163) y139.length co29 : Value).ownBlock ∧ some k_ ≠ (.slice Ao58 t160.length co58 : Value).ownBlock ∧ some k_ ≠ (v166 : Value).ownBlock ∧ some k_ ≠ (v169 : Value).ownBlock) (Kd.R_keptB (HO_10.out) hkp (fun k_ hk_ hs_ => (hk_.1.2.2.1) hs_)) (fun k_ hk_ => ⟨hk_.1.1.1, hk_.1.1.2.1, hk_.1.1.2.2.2, hk_.1.2, fun e_ => Or.elim (ho0.1 k_ e_.symm) (fun hs_ => hk_.2.1 hs_) (fun hn_ => Nat.not_le.2 hk_.2.2 hn_)⟩)); replace HO162 := Z0.mk (Kd.R_mono (ok' := fun k_ => (P0_ k_ ∨ w.heap.size ≤ k_) ∧ some k_ ≠ (.slice (some ad163) y139.length co29 : Value).ownBlock ∧ some k_ ≠ (.slice Ao41 t148.length co41 : Value).ownBlock ∧ some k_ ≠ (v166 : Value).ownBlock ∧ some k_ ≠ (v169 : Value).ownBlock) (Kd.R_keptB (HO162.out) hkp (fun k_ hk_ hs_ => (hk_.1.2.2.2) hs_)) (fun k_ hk_ => ⟨hk_.1.1.1, hk_.1.1.2.1, hk_.1.1.2.2.1, hk_.1.2, fun e_ => Or.elim (ho0.1 k_ e_.symm) (fun hs_ => hk_.2.1 hs_) (fun hn_ => Nat.not_le.2 hk_.2.2 hn_)⟩)); replace HO167 := Z0.mk (Kd.R_mono (ok' := fun k_ => (P0_ k_ ∨ w.heap.size ≤ k_) ∧ some k_ ≠ (.slice (some ad163) y139.length co29 : Value).ownBlock ∧ some k_ ≠ (.slice Ao41 t148.length co41 : Value).ownBlock ∧ some k_ ≠ (.slice Ao58 t160.length co58 : Value).ownBlock ∧ some k_ ≠ (v169 : Value).ownBlock) (Kd.R_keptB (HO167.out) hkp (fun k_ hk_ hs_ => (hk_.1.2) hs_)) (fun k_ hk_ => ⟨hk_.1.1.1.1.1.1, hk_.1.1.1.1.2, hk_.1.1.1.2, hk_.1.2, fun e_ => Or.elim (ho0.1 k_ e_.symm) (fun hs_ => hk_.2.1 hs_) (fun hn_ => Nat.not_le.2 hk_.2.2 hn_)⟩)); replace HK := Z0.mk (Kept.then_ (S := (fun k_ => P0_ k_)) kqs hkp (fun k_ hs_ => (fun e_ => (HO_12.out.1 k_ e_.symm).1.1) hs_)); replace HB := Z0.mk (hb); clear HO_12; clear hb hkp ho0))
     go_ret2
     exact ⟨_, _, by first | rfl | (simp [errW_none, errW_some] <;> rfl) | (simp only [← hji18, ← hji37]; first | rfl | (simp [errW_none, errW_some] <;> rfl)) | (simp [*, errW_none, errW_some] <;> rfl), by (with_reducible repeat (first | apply Kd.R_alloc | apply Kd.R_drewN | apply Kd.R_drew)); exact Kd.R_mono HO170.out (fun _ hk => ⟨hk.1, hk.2.2.2.2⟩), by (with_reducible repeat (first | apply Kd.R_alloc | apply Kd.R_drewN | apply Kd.R_drew)); exact Kd.R_mono HO167.out (fun _ hk => ⟨hk.1, hk.2.2.2.2⟩), bqs, kqs⟩
end Go.Proofs.YtinpcbjjnlpblaaGreatDoor
namespace Go.Proofs.YtinpcbjjnlpblaaGreatDoor.PA
set_option linter.unusedVariables false
open Go.RowKit Go.Proofs.WWords Go.Proofs.WLast Go.Proofs.WMore
attribute [local go_sem] max2_int min2_int max_two min_two max_three min_three max_four min_four
set_option linter.unusedSimpArgs false
theorem bIcommon.calls (k : Nat) (P0_ : Nat → Prop) (u9000_ : Value) (l0 : List Int) (P1_ : Nat → Prop) (u9001_ : Value) (l1 : List Int) (r : List Int) (w0 w : World) (hB : Below w0.heap.size w0 w) (ho0 : Kd.R (Kd.int .i64) 3 w w0.heap.size P0_ u9000_ l0) (hp0_1 : ∀ k_, P0_ k_ → ¬ P1_ k_) (ho1 : Kd.R (Kd.int .i64) 3 w w0.heap.size P1_ u9001_ l1) (hp1_0 : ∀ k_, P1_ k_ → ¬ P0_ k_) (h : bIcommon.f k l0 l1 = some r) :
  Calls Tryz.prog 63 #[u9000_, u9001_] w fun e w' => ∃ v0_ : Value, e = .returned (v0_) ∧ Kd.R (Kd.int .i64) 3 w' w0.heap.size (fun k_ => ((P0_ k_ ∨ P1_ k_) ∨ w.heap.size ≤ k_)) v0_ r ∧ Below w0.heap.size w0 w' ∧ Kept w w' (fun k_ => P0_ k_ ∨ P1_ k_) := by
 have HO0 := Z0.mk (show Kd.R (Kd.int .i64) 3 w w0.heap.size (fun k_ => ((P0_ k_ ∨ P1_ k_) ∨ w.heap.size ≤ k_) ∧ some k_ ≠ (u9001_ : Value).ownBlock) u9000_ l0 from Kd.R_mono ho0 (fun k_ hk => ⟨(.inl (.inl hk)), fun e_ => hp0_1 k_ hk (ho1.1 k_ e_.symm)⟩))
 have HO1 := Z0.mk (show Kd.R (Kd.int .i64) 3 w w0.heap.size (fun k_ => ((P0_ k_ ∨ P1_ k_) ∨ w.heap.size ≤ k_) ∧ some k_ ≠ (u9000_ : Value).ownBlock) u9001_ l1 from Kd.R_mono ho1 (fun k_ hk => ⟨(.inl (.inr hk)), fun e_ => hp1_0 k_ hk (ho0.1 k_ e_.symm)⟩))
 have HK := Z0.mk (Kept.refl w (fun k_ => P0_ k_ ∨ P1_ k_))
 have HW0 := Z0.mk hB.size
 have HB := Z0.mk hB
 clear hB
 have H := h
 clear h
 unfold bIcommon.f at H
 have H' := Z0.mk H
 clear H
 go_enter Tryz.func63, Tryz.ntmps63
 go_wp2
 go_loopg [0, 1] k (fun kq v0 v1 w' => ∃ (x0_1 : List Int) (x1_1 : List Int), Z0 (bIcommon.l0 kq x0_1 x1_1 = some r) ∧ Z0 (kq ≤ k) ∧ Z0 (Kd.R (Kd.int .i64) 3 w' w0.heap.size (fun k_ => ((P0_ k_ ∨ P1_ k_) ∨ w.heap.size ≤ k_) ∧ some k_ ≠ (v1 : Value).ownBlock) v0 x0_1) ∧ Z0 (Kd.R (Kd.int .i64) 3 w' w0.heap.size (fun k_ => ((P0_ k_ ∨ P1_ k_) ∨ w.heap.size ≤ k_) ∧ some k_ ≠ (v0 : Value).ownBlock) v1 x1_1) ∧ Z0 (Kept w w' (fun k_ => P0_ k_ ∨ P1_ k_)) ∧ Z0 (Below w0.heap.size w0 w'))
 case atStart => exact ⟨(l0), (l1), H', ⟨Nat.le_refl _⟩, ⟨rq HO0⟩, ⟨rq HO1⟩, ⟨kqs⟩, ⟨bqs⟩⟩
 case round =>
  clear H'
  try clear p1
  try clear p2
  obtain ⟨x0_1, x1_1, HA, HK1, HO_0, HO_1, HK, HB⟩ := hrel
  cases gk with
  | zero => exact absurd HA.out (by simp [bIcommon.l0])
  | succ k1 =>
   have H := HA.out
   clear HA
   simp only [bIcommon.l0] at H
   rcases jg H with ⟨c3, c3b0, H⟩ | ⟨c3, c3b0, H⟩
   ·have c3b1 : decide (0 < x1_1.length) = true := decide_eq_true (by omega)
    clear c3
    obtain ⟨⟨t171, t174⟩, A4, H⟩ := bnd H
    try dsimp only at H
    have H' := Z0.mk H
    clear H
    obtain ⟨Ao5, co5, eo5⟩ := Kd.R_slice HO_1.out
    subst eo5
    obtain ⟨Ao6, co6, eo6⟩ := Kd.R_slice HO_0.out
    subst eo6
    go_wp2_with (first | ((with_reducible refine gc_ 62 rfl ?_); refine gL 13 Tryz.func62 (bIdivide.calls k1 (fun k_ => some k_ = (.slice Ao6 x0_1.length co6 : Value).ownBlock) (.slice Ao6 x0_1.length co6) x0_1 _ _ x1_1 t171 t174 w0 _ ?side1 ?side2 ?side3 ?side4 A4.out) ?_; (case side1 => repeat (first | (with_reducible first | exact HB.out | apply below_alloc | apply pw_below_drewN | apply below_drew1) | exact HB.out)); (case side2 => exact Kd.R_tight rfl HO_0.out); (case side3 => exact Kd.C_kept_own (HO_1.out) (fun k_ hk_ hs_ => (hk_.2) hs_)); (case side4 => exact (Kd.R_reads' HO_1.out).2.1); rintro _ w7 ⟨v172, v175, rfl, ho0, ho1, hb, hkp⟩; refine ⟨_, rfl, ?_⟩; have HO173 := Z0.mk (Kd.R_mono (ok' := fun k_ => ((P0_ k_ ∨ P1_ k_) ∨ w.heap.size ≤ k_) ∧ some k_ ≠ (v175 : Value).ownBlock ∧ some k_ ≠ (.slice Ao5 x1_1.length co5 : Value).ownBlock) ho0 (fun k_ hk_ => ⟨Or.elim hk_.1 (fun hs_ => (HO_0.out.1 k_ (hs_).symm).1) (fun hn_ => (.inr (Nat.le_trans (by first | exact HK.out.1 | exact (show Kept w _ (fun k_ => P0_ k_ ∨ P1_ k_) from kqs).1) hn_))), hk_.2, Or.elim hk_.1 (fun hs_ => fun e_ => (((HO_1.out).1 k_ e_.symm).2) hs_) (fun hn_ => (Kd.fresh' (Kd.R_lt (rq HO_1)) k_ hn_))⟩)); have HO176 := Z0.mk (Kd.R_mono (ok' := fun k_ => ((P0_ k_ ∨ P1_ k_) ∨ w.heap.size ≤ k_) ∧ some k_ ≠ (v172 : Value).ownBlock ∧ some k_ ≠ (.slice Ao5 x1_1.length co5 : Value).ownBlock) ho1 (fun k_ hk_ => ⟨Or.elim hk_.1 (fun hs_ => (HO_0.out.1 k_ (hs_).symm).1) (fun hn_ => (.inr (Nat.le_trans (by first | exact HK.out.1 | exact (show Kept w _ (fun k_ => P0_ k_ ∨ P1_ k_) from kqs).1) hn_))), hk_.2, Or.elim hk_.1 (fun hs_ => fun e_ => (((HO_1.out).1 k_ e_.symm).2) hs_) (fun hn_ => (Kd.fresh' (Kd.R_lt (rq HO_1)) k_ hn_))⟩)); replace HO_1 := Z0.mk (Kd.R_mono (ok' := fun k_ => ((P0_ k_ ∨ P1_ k_) ∨ w.heap.size ≤ k_) ∧ some k_ ≠ (v172 : Value).ownBlock ∧ some k_ ≠ (v175 : Value).ownBlock) (Kd.R_keptB (HO_1.out) hkp (fun k_ hk_ hs_ => (hk_.2) hs_)) (fun k_ hk_ => ⟨hk_.1.1, fun e_ => Or.elim (ho0.1 k_ e_.symm).1 (fun hs_ => hk_.2.1 hs_) (fun hn_ => Nat.not_le.2 hk_.2.2 hn_), fun e_ => Or.elim (ho1.1 k_ e_.symm).1 (fun hs_ => hk_.2.1 hs_) (fun hn_ => Nat.not_le.2 hk_.2.2 hn_)⟩)); replace HK := Z0.mk (Kept.then_ (S := (fun k_ => P0_ k_ ∨ P1_ k_)) kqs hkp (fun k_ hs_ => (fun e_ => (HO_0.out.1 k_ e_.symm).1) hs_)); replace HB := Z0.mk (hb); clear HO_0; clear hb hkp ho0 ho1))
    go_roundg k1
    case measure => have := HK1.out; omega
    case rel => exact ⟨(x1_1), (t174), H', ⟨by have := HK1.out; omega⟩, ⟨by (with_reducible repeat (first | apply Kd.R_alloc | apply Kd.R_drewN | apply Kd.R_drew)); exact Kd.R_mono HO_1.out (fun _ hk => ⟨hk.1, hk.2.2⟩)⟩, ⟨by (with_reducible repeat (first | apply Kd.R_alloc | apply Kd.R_drewN | apply Kd.R_drew)); exact Kd.R_mono HO176.out (fun _ hk => ⟨hk.1, hk.2.2⟩)⟩, ⟨kqs⟩, ⟨bqs⟩⟩
   have c3b1 : decide (0 < x1_1.length) = false := decide_eq_false (by omega)
   clear c3
   obtain rfl := Option.some.inj H
   obtain ⟨Ao8, co8, eo8⟩ := Kd.R_slice HO_1.out
   subst eo8
   go_wp2
   go_ret
   exact ⟨_, fe, by (with_reducible repeat (first | apply Kd.R_alloc | apply Kd.R_drewN | apply Kd.R_drew)); exact Kd.R_mono HO_0.out (fun _ hk => hk.1), bqs, kqs⟩
theorem bIGcd.calls (k : Nat) (a0 : ByteArray) (a1 : ByteArray) (r1 : ByteArray) (r2 : Int) (w : World) (hL : LaidW w) (h : bIGcd.f k a0 a1 = some (r1, r2)) :
  Calls Tryz.prog 19 #[.string a0, .string a1] w fun e w' => e = .returned (.tuple #[.string r1, .int .i64 r2]) ∧ Below w.heap.size w w' := by
 have hu88 := Tryz.underlying80
 have HB := Z0.mk (Below.refl w.heap.size w)
 have H := h
 clear h
 unfold bIGcd.f at H
 obtain ⟨⟨t177, t178, t181, t182, t185⟩, A3, H⟩ := bnd H
 try dsimp only at H
 rcases je H with ⟨-, c4b0, c4b1, H⟩ | ⟨c4, c4b0, c4b1, H⟩
 ·obtain ⟨t188, A5, H⟩ := bnd H
  obtain ⟨t191, A6, H⟩ := bnd H
  simp only [Option.some.injEq, Prod.mk.injEq] at H
  obtain ⟨rfl, rfl⟩ := H
  go_enter Tryz.func19, Tryz.ntmps19
  go_wp2_with (first | ((with_reducible refine gc_ 54 rfl ?_); refine gL 12 Tryz.func54 (bIpair.calls _ _ _ _ _ _ _ _ _ A3.out) ?_; rintro _ w7 ⟨v179, v183, rfl, ho0, ho1, hb⟩; refine ⟨_, rfl, ?_⟩; have HO180 := fN ho0; have HO184 := fN ho1; replace HB := fB HB hb; clear hb ho0 ho1) | ((with_reducible refine gd_ 6 rfl ?_); refine bxE 6 #[.bool false, .slice none 0 0] 80 ?_; intro gb186 hg w8 hbox hb; have BK186 := Z0.mk hbox; have GW186 := fE HB hg; have GE186 := fE HB hg; replace HO180 := fR HO180 hb; replace HO184 := fR HO184 hb; replace HB := fB HB hb; clear hb hbox hg) | ((with_reducible refine gd_ 7 rfl ?_); refine bxE 7 #[.bool false, .slice none 0 0] 80 ?_; intro gb187 hg w9 hbox hb; have BK187 := Z0.mk hbox; have GW187 := fE HB hg; have GE187 := fE HB hg; have NB186_187 := fl BK186 hg; have NB187_186 := fg BK186 hg; replace HO180 := fR HO180 hb; replace HO184 := fR HO184 hb; replace BK186 := fk BK186 hb; replace HB := fB HB hb; clear hb hbox hg; have hnb10 := NB186_187.out; have hnc10 := NB187_186.out; obtain ⟨hcz11_0, hcz11_1, hfz11_0, hfz11_1⟩ := b2 BK186; obtain ⟨Ao12, co12, eo12⟩ := Kd.R_slice HO180.out; subst eo12) | ((with_reducible refine gate_store (t := 80) (p := 6) rfl ?_); refine store_event (t := 80) (p := 6) (v := ?vo_w13) (w1 := ((w9.setCell ⟨gb186, 0, none⟩ (.bool t177)).setCell ⟨gb186, 1, none⟩ (.slice Ao12 t178.length co12))) ?hg ?ho ?hn ?hr ?_; (case ho => rfl); (case hg => rfl); (case hn => rfl); (case hr => first | (go_simp; done) | (go_simp; rfl)); intro w13 hw; have n0_ : Z0 (Kd.R (Kd.int .i64) 3 w13 w.heap.size (fun k_ => some k_ ≠ (v183 : Value).ownBlock) (.slice Ao12 t178.length co12) t178) := ⟨(by rw [hw]; exact (by (with_reducible repeat (first | apply Kd.R_alloc | apply Kd.R_drewN | apply Kd.R_drew)); exact Kd.R_mono (Kd.R_far (p := ⟨gb186, 1, none⟩) (Kd.R_far (p := ⟨gb186, 0, none⟩) (Kd.R_types HO180.out BK186.out (by decide)) (fun _ hk => hk.2) (.bool t177)) (fun _ hk => hk.2) (.slice Ao12 t178.length co12)) (fun _ hk => hk.1)))⟩; have n1_ : Z0 (Kd.R (Kd.int .i64) 3 w13 w.heap.size (fun k_ => some k_ ≠ (.slice Ao12 t178.length co12 : Value).ownBlock) v183 t182) := ⟨(by rw [hw]; exact (by (with_reducible repeat (first | apply Kd.R_alloc | apply Kd.R_drewN | apply Kd.R_drew)); exact Kd.R_mono (Kd.R_far (p := ⟨gb186, 1, none⟩) (Kd.R_far (p := ⟨gb186, 0, none⟩) (Kd.R_types HO184.out BK186.out (by decide)) (fun _ hk => hk.2) (.bool t177)) (fun _ hk => hk.2) (.slice Ao12 t178.length co12)) (fun _ hk => hk.1)))⟩; have n2_ : Z0 (w13.heap[gb186]? = some (.cells #[.bool t177, .slice Ao12 t178.length co12] 80 (0, 0))) := ⟨(by rw [hw]; exact (by (with_reducible repeat (first | refine blk_drewN ?_ _ | refine blk_drew ?_ | refine blk_alloc ?_ _)); refine blk_put (cs := #[.bool t177, .slice none 0 0]) ?_ 1 _ rfl; (with_reducible repeat (first | refine blk_drewN ?_ _ | refine blk_drew ?_ | refine blk_alloc ?_ _)); refine blk_put (cs := #[.bool false, .slice none 0 0]) ?_ 0 _ rfl; (with_reducible repeat (first | refine blk_drewN ?_ _ | refine blk_drew ?_ | refine blk_alloc ?_ _)); exact BK186.out))⟩; have n3_ : Z0 (w13.heap[gb187]? = some (.cells #[.bool false, .slice none 0 0] 80 (0, 0))) := ⟨(by rw [hw]; exact (by (with_reducible repeat (first | refine blk_drewN ?_ _ | refine blk_drew ?_ | refine blk_alloc ?_ _)); refine blk_far ?_ NB187_186.out _; (with_reducible repeat (first | refine blk_drewN ?_ _ | refine blk_drew ?_ | refine blk_alloc ?_ _)); refine blk_far ?_ NB187_186.out _; (with_reducible repeat (first | refine blk_drewN ?_ _ | refine blk_drew ?_ | refine blk_alloc ?_ _)); exact BK187.out))⟩; have n4_ : Z0 (Below w.heap.size w w13) := ⟨(by rw [hw]; exact bqs)⟩; clear hw; clear HO180; clear HO184; clear BK186; clear BK187; clear HB; have HO180 := n0_; have HO184 := n1_; have BK186 := n2_; have BK187 := n3_; have HB := n4_; clear n0_ n1_ n2_ n3_ n4_; obtain ⟨hcz14_0, hcz14_1, hfz14_0, hfz14_1⟩ := b2 BK187; obtain ⟨Ao15, co15, eo15⟩ := Kd.R_slice HO184.out; subst eo15) | ((with_reducible refine gate_store (t := 80) (p := 7) rfl ?_); refine store_event (t := 80) (p := 7) (v := ?vo_w16) (w1 := ((w13.setCell ⟨gb187, 0, none⟩ (.bool t181)).setCell ⟨gb187, 1, none⟩ (.slice Ao15 t182.length co15))) ?hg ?ho ?hn ?hr ?_; (case ho => rfl); (case hg => rfl); (case hn => rfl); (case hr => first | (go_simp; done) | (go_simp; rfl)); intro w16 hw; have n0_ : Z0 (Kd.R (Kd.int .i64) 3 w16 w.heap.size (fun k_ => some k_ ≠ (.slice Ao15 t182.length co15 : Value).ownBlock) (.slice Ao12 t178.length co12) t178) := ⟨(by rw [hw]; exact (by (with_reducible repeat (first | apply Kd.R_alloc | apply Kd.R_drewN | apply Kd.R_drew)); exact Kd.R_mono (Kd.R_far (p := ⟨gb187, 1, none⟩) (Kd.R_far (p := ⟨gb187, 0, none⟩) (Kd.R_types HO180.out BK187.out (by decide)) (fun _ hk => hk.2) (.bool t181)) (fun _ hk => hk.2) (.slice Ao15 t182.length co15)) (fun _ hk => hk.1)))⟩; have n1_ : Z0 (Kd.R (Kd.int .i64) 3 w16 w.heap.size (fun k_ => some k_ ≠ (.slice Ao12 t178.length co12 : Value).ownBlock) (.slice Ao15 t182.length co15) t182) := ⟨(by rw [hw]; exact (by (with_reducible repeat (first | apply Kd.R_alloc | apply Kd.R_drewN | apply Kd.R_drew)); exact Kd.R_mono (Kd.R_far (p := ⟨gb187, 1, none⟩) (Kd.R_far (p := ⟨gb187, 0, none⟩) (Kd.R_types HO184.out BK187.out (by decide)) (fun _ hk => hk.2) (.bool t181)) (fun _ hk => hk.2) (.slice Ao15 t182.length co15)) (fun _ hk => hk.1)))⟩; have n2_ : Z0 (w16.heap[gb186]? = some (.cells #[.bool t177, .slice Ao12 t178.length co12] 80 (0, 0))) := ⟨(by rw [hw]; exact (by (with_reducible repeat (first | refine blk_drewN ?_ _ | refine blk_drew ?_ | refine blk_alloc ?_ _)); refine blk_far ?_ NB186_187.out _; (with_reducible repeat (first | refine blk_drewN ?_ _ | refine blk_drew ?_ | refine blk_alloc ?_ _)); refine blk_far ?_ NB186_187.out _; (with_reducible repeat (first | refine blk_drewN ?_ _ | refine blk_drew ?_ | refine blk_alloc ?_ _)); exact BK186.out))⟩; have n3_ : Z0 (w16.heap[gb187]? = some (.cells #[.bool t181, .slice Ao15 t182.length co15] 80 (0, 0))) := ⟨(by rw [hw]; exact (by (with_reducible repeat (first | refine blk_drewN ?_ _ | refine blk_drew ?_ | refine blk_alloc ?_ _)); refine blk_put (cs := #[.bool t181, .slice none 0 0]) ?_ 1 _ rfl; (with_reducible repeat (first | refine blk_drewN ?_ _ | refine blk_drew ?_ | refine blk_alloc ?_ _)); refine blk_put (cs := #[.bool false, .slice none 0 0]) ?_ 0 _ rfl; (with_reducible repeat (first | refine blk_drewN ?_ _ | refine blk_drew ?_ | refine blk_alloc ?_ _)); exact BK187.out))⟩; have n4_ : Z0 (Below w.heap.size w w16) := ⟨(by rw [hw]; exact bqs)⟩; clear hw; clear HO180; clear HO184; clear BK186; clear BK187; clear HB; have HO180 := n0_; have HO184 := n1_; have BK186 := n2_; have BK187 := n3_; have HB := n4_; clear n0_ n1_ n2_ n3_ n4_; obtain ⟨hcz17_0, hcz17_1, hfz17_0, hfz17_1⟩ := b2 BK186; obtain ⟨hcz18_0, hcz18_1, hfz18_0, hfz18_1⟩ := b2 BK187) | ((with_reducible refine gc_ 63 rfl ?_); refine gL 23 Tryz.func63 (bIcommon.calls k (fun k_ => some k_ = (.slice Ao12 t178.length co12 : Value).ownBlock) (.slice Ao12 t178.length co12) t178 (fun k_ => some k_ = (.slice Ao15 t182.length co15 : Value).ownBlock) (.slice Ao15 t182.length co15) t182 t188 w _ ?side1 ?side2 ?side3 ?side4 ?side5 A5.out) ?_; (case side1 => repeat (first | (with_reducible first | exact HB.out | apply below_alloc | apply pw_below_drewN | apply below_drew1 | refine below_set ?_ GE186.out | refine below_set ?_ GE187.out) | exact HB.out)); (case side2 => exact Kd.R_tight rfl HO180.out); (case side3 => exact fun k_ e_ => (HO180.out.1 k_ e_.symm)); (case side4 => exact Kd.R_tight rfl HO184.out); (case side5 => exact fun k_ e_ => (HO184.out.1 k_ e_.symm)); rintro _ w19 ⟨v189, rfl, ho0, hb, hkp⟩; refine ⟨_, rfl, ?_⟩; have HO190 := Z0.mk (Kd.R_mono (ok' := fun k_ => True) ho0 (fun k_ hk_ => trivial)); replace BK186 := Z0.mk (blk_kept (hq BK186) hkp (fun hs_ => Or.elim hs_ (fun e_ => (fun e_ => (Kd.R_ne HO180.out BK186.out (by decide)) e_) e_) (fun e_ => (fun e_ => (Kd.R_ne HO184.out BK186.out (by decide)) e_) e_))); replace BK187 := Z0.mk (blk_kept (hq BK187) hkp (fun hs_ => Or.elim hs_ (fun e_ => (fun e_ => (Kd.R_ne HO180.out BK187.out (by decide)) e_) e_) (fun e_ => (fun e_ => (Kd.R_ne HO184.out BK187.out (by decide)) e_) e_))); replace HB := Z0.mk (hb); clear HO180 HO184; clear hb hkp ho0; obtain ⟨Ao20, co20, eo20⟩ := Kd.R_slice HO190.out; subst eo20) | ((with_reducible refine gc_ 56 rfl ?_); refine gL 25 Tryz.func56 (bInumber_text.calls false _ _ t188 t191 _ ?side3 ?side1 ?side2 A6.out) ?_; (case side1 => exact cq (Kd.R_reads' HO190.out).2.2); (case side2 => exact (Kd.R_reads' HO190.out).2.1); (case side3 => exact LaidW.below hL bqs); rintro _ w21 ⟨rfl, hb⟩; refine ⟨_, rfl, ?_⟩; replace HO190 := fR HO190 hb; replace BK186 := fk BK186 hb; replace BK187 := fk BK187 hb; replace HB := fB HB hb; clear hb))
  go_ret2
  exact finE
 simp only [Option.some.injEq, Prod.mk.injEq] at H
 obtain ⟨rfl, rfl⟩ := H
 go_enter Tryz.func19, Tryz.ntmps19
 go_wp2_with (first | ((with_reducible refine gc_ 54 rfl ?_); refine gL 12 Tryz.func54 (bIpair.calls _ _ _ _ _ _ _ _ _ A3.out) ?_; rintro _ w22 ⟨v179, v183, rfl, ho0, ho1, hb⟩; refine ⟨_, rfl, ?_⟩; have HO180 := fN ho0; have HO184 := fN ho1; replace HB := fB HB hb; clear hb ho0 ho1) | ((with_reducible refine gd_ 6 rfl ?_); refine bxE 6 #[.bool false, .slice none 0 0] 80 ?_; intro gb186 hg w23 hbox hb; have BK186 := Z0.mk hbox; have GW186 := fE HB hg; have GE186 := fE HB hg; replace HO180 := fR HO180 hb; replace HO184 := fR HO184 hb; replace HB := fB HB hb; clear hb hbox hg) | ((with_reducible refine gd_ 7 rfl ?_); refine bxE 7 #[.bool false, .slice none 0 0] 80 ?_; intro gb187 hg w24 hbox hb; have BK187 := Z0.mk hbox; have GW187 := fE HB hg; have GE187 := fE HB hg; have NB186_187 := fl BK186 hg; have NB187_186 := fg BK186 hg; replace HO180 := fR HO180 hb; replace HO184 := fR HO184 hb; replace BK186 := fk BK186 hb; replace HB := fB HB hb; clear hb hbox hg; have hnb25 := NB186_187.out; have hnc25 := NB187_186.out; obtain ⟨hcz26_0, hcz26_1, hfz26_0, hfz26_1⟩ := b2 BK186; obtain ⟨Ao27, co27, eo27⟩ := Kd.R_slice HO180.out; subst eo27; obtain ⟨hcz28_0, hcz28_1, hfz28_0, hfz28_1⟩ := b2 BK187; obtain ⟨Ao29, co29, eo29⟩ := Kd.R_slice HO184.out; subst eo29))
 go_ret2
 exact finE
theorem rAdigits.calls (a0 : ByteArray) (r : Int) (w : World) (h : rAdigits.f a0 = some r) :
  Calls Tryz.prog 49 #[.string a0] w fun e w' => e = .returned (.int .i64 r) ∧ Drawn0 w w' := by
 have H := h
 clear h
 unfold rAdigits.f at H
 obtain ⟨t192, A2, H⟩ := bnd H
 obtain rfl := Option.some.inj H
 go_enter Tryz.func49, Tryz.ntmps49
 go_wp2_with (first | ((with_reducible refine gc_ 68 rfl ?_); refine goD (some 4) Tryz.func68 #[.string a0, .string (⟨#[45]⟩ : ByteArray)] (strings_TrimPrefix.calls a0 (⟨#[45]⟩ : ByteArray) t192 _ A2.out) ?_; intro nd))
 go_ret
 exact finD
theorem rAless.calls (A0 : Option Addr) (c0 : Nat) (l0 : List Int) (A1 : Option Addr) (c1 : Nat) (l1 : List Int) (r : Bool) (w : World) (hr0 : Kd.C (Kd.int .u8) w A0 l0.length l0) (hc0 : l0.length ≤ c0) (hr1 : Kd.C (Kd.int .u8) w A1 l1.length l1) (hc1 : l1.length ≤ c1) (h : rAless.f l0 l1 = some r) :
  Calls Tryz.prog 126 #[.slice A0 l0.length c0, .slice A1 l1.length c1] w fun e w' => e = .returned (.bool r) ∧ Drawn0 w w' := by
 have HR0 := Z0.mk hr0
 have HC0 := Z0.mk hc0
 clear hr0 hc0
 have HR1 := Z0.mk hr1
 have HC1 := Z0.mk hc1
 clear hr1 hc1
 have H := h
 clear h
 unfold rAless.f at H
 rcases je H with ⟨c3, c3b0, c3b1, H⟩ | ⟨c3, c3b0, c3b1, H⟩
 ·have c3b2 : (l0.length == l1.length) = true := by first | simpa using c3 | (simp at c3 ⊢; omega)
  clear c3
  obtain rfl := Option.some.inj H
  have hcv4 := Kd.C_string (P := Tryz.prog) (A := A0) (c := c0) Tryz.underlying55 Tryz.underlying5 Tryz.underlying9 HR0.out
  have hcv5 := Kd.C_string (P := Tryz.prog) (A := A1) (c := c1) Tryz.underlying55 Tryz.underlying5 Tryz.underlying9 HR1.out
  go_enter Tryz.func126, Tryz.ntmps126
  go_wp2
  go_ret
  exact finD
 have c3b2 : (l0.length == l1.length) = false := by first | simpa using c3 | (simp at c3 ⊢; omega)
 obtain rfl := Option.some.inj H
 go_enter Tryz.func126, Tryz.ntmps126
 go_wp2
 go_ret
 exact finD
end Go.Proofs.YtinpcbjjnlpblaaGreatDoor.PA
