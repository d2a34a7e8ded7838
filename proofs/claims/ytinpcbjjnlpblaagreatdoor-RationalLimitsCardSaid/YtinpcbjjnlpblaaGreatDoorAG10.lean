import Derived.Test.YtinpcbjjnlpblaaGreatDoorAG1
import Derived.Test.YtinpcbjjnlpblaaGreatDoorAD
import Derived.Test.YtinpcbjjnlpblaaGreatDoorAG9
import Derived.Test.YtinpcbjjnlpblaaGreatDoorAG4
import Derived.Test.YtinpcbjjnlpblaaGreatDoorAG7
set_option maxHeartbeats 8000000
set_option maxRecDepth 100000
set_option linter.unusedVariables false
namespace Go.Proofs.YtinpcbjjnlpblaaGreatDoor.PA
set_option linter.unusedVariables false
open Go.RowKit Go.Proofs.WWords Go.Proofs.WLast Go.Proofs.WMore
attribute [local go_sem] max2_int min2_int max_two min_two max_three min_three max_four min_four
set_option linter.unusedSimpArgs false
theorem rEsplit.calls (k : Nat) (A0 : Option Addr) (c0 : Nat) (l0 : List Int) (A1 : Option Addr) (c1 : Nat) (l1 : List Int) (r1 : List Int) (r2 : List Int) (w : World) (hr0 : Kd.C (Kd.int .i64) w A0 l0.length l0) (hc0 : l0.length ≤ c0) (hr1 : Kd.C (Kd.int .i64) w A1 l1.length l1) (hc1 : l1.length ≤ c1) (h : rEsplit.f k l0 l1 = some (r1, r2)) :
  Calls Tryz.prog 121 #[.slice A0 l0.length c0, .slice A1 l1.length c1] w fun e w' => ∃ v0_ v1_ : Value, e = .returned (.tuple #[v0_, v1_]) ∧ Kd.V (Kd.int .i64) 3 w' w.heap.size (fun k_ => (w.heap.size ≤ k_)) v0_ r1 ∧ Kd.V (Kd.int .i64) 3 w' w.heap.size (fun k_ => (w.heap.size ≤ k_)) v1_ r2 ∧ Below w.heap.size w w' := by
 have HR0 := Z0.mk hr0
 have HC0 := Z0.mk hc0
 clear hr0 hc0
 have HR1 := Z0.mk hr1
 have HC1 := Z0.mk hc1
 clear hr1 hc1
 have HB := Z0.mk (Below.refl w.heap.size w)
 have H := h
 clear h
 unfold rEsplit.f at H
 obtain ⟨ji3, hji3⟩ : ∃ j_ : Int, (mx 0 (wrap64 ((wrap64 ((l0.length : Int) - (l1.length : Int))) + 1))) = j_ := ⟨_, rfl⟩
 replace H : (if 0 ≤ (ji3) then (if (ji3 : Int).toNat ≤ 35184372088832 then ((some (([] : List Int) : List Int)).bind fun y579 => (if (ji3) ≤ (l0.length : Int) then (if y579.length + (l0.drop ((ji3) : Int).toNat).length < 17592186044416 then (rEsplit.l0 k l0 l1 (List.replicate (ji3 : Int).toNat 0) (y579 ++ (l0.drop ((ji3) : Int).toNat)) (wrap64 ((ji3) - 1))) else (none)) else (none))) else (none)) else (none)) = some (r1, r2) := by first | (rw [hji3] at H; exact H) | (simp only [hji3] at H ⊢; exact H)
 (try (have hji3l : 0 ≤ ji3 := by (rw [← hji3]; unfold mx; (repeat' split) <;> omega)))
 (try (have hji3m : 0 ≤ ji3 := by omega))
 have hji3_ : (if 0 < (wrap64 ((wrap64 ((l0.length : Int) - (l1.length : Int))) + 1)) then (wrap64 ((wrap64 ((l0.length : Int) - (l1.length : Int))) + 1)) else 0) = ji3 := hji3
 obtain ⟨-, c4b0, c4b1, H⟩ := gt H
 obtain ⟨-, c5b0, c5b1, H⟩ := gt H
 generalize hy576 : (List.replicate (ji3 : Int).toNat 0 : List Int) = y576 at H
 have Ny576 := Z0.mk hy576.symm
 clear hy576
 obtain ⟨y579, Ny579, H⟩ := yb H
 have c6b0 := eq_true (od : 0 ≤ (ji3))
 obtain ⟨-, c7b0, c7b1, H⟩ := gt H
 obtain ⟨c8, H⟩ := gn H
 have LMc8 := Z0.mk c8
 clear c8
 generalize hy583 : (y579 ++ (l0.drop ((ji3) : Int).toNat) : List Int) = y583 at H
 have Ny583 := Z0.mk hy583.symm
 clear hy583
 have H' := Z0.mk H
 clear H
 go_enter Tryz.func121, Tryz.ntmps121
 go_wp2_with (first | ((with_reducible refine gd_ 18 rfl ?_); refine Kd.R_make (Kd.int .i64) _ 3 rfl (N := 18) rfl 78 _ _ rfl ji3 rfl rfl Tryz.underlying78 (.int .i64 0) 8 info3 rfl (by decide) (by omega) 0 (ok := fun _ => True) (okp := fun _ => True) rfl (fun _ hk => hk) trivial od (Nat.le_trans (Nat.mul_le_mul_right _ (od : ji3.toNat ≤ 35184372088832)) (by omega)) (Below.refl _ _) (Nat.le_refl _) ?_; intro v577 w9 ho10 hb hg_ hnew_; clear hg_ hnew_; (first | rw [← Ny576.out] at ho10 | (simp only [Int.reduceToNat] at ho10; rw [← Ny576.out] at ho10)); have HO578 := Z0.mk (Kd.R_lower (Kd.R_newM (M := fun k_ => (w.heap.size ≤ k_)) ho10 (below_size bqs) (fun k_ h_ => h_)) (below_size bqs)); replace HB := fB HB hb; clear hb ho10) | ((with_reducible refine gd_ 19 rfl ?_); refine Kd.R_lit (Kd.int .i64) _ 3 ?hg (N := 19) ?hd (xs := ([] : List Int)) (inner := []) (ok := fun _ => True) (okp := fun _ => True) ?hr ?hp (fun _ hk => hk) trivial (Below.refl _ _) (Nat.le_refl _) (by simp) ?_; (case hd => rfl); (case hg => rfl); (case hr => first | (go_simp; done) | (go_simp; rfl)); (case hp => exact (Reps.none _ _)); intro v580 w11 ho12 hb hg_ hnew_; clear hg_ hnew_; (first | rw [← Ny579.out] at ho12 | (simp only [Int.reduceToNat] at ho12; rw [← Ny579.out] at ho12)); have HO581 := Z0.mk (Kd.R_lower (Kd.R_new' (Kd.R_newM (M := fun k_ => (w.heap.size ≤ k_)) ho12 (below_size bqs) (fun k_ h_ => h_)) (Kd.R_lt (rq HO578))) (below_size bqs)); replace HO578 := Z0.mk (Kd.R_elder' (rq HO578) (Kd.R_base ho12) hb); replace HB := fB HB hb; clear hb ho12; obtain ⟨i013, hi013, _, hsz13, _⟩ := info_parts info3; obtain ⟨A13, hcut13, hA13, hC13⟩ := print_drop_of (P := Tryz.prog) (Value.int .i64) 0 78 3 .i64 Tryz.underlying78 hi013 hsz13 A0 c0 l0 (ji3) od od HC0.out; have HR582 := Z0.mk (Kd.C_of_reads (h1 := fun _ => rfl) (hA13 _ (Kd.reads_of_C HR0.out))); have HC582 := Z0.mk hC13; clear hA13 hC13 hi013 hsz13) | ((with_reducible refine gate_builtin (b := .append) (xs := #[.tmp 19, .tmp 22]) rfl ?_); at_builtin; refine Kd.R_append_rows (Kd.int .i64) (w0 := w) w.heap.size rfl (.tmp 19) (.tmp 22) 78 3 (.int .i64 0) 8 rfl Tryz.underlying78 info3 rfl (by decide) (by omega) v580 y579 (l0.drop ((ji3) : Int).toNat) _ _ _ (fun k_ => (w.heap.size ≤ k_) ∧ some k_ ≠ (v577 : Value).ownBlock) (fun _ => False) rfl rfl ?aO ?aR (fun _ _ h => h) (fun _ h => h.elim) ?aF ?aB ?aS ?aL ?_; (case aR => first | (rw [← show (l0.drop ((ji3) : Int).toNat).length = (l0.length - (ji3).toNat) from List.length_drop]; exact cq (Kd.C_below HR582.out HB.out)) | (exact cq (Kd.C_below HR582.out HB.out))); (case aB => exact bqs); (case aF => exact (fun k_ hk => ⟨(Nat.le_trans (below_size bqs) hk), Kd.fresh' (Kd.R_lt (rq HO578)) k_ hk⟩)); (case aO => exact (by (with_reducible repeat (first | apply Kd.R_alloc | apply Kd.R_drewN | apply Kd.R_drew)); exact Kd.R_mono HO581.out (fun _ hk => ⟨hk.1.1, hk.2⟩))); (case aS => exact (below_size bqs)); (case aL => have := LMc8.out; have hlx_ := (show (l0.drop ((ji3) : Int).toNat).length = (l0.length - (ji3).toNat) from List.length_drop); omega); intro v584 w14 ho hb hg hat; rw [← Ny583.out] at ho; have HO585 := Z0.mk (ho); replace HO578 := Z0.mk (Kd.R_after (ok := (fun k_ => (w.heap.size ≤ k_))) (by (with_reducible repeat (first | apply Kd.R_alloc | apply Kd.R_drewN | apply Kd.R_drew)); exact Kd.R_mono HO578.out (fun _ hk => ⟨hk.1.1, hk.2⟩)) hg hat); replace HB := Z0.mk (hb); clear HO581; clear ho hb hg hat))
 go_loopg [8, 9] k (fun kq v8 v9 w' => ∃ (x7_1 : List Int) (x8_1 : List Int) (x9_1 : Int), v9 = .int .i64 x9_1 ∧ Z0 (rEsplit.l0 kq l0 l1 x7_1 x8_1 x9_1 = some (r1, r2)) ∧ Z0 (kq ≤ k) ∧ Z0 (Kd.R (Kd.int .i64) 3 w' w.heap.size (fun k_ => (w.heap.size ≤ k_)) v577 x7_1) ∧ Z0 (Kd.V (Kd.int .i64) 3 w' w.heap.size (fun k_ => (w.heap.size ≤ k_) ∧ some k_ ≠ (v577 : Value).ownBlock) v8 x8_1) ∧ Z0 (Below w.heap.size w w'))
 case atStart => exact ⟨(y576), (y583), (wrap64 ((ji3) - 1)), (by first | rfl | (simp; done) | (simp only [← hji3] <;> (first | rfl | simp)) | (simp [*]; done)), H', ⟨Nat.le_refl _⟩, ⟨by (with_reducible repeat (first | apply Kd.R_alloc | apply Kd.R_drewN | apply Kd.R_drew)); exact Kd.R_mono HO578.out (fun _ hk => hk.1)⟩, ⟨Kd.R_V (rq HO585)⟩, ⟨bqs⟩⟩
 case round =>
  clear H'
  try clear c1
  try clear p2
  try clear c4
  try clear c4b0
  try clear c4b1
  try clear c5
  try clear c5b0
  try clear c5b1
  try clear c6
  try clear c6b0
  try clear p6
  try clear c7
  try clear c7b0
  try clear c7b1
  try clear c8
  obtain ⟨x7_1, x8_1, x9_1, rfl, HA, HK1, HO_7, HO_8, HB⟩ := hrel
  cases gk with
  | zero => exact absurd HA.out (by simp [rEsplit.l0])
  | succ k1 =>
   have H := HA.out
   clear HA
   simp only [rEsplit.l0] at H
   rcases jh H with ⟨-, c15b0, H⟩ | ⟨-, c15b0, H⟩
   ·obtain ⟨-, c16b0, H⟩ := gd H
    obtain ⟨-, c17b0, H⟩ := gd H
    obtain ⟨y590, Ny590, H⟩ := yb H
    obtain ⟨c18, H⟩ := gn H
    have LMc18 := Z0.mk c18
    clear c18
    generalize hy593 : (y590 ++ x8_1 : List Int) = y593 at H
    have Ny593 := Z0.mk hy593.symm
    clear hy593
    obtain ⟨t596, A19, H⟩ := bnd H
    have H' := Z0.mk H
    clear H
    obtain ⟨ad589, e589, hx589_0, p589, q589⟩ := atB HB HR0.out x9_1
    cases e589
    go_wp2_with (first | ((with_reducible refine gd_ 34 rfl ?_); refine Kd.R_lit (Kd.int .i64) _ 3 ?hg (N := 34) ?hd (xs := ([rd l0 x9_1] : List Int)) (inner := [.int .i64 (rd l0 x9_1)]) (ok := fun _ => True) (okp := fun _ => True) ?hr ?hp (fun _ hk => hk) trivial (Below.refl _ _) (Nat.le_refl _) (by simp) ?_; (case hd => rfl); (case hg => rfl); (case hr => first | (go_simp; done) | (go_simp; rfl)); (case hp => exact (Reps.one (show Kd.M (Kd.int .i64) _ _ _ (rd l0 x9_1) [.int .i64 (rd l0 x9_1)] from rfl) (Reps.none _ _))); intro v591 w20 ho21 hb hg_ hnew_; clear hg_ hnew_; (first | rw [← Ny590.out] at ho21 | (simp only [Int.reduceToNat] at ho21; rw [← Ny590.out] at ho21)); have HO592 := Z0.mk (Kd.R_lower (Kd.R_new' (Kd.R_newM (M := fun k_ => (w.heap.size ≤ k_)) ho21 (below_size bqs) (fun k_ h_ => h_)) (Kd.R_lt (rq HO_7))) (below_size bqs)); replace HO_7 := Z0.mk (Kd.R_elder' (rq HO_7) (Kd.R_base ho21) hb); replace HO_8 := Z0.mk (Kd.V_elder' (vq HO_8) (Kd.R_base ho21) hb); replace HB := fB HB hb; clear hb ho21; obtain ⟨Ao23, co23, eo23⟩ := Kd.V_slice HO_8.out; subst eo23) | ((with_reducible refine gate_builtin (b := .append) (xs := #[.tmp 34, .tmp 35]) rfl ?_); at_builtin; refine Kd.R_append_rows (Kd.int .i64) (w0 := w) w.heap.size rfl (.tmp 34) (.tmp 35) 78 3 (.int .i64 0) 8 rfl Tryz.underlying78 info3 rfl (by decide) (by omega) v591 y590 x8_1 _ _ _ (fun k_ => (w.heap.size ≤ k_) ∧ some k_ ≠ (v577 : Value).ownBlock) (fun _ => False) rfl rfl ?aO ?aR (fun _ _ h => h) (fun _ h => h.elim) ?aF ?aB ?aS ?aL ?_; (case aR => exact cq (Kd.V_reads' HO_8.out).2.2); (case aB => exact bqs); (case aF => exact (fun k_ hk => ⟨(Nat.le_trans (below_size bqs) hk), Kd.fresh' (Kd.R_lt (rq HO_7)) k_ hk⟩)); (case aO => exact (by (with_reducible repeat (first | apply Kd.R_alloc | apply Kd.R_drewN | apply Kd.R_drew)); exact Kd.R_mono HO592.out (fun _ hk => ⟨hk.1.1, hk.2⟩))); (case aS => exact (below_size bqs)); (case aL => have := LMc18.out; omega); intro v594 w22 ho hb hg hat; rw [← Ny593.out] at ho; have HO595 := Z0.mk (ho); replace HO_7 := Z0.mk (Kd.R_after (ok := (fun k_ => (w.heap.size ≤ k_))) (rq HO_7) hg hat); replace HO_8 := Z0.mk (Kd.V_afterv (ok := (fun k_ => (w.heap.size ≤ k_) ∧ some k_ ≠ (v577 : Value).ownBlock)) (vq HO_8) hg hat); replace HB := Z0.mk (hb); clear HO592; clear ho hb hg hat; obtain ⟨Ao24, co24, eo24⟩ := Kd.R_slice HO595.out; subst eo24) | ((with_reducible refine gc_ 87 rfl ?_); refine gL 37 Tryz.func87 (rEcut.calls k1 (fun k_ => some k_ = (.slice Ao24 y593.length co24 : Value).ownBlock) _ _ y593 t596 _ ?side1 A19.out) ?_; (case side1 => exact Kd.R_V (Kd.R_tight rfl (HO595.out))); rintro _ w25 ⟨v597, rfl, ho0, hb⟩; refine ⟨_, rfl, ?_⟩; have HO598 := Z0.mk (Kd.V_lower (Kd.V_mono (ok' := fun k_ => (w.heap.size ≤ k_) ∧ some k_ ≠ (v577 : Value).ownBlock) ho0 (fun k_ hk_ => ⟨Or.elim hk_ (fun hs_ => ((HO595.out).1 k_ hs_.symm).1) (fun hn_ => (Nat.le_trans (below_size bqs) hn_)), Or.elim hk_ (fun hs_ => ((HO595.out).1 k_ hs_.symm).2) (fun hn_ => (Kd.fresh' (Kd.R_lt (rq HO_7)) k_ hn_))⟩)) (below_size bqs)); replace HO_7 := fR HO_7 hb; replace HO_8 := fV HO_8 hb; replace HO595 := fR HO595 hb; replace HB := fB HB hb; clear hb ho0))
    go_loopg [8] k1 (fun kq v8 w' => ∃ (x7_2 : List Int) (x8_2 : List Int), Z0 (rEsplit.l1 kq l0 l1 x7_2 x8_2 x9_1 = some (r1, r2)) ∧ Z0 (kq ≤ k1) ∧ Z0 (Kd.R (Kd.int .i64) 3 w' w.heap.size (fun k_ => (w.heap.size ≤ k_)) v577 x7_2) ∧ Z0 (Kd.V (Kd.int .i64) 3 w' w.heap.size (fun k_ => (w.heap.size ≤ k_) ∧ some k_ ≠ (v577 : Value).ownBlock) v8 x8_2) ∧ Z0 (Below w.heap.size w w'))
    case atStart => exact ⟨(x7_1), (t596), H', ⟨Nat.le_refl _⟩, ⟨by (with_reducible repeat (first | apply Kd.R_alloc | apply Kd.R_drewN | apply Kd.R_drew)); exact Kd.R_mono HO_7.out (fun _ hk => hk.1)⟩, ⟨vq HO598⟩, ⟨bqs⟩⟩
    case round =>
     clear H'
     try clear c1
     try clear p2
     try clear c4
     try clear c4b0
     try clear c4b1
     try clear c5
     try clear c5b0
     try clear c5b1
     try clear p5
     try clear q5
     try clear hx5
     try clear c6
     try clear c6b0
     try clear p6
     try clear c7
     try clear c7b0
     try clear c7b1
     try clear c8
     try clear c14
     try clear c15
     try clear c15b0
     try clear c16
     try clear c16b0
     try clear c17
     try clear c17b0
     try clear c18
     try clear hx589_0
     try clear p2
     try clear p589
     try clear p6
     try clear q589
     obtain ⟨x7_2, x8_2, HA, HK2, HO_7, HO_8, HB⟩ := hrel
     cases gk with
     | zero => exact absurd HA.out (by simp [rEsplit.l1])
     | succ k2 =>
      have H := HA.out
      clear HA
      simp only [rEsplit.l1] at H
      obtain ⟨t599, A26, H⟩ := bnd H
      rcases jh H with ⟨-, c27b0, H⟩ | ⟨-, c27b0, H⟩
      ·obtain ⟨t600, A28, H⟩ := bnd H
       obtain ⟨-, c29b0, H⟩ := gd H
       obtain ⟨-, c30b0, H⟩ := gd H
       generalize hy604 : (x7_2.set (x9_1 : Int).toNat (wrap64 ((rd x7_2 x9_1) + 1)) : List Int) = y604 at H
       have Ny604 := Z0.mk hy604.symm
       clear hy604
       have H' := Z0.mk H
       clear H
       obtain ⟨Ao32, co32, eo32⟩ := Kd.V_slice HO_8.out
       subst eo32
       go_wp2_with (first | ((with_reducible refine gc_ 86 rfl ?_); refine gL 40 Tryz.func86 (rEorder.calls k2 _ _ x8_2 _ _ l1 t599 _ ?side1 ?side2 ?side3 ?side4 A26.out) ?_; (case side1 => exact cq (Kd.V_reads' HO_8.out).2.2); (case side2 => exact (Kd.V_reads' HO_8.out).2.1); (case side3 => exact cq (Kd.C_below HR1.out HB.out)); (case side4 => exact HC1.out); rintro _ w' ⟨rfl, ⟨nd, rfl⟩⟩; refine ⟨_, rfl, ?_⟩; (try (rw [drewN_self wr]; generalize hq_ : World.drewN wr _ = wr; have n0_ : Z0 (Kd.R (Kd.int .i64) 3 wr w.heap.size (fun k_ => (w.heap.size ≤ k_)) v577 x7_2) := ⟨by rw [← hq_]; exact (rq HO_7)⟩; have n1_ : Z0 (Kd.V (Kd.int .i64) 3 wr w.heap.size (fun k_ => (w.heap.size ≤ k_) ∧ some k_ ≠ (v577 : Value).ownBlock) (.slice Ao32 x8_2.length co32) x8_2) := ⟨by rw [← hq_]; exact (vq HO_8)⟩; have n2_ : Z0 (Below w.heap.size w wr) := ⟨by rw [← hq_]; exact bqs⟩; clear HO_7 HO_8 HB hq_; have HO_7 := n0_; have HO_8 := n1_; have HB := n2_; clear n0_ n1_ n2_))) | ((with_reducible refine gc_ 123 rfl ?_); refine gL 44 Tryz.func123 (rEminus.calls k2 _ _ x8_2 _ _ l1 t600 _ ?side1 ?side2 ?side3 ?side4 A28.out) ?_; (case side1 => exact cq (Kd.V_reads' HO_8.out).2.2); (case side2 => exact (Kd.V_reads' HO_8.out).2.1); (case side3 => exact cq (Kd.C_below HR1.out HB.out)); (case side4 => exact HC1.out); rintro _ w33 ⟨v601, rfl, ho0, hb⟩; refine ⟨_, rfl, ?_⟩; have HO602 := Z0.mk (Kd.V_lower (Kd.V_mono (ok' := fun k_ => (w.heap.size ≤ k_) ∧ some k_ ≠ (v577 : Value).ownBlock) ho0 (fun k_ hk_ => ⟨(Nat.le_trans (below_size bqs) hk_), (Kd.fresh' (Kd.R_lt (rq HO_7)) k_ hk_)⟩)) (below_size bqs)); replace HO_7 := fR HO_7 hb; replace HO_8 := fV HO_8 hb; replace HB := fB HB hb; clear hb ho0; obtain ⟨Ao34, co34, eo34⟩ := Kd.R_slice HO_7.out; subst eo34; have p603 : 0 ≤ (x9_1 : Int) := od; have q603 : x9_1 < (x7_2.length : Int) := od; obtain ⟨ad603, e603, hx603_0⟩ := Kd.at_int (Kd.R_reads' HO_7.out).2.2 x9_1 p603 q603; cases e603; replace p603 := eq_true p603; replace q603 := eq_true q603; have p31 : 0 ≤ (x9_1 : Int) := od; have q31 : (x9_1 : Int) < ((x7_2.length : Int) : Int) := od; obtain ⟨go31, co31, eo31, gb31, gl31, cl31, HG31⟩ := Kd.R_form HO_7.out (by omega); (first | cases eo31 | (injection eo31 with ea_ en_ ec_; (first | subst ea_ | (injection ea_ with ea_; subst ea_)); subst ec_; clear en_)); have GB31 := Z0.mk gb31; have GG31 := Z0.mk HG31; clear gb31 gl31 HG31; (first | simp only [add_plain] at hx603_0 | skip); obtain ⟨hx31_0, hf31_0⟩ := Kd.R_celln 0 HO_7.out (x9_1 : Int) p31 q31; replace p31 := eq_true p31; replace q31 := eq_true q31; obtain ⟨hy35_, hz35_⟩ := Kd.R_celln 0 HO_7.out (x9_1 : Int) od od; have HP35 := Kd.R_putg HO_7.out (x9_1 : Int) (wrap64 ((rd x7_2 x9_1) + 1))) | ((with_reducible refine gate_store (t := 3) (p := 52) rfl ?_); refine store_event (t := 3) (p := 52) (v := ?vo_w36) (w1 := (w33.setCell ⟨go31, (x9_1 : Int).toNat, none⟩ (.int .i64 (wrap64 ((rd x7_2 x9_1) + 1))))) ?hg ?ho ?hn ?hr ?_; (case ho => rfl); (case hg => rfl); (case hn => rfl); (case hr => first | (go_simp; done) | (go_simp; rfl)); intro w36 hw; have hg : w33.grownBy w36 (some go31) := (by rw [hw]; exact HP35.2); have hp_ : Kd.R (Kd.int .i64) 3 w36 w.heap.size (fun k_ => (w.heap.size ≤ k_)) (.slice (some ⟨go31, 0, none⟩) x7_2.length co34) y604 := (by rw [hw, Ny604.out]; exact HP35.1); clear HP35; replace HO_7 := Z0.mk (hp_); replace HO_8 := Z0.mk (Kd.V_afterv (v := (.slice (some ⟨go31, 0, none⟩) x7_2.length co34)) (v1 := (.slice (some ⟨go31, 0, none⟩) x7_2.length co34)) (ok := (fun k_ => (w.heap.size ≤ k_))) (vq HO_8) hg (.inl rfl)); replace HO602 := Z0.mk (Kd.V_afterv (v := (.slice (some ⟨go31, 0, none⟩) x7_2.length co34)) (v1 := (.slice (some ⟨go31, 0, none⟩) x7_2.length co34)) (ok := (fun k_ => (w.heap.size ≤ k_))) (vq HO602) hg (.inl rfl)); replace HB := Z0.mk ((by rw [hw]; exact below_set (HB.out) GB31.out : Below w.heap.size w w36)); clear hg hw hp_))
       go_roundg k2
       case measure => have := HK1.out; have := HK2.out; omega
       case rel => exact ⟨(y604), (t600), H', ⟨by have := HK1.out; have := HK2.out; omega⟩, ⟨rq HO_7⟩, ⟨vq HO602⟩, ⟨bqs⟩⟩
      have H' := Z0.mk H
      clear H
      obtain ⟨Ao37, co37, eo37⟩ := Kd.V_slice HO_8.out
      subst eo37
      go_wp2_with (first | ((with_reducible refine gc_ 86 rfl ?_); refine goesL_ (some 40) rfl rfl Tryz.func86 (by kernel_rfl) rfl #[.slice Ao37 x8_2.length co37, .slice A1 l1.length c1] rfl (by (try simp only [List.map_toArray, List.map_cons, List.map_nil]); first | done | rfl | (simp only [List.length_drop, List.length_take]; rfl)) ?_; (with_reducible refine (rEorder.calls k2 _ _ x8_2 _ _ l1 t599 _ ?side1 ?side2 ?side3 ?side4 A26.out).mono ?_); (case side1 => exact cq (Kd.V_reads' HO_8.out).2.2); (case side2 => exact (Kd.V_reads' HO_8.out).2.1); (case side3 => exact cq (Kd.C_below HR1.out HB.out)); (case side4 => exact HC1.out); rintro e w' ⟨rfl, ⟨nd, rfl⟩⟩; refine ⟨_, rfl, ?_⟩))
      go_roundg k2
      case measure => have := HK1.out; have := HK2.out; omega
      case rel => exact ⟨(x7_2), (x8_2), (wrap64 (x9_1 - 1)), fs, H', ⟨by have := HK1.out; have := HK2.out; omega⟩, ⟨rq HO_7⟩, ⟨vq HO_8⟩, ⟨bqs⟩⟩
   obtain ⟨t586, A38, H⟩ := bnd H
   simp only [Option.some.injEq, Prod.mk.injEq] at H
   obtain ⟨rfl, rfl⟩ := H
   obtain ⟨Ao39, co39, eo39⟩ := Kd.R_slice HO_7.out
   subst eo39
   go_wp2_with (first | ((with_reducible refine gc_ 87 rfl ?_); refine gL 54 Tryz.func87 (rEcut.calls k1 (fun k_ => some k_ = (.slice Ao39 x7_1.length co39 : Value).ownBlock) _ _ x7_1 t586 _ ?side1 A38.out) ?_; (case side1 => exact Kd.R_V (Kd.R_tight rfl (HO_7.out))); rintro _ w40 ⟨v587, rfl, ho0, hb⟩; refine ⟨_, rfl, ?_⟩; have HO588 := Z0.mk (Kd.V_lower (Kd.V_mono (ok' := fun k_ => (w.heap.size ≤ k_)) ho0 (fun k_ hk_ => Or.elim hk_ (fun hs_ => ((HO_7.out).1 k_ hs_.symm)) (fun hn_ => (Nat.le_trans (below_size bqs) hn_)))) (below_size bqs)); replace HO_7 := fR HO_7 hb; replace HO_8 := fV HO_8 hb; replace HB := fB HB hb; clear hb ho0))
   go_ret2
   exact ⟨_, _, by first | rfl | (simp [errW_none, errW_some] <;> rfl) | (simp only [← hji3]; first | rfl | (simp [errW_none, errW_some] <;> rfl)) | (simp [*, errW_none, errW_some] <;> rfl), vq HO588, by (with_reducible repeat (first | apply Kd.V_alloc | apply Kd.V_drewN | apply Kd.V_drew)); exact Kd.V_mono HO_8.out (fun _ hk => hk.1), bqs⟩
theorem rEFloor.calls (k : Nat) (a0 : ByteArray) (a1 : ByteArray) (r : ByteArray) (w : World) (h : rEFloor.f k a0 a1 = some r) :
  Calls Tryz.prog 83 #[.string a0, .string a1] w fun e w' => e = .returned (.string r) ∧ Below w.heap.size w w' := by
 have HB := Z0.mk (Below.refl w.heap.size w)
 have H := h
 clear h
 unfold rEFloor.f at H
 have HC3 := Z0.mk H
 clear H
 go_enter Tryz.func83, Tryz.ntmps83
 go_upto_region 1 with (fail)
 go_cut [13] (fun v13 wc => ∃ (kq : Nat) (x13_2 : Bool), v13 = .bool x13_2 ∧ Z0 (rEFloor.j0 kq a0 a1 x13_2 = some r) ∧ Z0 (kq ≤ k) ∧ Z0 (Below w.heap.size w wc))
 case first =>
  have H := HC3.out
  clear HC3
  obtain ⟨t605, A4, H⟩ := bnd H
  by_cases c5 : t605 = true
  ·subst c5
   have H1 : ((rEshort.f a1 17).bind fun t606 => (rEFloor.j0 k a0 a1 t606)) = some r := by rw [if_pos rfl] at H; exact H
   clear H
   have H := H1
   clear H1
   obtain ⟨t606, A6, H⟩ := bnd H
   have H' := Z0.mk H
   clear H
   go_wp2_with (first | ((with_reducible refine gc_ 119 rfl ?_); refine goD (some 9) Tryz.func119 #[.string a0, .int .i64 17] (rEshort.calls a0 17 true _ A4.out) ?_; intro nd) | (go_at_call 119; (with_reducible refine (rEshort.calls a1 17 t606 _ A6.out).mono ?_); rintro e w' ⟨rfl, ⟨nd, rfl⟩⟩))
   go_meet
   case rel => exact ⟨_, (t606), fs, H', ⟨by first | omega | exact Nat.le_refl _⟩, ⟨bqs⟩⟩
  replace c5 := Bool.eq_false_iff.mpr c5
  subst c5
  have H1 : (rEFloor.j0 k a0 a1 false) = some r := by rw [if_neg (show ¬ (false = true) by decide)] at H; exact H
  clear H
  have H := H1
  clear H1
  have H' := Z0.mk H
  clear H
  go_wp2_with (first | ((with_reducible refine gc_ 119 rfl ?_); refine goD (some 9) Tryz.func119 #[.string a0, .int .i64 17] (rEshort.calls a0 17 false _ A4.out) ?_; intro nd))
  go_meet
  case rel => exact ⟨_, (false), fs, H', ⟨by first | omega | exact Nat.le_refl _⟩, ⟨bqs⟩⟩
 case rest =>
  clear HC3
  try clear c1
  try clear p2
  try clear c5
  obtain ⟨kq, x13_2, rfl, HA, HJ2, HB⟩ := hcut
  cases kq with
  | zero => exact absurd HA.out (by simp [rEFloor.j0])
  | succ kj2 =>
   have H := HA.out
   clear HA
   simp only [rEFloor.j0] at H
   by_cases c7 : x13_2 = true
   ·subst c7
    have H1 : ((rEnumber.f kj2 a0).bind fun t607 => ((rEnumber.f kj2 a1).bind fun t608 => ((rEfloor.f t607 t608).bind fun t609 => ((rEWhole.f kj2 t609).bind fun t610 => (some t610))))) = some r := by rw [if_pos rfl] at H; exact H
    clear H
    have H := H1
    clear H1
    obtain ⟨t607, A8, H⟩ := bnd H
    obtain ⟨t608, A9, H⟩ := bnd H
    obtain ⟨t609, A10, H⟩ := bnd H
    obtain ⟨t610, A11, H⟩ := bnd H
    obtain rfl := Option.some.inj H
    go_wp2_with (first | ((with_reducible refine gc_ 74 rfl ?_); refine goD (some 15) Tryz.func74 #[.string a0] (rEnumber.calls kj2 a0 t607 _ A8.out) ?_; intro nd) | ((with_reducible refine gc_ 74 rfl ?_); refine goD (some 17) Tryz.func74 #[.string a1] (rEnumber.calls kj2 a1 t608 _ A9.out) ?_; intro nd) | ((with_reducible refine gc_ 120 rfl ?_); refine goD (some 18) Tryz.func120 #[.int .i64 t607, .int .i64 t608] (rEfloor.calls t607 t608 t609 _ A10.out) ?_; intro nd) | ((with_reducible refine gc_ 73 rfl ?_); refine goB (some 19) Tryz.func73 #[.int .i64 t609] bq (rEWhole.calls kj2 t609 t610 _ A11.out) ?_; clear HB; intro w12 HB))
    go_ret
    exact finE
   replace c7 := Bool.eq_false_iff.mpr c7
   subst c7
   have H1 : ((rEdigits.f kj2 a0).bind fun t611 => ((rEcut.f kj2 t611).bind fun t614 => ((rEdigits.f kj2 a1).bind fun t617 => ((rEcut.f kj2 t617).bind fun t620 => ((rEsplit.f kj2 t614 t620).bind fun bt623 => ((rENegative.f a0).bind fun t629 => ((rENegative.f a1).bind fun t630 => ((rEmade.f kj2 bt623.1 (t629 != t630)).bind fun t631 => ((rENegative.f a0).bind fun t632 => ((rENegative.f a1).bind fun t633 => (if (t632 != t633) = true then (if (bt623.2.length : Int) > 0 then ((rEDiff.f kj2 t631 (⟨#[49]⟩ : ByteArray)).bind fun t634 => (some t634)) else (some t631)) else (some t631)))))))))))) = some r := by rw [if_neg (show ¬ (false = true) by decide)] at H; exact H
   clear H
   have H := H1
   clear H1
   obtain ⟨t611, A13, H⟩ := bnd H
   obtain ⟨t614, A14, H⟩ := bnd H
   obtain ⟨t617, A15, H⟩ := bnd H
   obtain ⟨t620, A16, H⟩ := bnd H
   obtain ⟨⟨t623, t626⟩, A17, H⟩ := bnd H
   try dsimp only at H
   obtain ⟨t629, A18, H⟩ := bnd H
   obtain ⟨t630, A19, H⟩ := bnd H
   obtain ⟨t631, A20, H⟩ := bnd H
   obtain ⟨t632, A21, H⟩ := bnd H
   obtain ⟨t633, A22, H⟩ := bnd H
   rcases jn H with ⟨c23, H⟩ | ⟨c23, H⟩
   ·have c23b0 : (t632 != t633) = true := c23
    (try (have c23b1 : decide (t632 = t633) = false := by simpa using c23))
    (try (have c23b2 : (t632 == t633) = false := by simpa using c23))
    (try (have c23b3 : ¬ (t632 = t633) := by simpa using c23))
    clear c23
    rcases jg H with ⟨c24, c24b0, H⟩ | ⟨c24, c24b0, H⟩
    ·have c24b1 : decide (0 < t626.length) = true := decide_eq_true (by omega)
     clear c24
     obtain ⟨t634, A25, H⟩ := bnd H
     obtain rfl := Option.some.inj H
     go_wp2_with (first | ((with_reducible refine gc_ 77 rfl ?_); refine gL 22 Tryz.func77 (rEdigits.calls _ _ _ _ A13.out) ?_; rintro _ w26 ⟨v612, rfl, ho0, hb⟩; refine ⟨_, rfl, ?_⟩; have HO613 := fN ho0; replace HB := fB HB hb; clear hb ho0; obtain ⟨Ao27, co27, eo27⟩ := Kd.R_slice HO613.out; subst eo27) | ((with_reducible refine gc_ 87 rfl ?_); refine gL 23 Tryz.func87 (rEcut.calls kj2 (fun k_ => some k_ = (.slice Ao27 t611.length co27 : Value).ownBlock) _ _ t611 t614 _ ?side1 A14.out) ?_; (case side1 => exact Kd.R_V (Kd.R_tight rfl (HO613.out))); rintro _ w28 ⟨v615, rfl, ho0, hb⟩; refine ⟨_, rfl, ?_⟩; have HO616 := Z0.mk (Kd.V_lower (Kd.V_mono (ok' := fun k_ => True) ho0 (fun k_ hk_ => trivial)) (below_size bqs)); replace HO613 := fR HO613 hb; replace HB := fB HB hb; clear hb ho0) | ((with_reducible refine gc_ 77 rfl ?_); refine gL 25 Tryz.func77 (rEdigits.calls _ _ _ _ A15.out) ?_; rintro _ w29 ⟨v618, rfl, ho0, hb⟩; refine ⟨_, rfl, ?_⟩; have HO619 := Z0.mk (Kd.R_lower (Kd.R_new' ho0 (Kd.R_lt (rq HO613))) (below_size bqs)); replace HO613 := Z0.mk (Kd.R_elder' (rq HO613) (Kd.R_base ho0) hb); replace HO616 := Z0.mk (Kd.V_elder' (vq HO616) (Kd.R_base ho0) hb); replace HB := fB HB hb; clear hb ho0; obtain ⟨Ao30, co30, eo30⟩ := Kd.R_slice HO619.out; subst eo30) | ((with_reducible refine gc_ 87 rfl ?_); refine gL 26 Tryz.func87 (rEcut.calls kj2 (fun k_ => some k_ = (.slice Ao30 t617.length co30 : Value).ownBlock) _ _ t617 t620 _ ?side1 A16.out) ?_; (case side1 => exact Kd.R_V (Kd.R_tight rfl (HO619.out))); rintro _ w31 ⟨v621, rfl, ho0, hb⟩; refine ⟨_, rfl, ?_⟩; have HO622 := Z0.mk (Kd.V_lower (Kd.V_mono (ok' := fun k_ => some k_ ≠ (.slice Ao27 t611.length co27 : Value).ownBlock) ho0 (fun k_ hk_ => Or.elim hk_ (fun hs_ => ((HO619.out).1 k_ hs_.symm).2) (fun hn_ => (Kd.fresh' (Kd.R_lt (rq HO613)) k_ hn_)))) (below_size bqs)); replace HO613 := fR HO613 hb; replace HO616 := fV HO616 hb; replace HO619 := fR HO619 hb; replace HB := fB HB hb; clear hb ho0; obtain ⟨Ao32, co32, eo32⟩ := Kd.V_slice HO616.out; subst eo32; obtain ⟨Ao33, co33, eo33⟩ := Kd.V_slice HO622.out; subst eo33) | ((with_reducible refine gc_ 121 rfl ?_); refine gL 27 Tryz.func121 (rEsplit.calls kj2 _ _ t614 _ _ t620 t623 t626 _ ?side1 ?side2 ?side3 ?side4 A17.out) ?_; (case side1 => exact cq (Kd.V_reads' HO616.out).2.2); (case side2 => exact (Kd.V_reads' HO616.out).2.1); (case side3 => exact cq (Kd.V_reads' HO622.out).2.2); (case side4 => exact (Kd.V_reads' HO622.out).2.1); rintro _ w34 ⟨v624, v627, rfl, ho0, ho1, hb⟩; refine ⟨_, rfl, ?_⟩; have HO625 := Z0.mk (Kd.V_lower (Kd.V_mono (ok' := fun k_ => some k_ ≠ (.slice Ao27 t611.length co27 : Value).ownBlock ∧ some k_ ≠ (.slice Ao30 t617.length co30 : Value).ownBlock) ho0 (fun k_ hk_ => ⟨(Kd.fresh' (Kd.R_lt (rq HO613)) k_ hk_), (Kd.fresh' (Kd.R_lt (rq HO619)) k_ hk_)⟩)) (below_size bqs)); have HO628 := Z0.mk (Kd.V_lower (Kd.V_mono (ok' := fun k_ => some k_ ≠ (.slice Ao27 t611.length co27 : Value).ownBlock ∧ some k_ ≠ (.slice Ao30 t617.length co30 : Value).ownBlock) ho1 (fun k_ hk_ => ⟨(Kd.fresh' (Kd.R_lt (rq HO613)) k_ hk_), (Kd.fresh' (Kd.R_lt (rq HO619)) k_ hk_)⟩)) (below_size bqs)); replace HO613 := fR HO613 hb; replace HO616 := fV HO616 hb; replace HO619 := fR HO619 hb; replace HO622 := fV HO622 hb; replace HB := fB HB hb; clear hb ho0 ho1) | ((with_reducible refine gc_ 78 rfl ?_); refine goD (some 32) Tryz.func78 #[.string a0] (rENegative.calls a0 t629 _ A18.out) ?_; intro nd) | ((with_reducible refine gc_ 78 rfl ?_); refine gL 34 Tryz.func78 (rENegative.calls _ _ _ A19.out) ?_; rintro _ w' ⟨rfl, ⟨nd, rfl⟩⟩; refine ⟨_, rfl, ?_⟩; obtain ⟨Ao35, co35, eo35⟩ := Kd.V_slice HO625.out; subst eo35) | ((with_reducible refine gc_ 75 rfl ?_); refine gL 36 Tryz.func75 (rEmade.calls kj2 _ _ t623 (t629 != t630) t631 _ ?side1 ?side2 A20.out) ?_; (case side1 => exact cq (Kd.V_reads' HO625.out).2.2); (case side2 => exact (Kd.V_reads' HO625.out).2.1); rintro _ w36 ⟨rfl, hb⟩; refine ⟨_, rfl, ?_⟩; replace HO613 := fR HO613 hb; replace HO616 := fV HO616 hb; replace HO619 := fR HO619 hb; replace HO622 := fV HO622 hb; replace HO625 := fV HO625 hb; replace HO628 := fV HO628 hb; replace HB := fB HB hb; clear hb) | ((with_reducible refine gc_ 78 rfl ?_); refine goD (some 38) Tryz.func78 #[.string a0] (rENegative.calls a0 t632 _ A21.out) ?_; intro nd) | ((with_reducible refine gc_ 78 rfl ?_); refine gL 40 Tryz.func78 (rENegative.calls _ _ _ A22.out) ?_; rintro _ w' ⟨rfl, ⟨nd, rfl⟩⟩; refine ⟨_, rfl, ?_⟩; obtain ⟨Ao37, co37, eo37⟩ := Kd.V_slice HO628.out; subst eo37) | ((with_reducible refine gc_ 85 rfl ?_); refine gL 48 Tryz.func85 (rEDiff.calls _ _ _ _ _ A25.out) ?_; rintro _ w38 ⟨rfl, hb⟩; refine ⟨_, rfl, ?_⟩; replace HO613 := fR HO613 hb; replace HO616 := fV HO616 hb; replace HO619 := fR HO619 hb; replace HO622 := fV HO622 hb; replace HO625 := fV HO625 hb; replace HO628 := fV HO628 hb; replace HB := fB HB hb; clear hb))
     go_ret
     exact finE
    have c24b1 : decide (0 < t626.length) = false := decide_eq_false (by omega)
    clear c24
    obtain rfl := Option.some.inj H
    go_wp2_with (first | ((with_reducible refine gc_ 77 rfl ?_); refine gL 22 Tryz.func77 (rEdigits.calls _ _ _ _ A13.out) ?_; rintro _ w39 ⟨v612, rfl, ho0, hb⟩; refine ⟨_, rfl, ?_⟩; have HO613 := fN ho0; replace HB := fB HB hb; clear hb ho0; obtain ⟨Ao40, co40, eo40⟩ := Kd.R_slice HO613.out; subst eo40) | ((with_reducible refine gc_ 87 rfl ?_); refine gL 23 Tryz.func87 (rEcut.calls kj2 (fun k_ => some k_ = (.slice Ao40 t611.length co40 : Value).ownBlock) _ _ t611 t614 _ ?side1 A14.out) ?_; (case side1 => exact Kd.R_V (Kd.R_tight rfl (HO613.out))); rintro _ w41 ⟨v615, rfl, ho0, hb⟩; refine ⟨_, rfl, ?_⟩; have HO616 := Z0.mk (Kd.V_lower (Kd.V_mono (ok' := fun k_ => True) ho0 (fun k_ hk_ => trivial)) (below_size bqs)); replace HO613 := fR HO613 hb; replace HB := fB HB hb; clear hb ho0) | ((with_reducible refine gc_ 77 rfl ?_); refine gL 25 Tryz.func77 (rEdigits.calls _ _ _ _ A15.out) ?_; rintro _ w42 ⟨v618, rfl, ho0, hb⟩; refine ⟨_, rfl, ?_⟩; have HO619 := Z0.mk (Kd.R_lower (Kd.R_new' ho0 (Kd.R_lt (rq HO613))) (below_size bqs)); replace HO613 := Z0.mk (Kd.R_elder' (rq HO613) (Kd.R_base ho0) hb); replace HO616 := Z0.mk (Kd.V_elder' (vq HO616) (Kd.R_base ho0) hb); replace HB := fB HB hb; clear hb ho0; obtain ⟨Ao43, co43, eo43⟩ := Kd.R_slice HO619.out; subst eo43) | ((with_reducible refine gc_ 87 rfl ?_); refine gL 26 Tryz.func87 (rEcut.calls kj2 (fun k_ => some k_ = (.slice Ao43 t617.length co43 : Value).ownBlock) _ _ t617 t620 _ ?side1 A16.out) ?_; (case side1 => exact Kd.R_V (Kd.R_tight rfl (HO619.out))); rintro _ w44 ⟨v621, rfl, ho0, hb⟩; refine ⟨_, rfl, ?_⟩; have HO622 := Z0.mk (Kd.V_lower (Kd.V_mono (ok' := fun k_ => some k_ ≠ (.slice Ao40 t611.length co40 : Value).ownBlock) ho0 (fun k_ hk_ => Or.elim hk_ (fun hs_ => ((HO619.out).1 k_ hs_.symm).2) (fun hn_ => (Kd.fresh' (Kd.R_lt (rq HO613)) k_ hn_)))) (below_size bqs)); replace HO613 := fR HO613 hb; replace HO616 := fV HO616 hb; replace HO619 := fR HO619 hb; replace HB := fB HB hb; clear hb ho0; obtain ⟨Ao45, co45, eo45⟩ := Kd.V_slice HO616.out; subst eo45; obtain ⟨Ao46, co46, eo46⟩ := Kd.V_slice HO622.out; subst eo46) | ((with_reducible refine gc_ 121 rfl ?_); refine gL 27 Tryz.func121 (rEsplit.calls kj2 _ _ t614 _ _ t620 t623 t626 _ ?side1 ?side2 ?side3 ?side4 A17.out) ?_; (case side1 => exact cq (Kd.V_reads' HO616.out).2.2); (case side2 => exact (Kd.V_reads' HO616.out).2.1); (case side3 => exact cq (Kd.V_reads' HO622.out).2.2); (case side4 => exact (Kd.V_reads' HO622.out).2.1); rintro _ w47 ⟨v624, v627, rfl, ho0, ho1, hb⟩; refine ⟨_, rfl, ?_⟩; have HO625 := Z0.mk (Kd.V_lower (Kd.V_mono (ok' := fun k_ => some k_ ≠ (.slice Ao40 t611.length co40 : Value).ownBlock ∧ some k_ ≠ (.slice Ao43 t617.length co43 : Value).ownBlock) ho0 (fun k_ hk_ => ⟨(Kd.fresh' (Kd.R_lt (rq HO613)) k_ hk_), (Kd.fresh' (Kd.R_lt (rq HO619)) k_ hk_)⟩)) (below_size bqs)); have HO628 := Z0.mk (Kd.V_lower (Kd.V_mono (ok' := fun k_ => some k_ ≠ (.slice Ao40 t611.length co40 : Value).ownBlock ∧ some k_ ≠ (.slice Ao43 t617.length co43 : Value).ownBlock) ho1 (fun k_ hk_ => ⟨(Kd.fresh' (Kd.R_lt (rq HO613)) k_ hk_), (Kd.fresh' (Kd.R_lt (rq HO619)) k_ hk_)⟩)) (below_size bqs)); replace HO613 := fR HO613 hb; replace HO616 := fV HO616 hb; replace HO619 := fR HO619 hb; replace HO622 := fV HO622 hb; replace HB := fB HB hb; clear hb ho0 ho1) | ((with_reducible refine gc_ 78 rfl ?_); refine goD (some 32) Tryz.func78 #[.string a0] (rENegative.calls a0 t629 _ A18.out) ?_; intro nd) | ((with_reducible refine gc_ 78 rfl ?_); refine gL 34 Tryz.func78 (rENegative.calls _ _ _ A19.out) ?_; rintro _ w' ⟨rfl, ⟨nd, rfl⟩⟩; refine ⟨_, rfl, ?_⟩; obtain ⟨Ao48, co48, eo48⟩ := Kd.V_slice HO625.out; subst eo48) | ((with_reducible refine gc_ 75 rfl ?_); refine gL 36 Tryz.func75 (rEmade.calls kj2 _ _ t623 (t629 != t630) t631 _ ?side1 ?side2 A20.out) ?_; (case side1 => exact cq (Kd.V_reads' HO625.out).2.2); (case side2 => exact (Kd.V_reads' HO625.out).2.1); rintro _ w49 ⟨rfl, hb⟩; refine ⟨_, rfl, ?_⟩; replace HO613 := fR HO613 hb; replace HO616 := fV HO616 hb; replace HO619 := fR HO619 hb; replace HO622 := fV HO622 hb; replace HO625 := fV HO625 hb; replace HO628 := fV HO628 hb; replace HB := fB HB hb; clear hb) | ((with_reducible refine gc_ 78 rfl ?_); refine goD (some 38) Tryz.func78 #[.string a0] (rENegative.calls a0 t632 _ A21.out) ?_; intro nd) | ((with_reducible refine gc_ 78 rfl ?_); refine gL 40 Tryz.func78 (rENegative.calls _ _ _ A22.out) ?_; rintro _ w' ⟨rfl, ⟨nd, rfl⟩⟩; refine ⟨_, rfl, ?_⟩; obtain ⟨Ao50, co50, eo50⟩ := Kd.V_slice HO628.out; subst eo50))
    go_ret
    exact finE
   have c23b0 : (t632 != t633) = false := by simpa using c23
   (try (have c23b1 : decide (t632 = t633) = true := by simpa using c23))
   (try (have c23b2 : (t632 == t633) = true := by simpa using c23))
   clear c23
   obtain rfl := Option.some.inj H
   go_wp2_with (first | ((with_reducible refine gc_ 77 rfl ?_); refine gL 22 Tryz.func77 (rEdigits.calls _ _ _ _ A13.out) ?_; rintro _ w51 ⟨v612, rfl, ho0, hb⟩; refine ⟨_, rfl, ?_⟩; have HO613 := fN ho0; replace HB := fB HB hb; clear hb ho0; obtain ⟨Ao52, co52, eo52⟩ := Kd.R_slice HO613.out; subst eo52) | ((with_reducible refine gc_ 87 rfl ?_); refine gL 23 Tryz.func87 (rEcut.calls kj2 (fun k_ => some k_ = (.slice Ao52 t611.length co52 : Value).ownBlock) _ _ t611 t614 _ ?side1 A14.out) ?_; (case side1 => exact Kd.R_V (Kd.R_tight rfl (HO613.out))); rintro _ w53 ⟨v615, rfl, ho0, hb⟩; refine ⟨_, rfl, ?_⟩; have HO616 := Z0.mk (Kd.V_lower (Kd.V_mono (ok' := fun k_ => True) ho0 (fun k_ hk_ => trivial)) (below_size bqs)); replace HO613 := fR HO613 hb; replace HB := fB HB hb; clear hb ho0) | ((with_reducible refine gc_ 77 rfl ?_); refine gL 25 Tryz.func77 (rEdigits.calls _ _ _ _ A15.out) ?_; rintro _ w54 ⟨v618, rfl, ho0, hb⟩; refine ⟨_, rfl, ?_⟩; have HO619 := Z0.mk (Kd.R_lower (Kd.R_new' ho0 (Kd.R_lt (rq HO613))) (below_size bqs)); replace HO613 := Z0.mk (Kd.R_elder' (rq HO613) (Kd.R_base ho0) hb); replace HO616 := Z0.mk (Kd.V_elder' (vq HO616) (Kd.R_base ho0) hb); replace HB := fB HB hb; clear hb ho0; obtain ⟨Ao55, co55, eo55⟩ := Kd.R_slice HO619.out; subst eo55) | ((with_reducible refine gc_ 87 rfl ?_); refine gL 26 Tryz.func87 (rEcut.calls kj2 (fun k_ => some k_ = (.slice Ao55 t617.length co55 : Value).ownBlock) _ _ t617 t620 _ ?side1 A16.out) ?_; (case side1 => exact Kd.R_V (Kd.R_tight rfl (HO619.out))); rintro _ w56 ⟨v621, rfl, ho0, hb⟩; refine ⟨_, rfl, ?_⟩; have HO622 := Z0.mk (Kd.V_lower (Kd.V_mono (ok' := fun k_ => some k_ ≠ (.slice Ao52 t611.length co52 : Value).ownBlock) ho0 (fun k_ hk_ => Or.elim hk_ (fun hs_ => ((HO619.out).1 k_ hs_.symm).2) (fun hn_ => (Kd.fresh' (Kd.R_lt (rq HO613)) k_ hn_)))) (below_size bqs)); replace HO613 := fR HO613 hb; replace HO616 := fV HO616 hb; replace HO619 := fR HO619 hb; replace HB := fB HB hb; clear hb ho0; obtain ⟨Ao57, co57, eo57⟩ := Kd.V_slice HO616.out; subst eo57; obtain ⟨Ao58, co58, eo58⟩ := Kd.V_slice HO622.out; subst eo58) | ((with_reducible refine gc_ 121 rfl ?_); refine gL 27 Tryz.func121 (rEsplit.calls kj2 _ _ t614 _ _ t620 t623 t626 _ ?side1 ?side2 ?side3 ?side4 A17.out) ?_; (case side1 => exact cq (Kd.V_reads' HO616.out).2.2); (case side2 => exact (Kd.V_reads' HO616.out).2.1); (case side3 => exact cq (Kd.V_reads' HO622.out).2.2); (case side4 => exact (Kd.V_reads' HO622.out).2.1); rintro _ w59 ⟨v624, v627, rfl, ho0, ho1, hb⟩; refine ⟨_, rfl, ?_⟩; have HO625 := Z0.mk (Kd.V_lower (Kd.V_mono (ok' := fun k_ => some k_ ≠ (.slice Ao52 t611.length co52 : Value).ownBlock ∧ some k_ ≠ (.slice Ao55 t617.length co55 : Value).ownBlock) ho0 (fun k_ hk_ => ⟨(Kd.fresh' (Kd.R_lt (rq HO613)) k_ hk_), (Kd.fresh' (Kd.R_lt (rq HO619)) k_ hk_)⟩)) (below_size bqs)); have HO628 := Z0.mk (Kd.V_lower (Kd.V_mono (ok' := fun k_ => some k_ ≠ (.slice Ao52 t611.length co52 : Value).ownBlock ∧ some k_ ≠ (.slice Ao55 t617.length co55 : Value).ownBlock) ho1 (fun k_ hk_ => ⟨(Kd.fresh' (Kd.R_lt (rq HO613)) k_ hk_), (Kd.fresh' (Kd.R_lt (rq HO619)) k_ hk_)⟩)) (below_size bqs)); replace HO613 := fR HO613 hb; replace HO616 := fV HO616 hb; replace HO619 := fR HO619 hb; replace HO622 := fV HO622 hb; replace HB := fB HB hb; clear hb ho0 ho1) | ((with_reducible refine gc_ 78 rfl ?_); refine goD (some 32) Tryz.func78 #[.string a0] (rENegative.calls a0 t629 _ A18.out) ?_; intro nd) | ((with_reducible refine gc_ 78 rfl ?_); refine gL 34 Tryz.func78 (rENegative.calls _ _ _ A19.out) ?_; rintro _ w' ⟨rfl, ⟨nd, rfl⟩⟩; refine ⟨_, rfl, ?_⟩; obtain ⟨Ao60, co60, eo60⟩ := Kd.V_slice HO625.out; subst eo60) | ((with_reducible refine gc_ 75 rfl ?_); refine gL 36 Tryz.func75 (rEmade.calls kj2 _ _ t623 (t629 != t630) t631 _ ?side1 ?side2 A20.out) ?_; (case side1 => exact cq (Kd.V_reads' HO625.out).2.2); (case side2 => exact (Kd.V_reads' HO625.out).2.1); rintro _ w61 ⟨rfl, hb⟩; refine ⟨_, rfl, ?_⟩; replace HO613 := fR HO613 hb; replace HO616 := fV HO616 hb; replace HO619 := fR HO619 hb; replace HO622 := fV HO622 hb; replace HO625 := fV HO625 hb; replace HO628 := fV HO628 hb; replace HB := fB HB hb; clear hb) | ((with_reducible refine gc_ 78 rfl ?_); refine goD (some 38) Tryz.func78 #[.string a0] (rENegative.calls a0 t632 _ A21.out) ?_; intro nd) | ((with_reducible refine gc_ 78 rfl ?_); refine goD (some 40) Tryz.func78 #[.string a1] (rENegative.calls a1 t633 _ A22.out) ?_; intro nd))
   go_ret
   exact finE
theorem rEtimes.calls (k : Nat) (A0 : Option Addr) (c0 : Nat) (l0 : List Int) (A1 : Option Addr) (c1 : Nat) (l1 : List Int) (r : List Int) (w : World) (hr0 : Kd.C (Kd.int .i64) w A0 l0.length l0) (hc0 : l0.length ≤ c0) (hr1 : Kd.C (Kd.int .i64) w A1 l1.length l1) (hc1 : l1.length ≤ c1) (h : rEtimes.f k l0 l1 = some r) :
  Calls Tryz.prog 76 #[.slice A0 l0.length c0, .slice A1 l1.length c1] w fun e w' => ∃ v0_ : Value, e = .returned (v0_) ∧ Kd.V (Kd.int .i64) 3 w' w.heap.size (fun k_ => (w.heap.size ≤ k_)) v0_ r ∧ Below w.heap.size w w' := by
 have HR0 := Z0.mk hr0
 have HC0 := Z0.mk hc0
 clear hr0 hc0
 have HR1 := Z0.mk hr1
 have HC1 := Z0.mk hc1
 clear hr1 hc1
 have HB := Z0.mk (Below.refl w.heap.size w)
 have H := h
 clear h
 unfold rEtimes.f at H
 obtain ⟨ji3, hji3⟩ : ∃ j_ : Int, (wrap64 ((l0.length : Int) + (l1.length : Int))) = j_ := ⟨_, rfl⟩
 replace H : (if 0 ≤ (ji3) then (if (ji3 : Int).toNat ≤ 35184372088832 then (rEtimes.l0 k l0 l1 (List.replicate (ji3 : Int).toNat 0) 0) else (none)) else (none)) = some r := by first | (rw [hji3] at H; exact H) | (simp only [hji3] at H ⊢; exact H)
 have hji3w : (IntKind.i64.wrap ((l0.length : Int) + (l1.length : Int))) = ji3 := (i64_w _).trans hji3
 obtain ⟨-, c4b0, c4b1, H⟩ := gt H
 obtain ⟨-, c5b0, c5b1, H⟩ := gt H
 generalize hy489 : (List.replicate (ji3 : Int).toNat 0 : List Int) = y489 at H
 have Ny489 := Z0.mk hy489.symm
 clear hy489
 have H' := Z0.mk H
 clear H
 go_enter Tryz.func76, Tryz.ntmps76
 go_wp2_with (first | ((with_reducible refine gd_ 14 rfl ?_); refine Kd.R_make (Kd.int .i64) _ 3 rfl (N := 14) rfl 78 _ _ rfl ji3 rfl rfl Tryz.underlying78 (.int .i64 0) 8 info3 rfl (by decide) (by omega) 0 (ok := fun _ => True) (okp := fun _ => True) rfl (fun _ hk => hk) trivial od (Nat.le_trans (Nat.mul_le_mul_right _ (od : ji3.toNat ≤ 35184372088832)) (by omega)) (Below.refl _ _) (Nat.le_refl _) ?_; intro v490 w6 ho7 hb hg_ hnew_; clear hg_ hnew_; (first | rw [← Ny489.out] at ho7 | (simp only [Int.reduceToNat] at ho7; rw [← Ny489.out] at ho7)); have HO491 := Z0.mk (Kd.R_lower (Kd.R_newM (M := fun k_ => (w.heap.size ≤ k_)) ho7 (below_size bqs) (fun k_ h_ => h_)) (below_size bqs)); replace HB := fB HB hb; clear hb ho7) | (go_quiet (fail)))
 go_loopg [6] k (fun kq v6 w' => ∃ (x5_1 : List Int) (x6_1 : Int), v6 = .int .i64 x6_1 ∧ Z0 (rEtimes.l0 kq l0 l1 x5_1 x6_1 = some r) ∧ Z0 (kq ≤ k) ∧ Z0 (Kd.R (Kd.int .i64) 3 w' w.heap.size (fun k_ => (w.heap.size ≤ k_)) v490 x5_1) ∧ Z0 (Below w.heap.size w w'))
 case atStart => exact ⟨(y489), (0), fs, H', ⟨Nat.le_refl _⟩, ⟨by (with_reducible repeat (first | apply Kd.R_alloc | apply Kd.R_drewN | apply Kd.R_drew)); exact Kd.R_mono HO491.out (fun _ hk => hk.1)⟩, ⟨bqs⟩⟩
 case round =>
  clear H'
  try clear c1
  try clear p2
  try clear c4
  try clear c4b0
  try clear c4b1
  try clear c5
  try clear c5b0
  try clear c5b1
  try clear p6
  obtain ⟨x5_1, x6_1, rfl, HA, HK1, HO_5, HB⟩ := hrel
  cases gk with
  | zero => exact absurd HA.out (by simp [rEtimes.l0])
  | succ k1 =>
   have H := HA.out
   clear HA
   simp only [rEtimes.l0] at H
   rcases jd H with ⟨-, c8b0, H⟩ | ⟨-, c8b0, H⟩
   ·have H' := Z0.mk H
    clear H
    go_wp2
    repeat (go_quiet (fail); try go_wp2)
    go_loopg [7, 8] k1 (fun kq v7 v8 w' => ∃ (x5_2 : List Int) (x7_2 : Int) (x8_2 : Int), v7 = .int .i64 x7_2 ∧ v8 = .int .i64 x8_2 ∧ Z0 (rEtimes.l1 kq l0 l1 x5_2 x6_1 x7_2 x8_2 = some r) ∧ Z0 (kq ≤ k1) ∧ Z0 (Kd.R (Kd.int .i64) 3 w' w.heap.size (fun k_ => (w.heap.size ≤ k_)) v490 x5_2) ∧ Z0 (Below w.heap.size w w'))
    case atStart => exact ⟨(x5_1), (0), (0), fs, fs, H', ⟨Nat.le_refl _⟩, ⟨rq HO_5⟩, ⟨bqs⟩⟩
    case round =>
     clear H'
     try clear c1
     try clear p2
     try clear c4
     try clear c4b0
     try clear c4b1
     try clear c5
     try clear c5b0
     try clear c5b1
     try clear p6
     try clear c8
     try clear c8b0
     try clear p2
     try clear p6
     obtain ⟨x5_2, x7_2, x8_2, rfl, rfl, HA, HK2, HO_5, HB⟩ := hrel
     cases gk with
     | zero => exact absurd HA.out (by simp [rEtimes.l1])
     | succ k2 =>
      have H := HA.out
      clear HA
      simp only [rEtimes.l1] at H
      rcases jd H with ⟨-, c9b0, H⟩ | ⟨-, c9b0, H⟩
      ·obtain ⟨ji10, hji10⟩ : ∃ j_ : Int, (wrap64 (x6_1 + x8_2)) = j_ := ⟨_, rfl⟩
       replace H : (if 0 ≤ (ji10) then (if (ji10) < (x5_2.length : Int) then (if 0 ≤ x6_1 then (if x6_1 < (l0.length : Int) then (if 0 ≤ x8_2 then (rEtimes.l1 k2 l0 l1 (x5_2.set ((ji10) : Int).toNat (Int.tmod (wrap64 (x7_2 + (wrap64 ((rd x5_2 (ji10)) + (wrap64 ((rd l0 x6_1) * (rd l1 x8_2))))))) 10)) x6_1 (wrap64 (Int.tdiv (wrap64 (x7_2 + (wrap64 ((rd x5_2 (ji10)) + (wrap64 ((rd l0 x6_1) * (rd l1 x8_2))))))) 10)) (wrap64 (x8_2 + 1))) else (none)) else (none)) else (none)) else (none)) else (none)) = some r := by first | (rw [hji10] at H; exact H) | (simp only [hji10] at H ⊢; exact H)
       have hji10w : (IntKind.i64.wrap (x6_1 + x8_2)) = ji10 := (i64_w _).trans hji10
       obtain ⟨-, c11b0, H⟩ := gd H
       obtain ⟨-, c12b0, H⟩ := gd H
       obtain ⟨-, c13b0, H⟩ := gd H
       obtain ⟨-, c14b0, H⟩ := gd H
       obtain ⟨-, c15b0, H⟩ := gd H
       generalize hy498 : (x5_2.set ((ji10) : Int).toNat (Int.tmod (wrap64 (x7_2 + (wrap64 ((rd x5_2 (ji10)) + (wrap64 ((rd l0 x6_1) * (rd l1 x8_2))))))) 10) : List Int) = y498 at H
       have Ny498 := Z0.mk hy498.symm
       clear hy498
       have H' := Z0.mk H
       clear H
       obtain ⟨Ao17, co17, eo17⟩ := Kd.R_slice HO_5.out
       subst eo17
       obtain ⟨ad495, e495, hx495_0, p495, q495⟩ := atI (Kd.R_reads' HO_5.out).2.2 (ji10)
       cases e495
       obtain ⟨ad496, e496, hx496_0, p496, q496⟩ := atB HB HR0.out x6_1
       cases e496
       obtain ⟨ad497, e497, hx497_0, p497, q497⟩ := atB HB HR1.out x8_2
       cases e497
       have p16 : 0 ≤ ((ji10) : Int) := od
       have q16 : ((ji10) : Int) < ((x5_2.length : Int) : Int) := od
       obtain ⟨go16, co16, eo16, gb16, gl16, cl16, HG16⟩ := Kd.R_form HO_5.out (by omega)
       (first | cases eo16 | (injection eo16 with ea_ en_ ec_; (first | subst ea_ | (injection ea_ with ea_; subst ea_)); subst ec_; clear en_))
       have GB16 := Z0.mk gb16
       have GG16 := Z0.mk HG16
       clear gb16 gl16 HG16
       (first | simp only [add_plain] at hx495_0 | skip)
       obtain ⟨hx16_0, hf16_0⟩ := Kd.R_celln 0 HO_5.out ((ji10) : Int) p16 q16
       replace p16 := eq_true p16
       replace q16 := eq_true q16
       have HP18 := Kd.R_putg HO_5.out ((ji10) : Int) (Int.tmod (wrap64 (x7_2 + (wrap64 ((rd x5_2 (ji10)) + (wrap64 ((rd l0 x6_1) * (rd l1 x8_2))))))) 10)
       go_wp2_with (first | ((with_reducible refine gate_store (t := 3) (p := 51) rfl ?_); (try (rw [drewN_self wr]; generalize hq_ : World.drewN wr _ = wr; replace HO_5 := Z0.mk (Kd.R_at hq_ HO_5.out); replace HB := Z0.mk (below_at hq_ HB.out); clear hq_; (try (have HP18 := Kd.R_putg HO_5.out ((ji10) : Int) (Int.tmod (wrap64 (x7_2 + (wrap64 ((rd x5_2 (ji10)) + (wrap64 ((rd l0 x6_1) * (rd l1 x8_2))))))) 10))))); refine store_event (t := 3) (p := 51) (v := ?vo_w19) (w1 := (wr.setCell ⟨go16, ((ji10) : Int).toNat, none⟩ (.int .i64 (Int.tmod (wrap64 (x7_2 + (wrap64 ((rd x5_2 (ji10)) + (wrap64 ((rd l0 x6_1) * (rd l1 x8_2))))))) 10)))) ?hg ?ho ?hn ?hr ?_; (case ho => rfl); (case hg => rfl); (case hn => rfl); (case hr => first | (go_simp; done) | (go_simp; rfl) | (have hz_ := Kd.R_celln 0 HO_5.out ((ji10) : Int) (of_eq_true p16) (of_eq_true q16); go_simp; done)); intro w19 hw; have hg : wr.grownBy w19 (some go16) := (by rw [hw]; exact HP18.2); have hp_ : Kd.R (Kd.int .i64) 3 w19 w.heap.size (fun k_ => (w.heap.size ≤ k_)) (.slice (some ⟨go16, 0, none⟩) x5_2.length co17) y498 := (by rw [hw, Ny498.out]; exact HP18.1); clear HP18; replace HO_5 := Z0.mk (hp_); replace HB := Z0.mk ((by rw [hw]; exact below_set (HB.out) GB16.out : Below w.heap.size w w19)); clear hg hw hp_) | (go_quiet (fail)))
       go_roundg k2
       case measure => have := HK1.out; have := HK2.out; omega
       case rel => exact ⟨(y498), (wrap64 (Int.tdiv (wrap64 (x7_2 + (wrap64 ((rd x5_2 (ji10)) + (wrap64 ((rd l0 x6_1) * (rd l1 x8_2))))))) 10)), (wrap64 (x8_2 + 1)), (by first | rfl | (simp; done) | (simp only [← hji10] <;> (first | rfl | simp)) | (simp [*]; done)), fs, H', ⟨by have := HK1.out; have := HK2.out; omega⟩, ⟨rq HO_5⟩, ⟨bqs⟩⟩
      obtain ⟨ji20, hji20⟩ : ∃ j_ : Int, (wrap64 (x6_1 + (l1.length : Int))) = j_ := ⟨_, rfl⟩
      replace H : (if 0 ≤ (ji20) then (if (ji20) < (x5_2.length : Int) then (rEtimes.l0 k2 l0 l1 (x5_2.set ((ji20) : Int).toNat x7_2) (wrap64 (x6_1 + 1))) else (none)) else (none)) = some r := by first | (rw [hji20] at H; exact H) | (simp only [hji20] at H ⊢; exact H)
      have hji20w : (IntKind.i64.wrap (x6_1 + (l1.length : Int))) = ji20 := (i64_w _).trans hji20
      obtain ⟨-, c21b0, H⟩ := gd H
      obtain ⟨-, c22b0, H⟩ := gd H
      generalize hy499 : (x5_2.set ((ji20) : Int).toNat x7_2 : List Int) = y499 at H
      have Ny499 := Z0.mk hy499.symm
      clear hy499
      have H' := Z0.mk H
      clear H
      have p23 : 0 ≤ ((ji20) : Int) := od
      have q23 : ((ji20) : Int) < ((x5_2.length : Int) : Int) := od
      obtain ⟨go23, co23, eo23, gb23, gl23, cl23, HG23⟩ := Kd.R_form HO_5.out (by omega)
      (first | cases eo23 | (injection eo23 with ea_ en_ ec_; (first | subst ea_ | (injection ea_ with ea_; subst ea_)); subst ec_; clear en_))
      have GB23 := Z0.mk gb23
      have GG23 := Z0.mk HG23
      clear gb23 gl23 HG23
      obtain ⟨hx23_0, hf23_0⟩ := Kd.R_celln 0 HO_5.out ((ji20) : Int) p23 q23
      replace p23 := eq_true p23
      replace q23 := eq_true q23
      have HP24 := Kd.R_putg HO_5.out ((ji20) : Int) x7_2
      go_wp2_with (first | ((with_reducible refine gate_store (t := 3) (p := 60) rfl ?_); (try (rw [drewN_self wr]; generalize hq_ : World.drewN wr _ = wr; replace HO_5 := Z0.mk (Kd.R_at hq_ HO_5.out); replace HB := Z0.mk (below_at hq_ HB.out); clear hq_; (try (have HP24 := Kd.R_putg HO_5.out ((ji20) : Int) x7_2)))); refine store_event (t := 3) (p := 60) (v := ?vo_w25) (w1 := (wr.setCell ⟨go23, ((ji20) : Int).toNat, none⟩ (.int .i64 x7_2))) ?hg ?ho ?hn ?hr ?_; (case ho => rfl); (case hg => rfl); (case hn => rfl); (case hr => first | (go_simp; done) | (go_simp; rfl) | (have hz_ := Kd.R_celln 0 HO_5.out ((ji20) : Int) (of_eq_true p23) (of_eq_true q23); go_simp; done)); intro w25 hw; have hg : wr.grownBy w25 (some go23) := (by rw [hw]; exact HP24.2); have hp_ : Kd.R (Kd.int .i64) 3 w25 w.heap.size (fun k_ => (w.heap.size ≤ k_)) (.slice (some ⟨go23, 0, none⟩) x5_2.length co23) y499 := (by rw [hw, Ny499.out]; exact HP24.1); clear HP24; replace HO_5 := Z0.mk (hp_); replace HB := Z0.mk ((by rw [hw]; exact below_set (HB.out) GB23.out : Below w.heap.size w w25)); clear hg hw hp_) | (go_quiet (fail)))
      go_roundg k2
      case measure => have := HK1.out; have := HK2.out; omega
      case rel => exact ⟨(y499), (wrap64 (x6_1 + 1)), fs, H', ⟨by have := HK1.out; have := HK2.out; omega⟩, ⟨rq HO_5⟩, ⟨bqs⟩⟩
   obtain ⟨t492, A26, H⟩ := bnd H
   obtain rfl := Option.some.inj H
   obtain ⟨Ao27, co27, eo27⟩ := Kd.R_slice HO_5.out
   subst eo27
   go_wp2_with (first | (go_at_call 87; (with_reducible refine (rEcut.calls k1 (fun k_ => some k_ = (.slice Ao27 x5_1.length co27 : Value).ownBlock) _ _ x5_1 t492 _ ?side1 A26.out).mono ?_); (case side1 => exact Kd.R_V (Kd.R_tight rfl (HO_5.out))); rintro e w28 ⟨v493, rfl, ho0, hb⟩; have HO494 := Z0.mk (Kd.V_lower (Kd.V_mono (ok' := fun k_ => (w.heap.size ≤ k_)) ho0 (fun k_ hk_ => Or.elim hk_ (fun hs_ => ((HO_5.out).1 k_ hs_.symm)) (fun hn_ => (Nat.le_trans (below_size bqs) hn_)))) (below_size bqs)); replace HO_5 := fR HO_5 hb; replace HB := fB HB hb; clear hb ho0) | (go_quiet (first | (go_at_call 87; (with_reducible refine (rEcut.calls k1 (fun k_ => some k_ = (.slice Ao27 x5_1.length co27 : Value).ownBlock) _ _ x5_1 t492 _ ?side1 A26.out).mono ?_); (case side1 => exact Kd.R_V (Kd.R_tight rfl (HO_5.out))); rintro e w28 ⟨v493, rfl, ho0, hb⟩; have HO494 := Z0.mk (Kd.V_lower (Kd.V_mono (ok' := fun k_ => (w.heap.size ≤ k_)) ho0 (fun k_ hk_ => Or.elim hk_ (fun hs_ => ((HO_5.out).1 k_ hs_.symm)) (fun hn_ => (Nat.le_trans (below_size bqs) hn_)))) (below_size bqs)); replace HO_5 := fR HO_5 hb; replace HB := fB HB hb; clear hb ho0))))
   go_ret
   exact ⟨_, by first | rfl | (simp [errW_none, errW_some] <;> rfl) | (simp only [← hji3]; first | rfl | (simp [errW_none, errW_some] <;> rfl)) | (simp [*, errW_none, errW_some] <;> rfl), vq HO494, bqs⟩
theorem rEProduct.calls (k : Nat) (a0 : ByteArray) (a1 : ByteArray) (r : ByteArray) (w : World) (h : rEProduct.f k a0 a1 = some r) :
  Calls Tryz.prog 30 #[.string a0, .string a1] w fun e w' => e = .returned (.string r) ∧ Below w.heap.size w w' := by
 have HB := Z0.mk (Below.refl w.heap.size w)
 have H := h
 clear h
 unfold rEProduct.f at H
 obtain ⟨t500, A3, H⟩ := bnd H
 obtain ⟨t501, A4, H⟩ := bnd H
 rcases jd H with ⟨-, c5b0, H⟩ | ⟨-, c5b0, H⟩
 ·obtain ⟨t502, A6, H⟩ := bnd H
  obtain ⟨t503, A7, H⟩ := bnd H
  obtain ⟨t504, A8, H⟩ := bnd H
  obtain rfl := Option.some.inj H
  go_enter Tryz.func30, Tryz.ntmps30
  go_wp2_with (first | ((with_reducible refine gc_ 72 rfl ?_); refine goD (some 6) Tryz.func72 #[.string a0] (rEDigits.calls a0 t500 _ A3.out) ?_; intro nd) | ((with_reducible refine gc_ 72 rfl ?_); refine goD (some 8) Tryz.func72 #[.string a1] (rEDigits.calls a1 t501 _ A4.out) ?_; intro nd) | ((with_reducible refine gc_ 74 rfl ?_); refine goD (some 12) Tryz.func74 #[.string a0] (rEnumber.calls k a0 t502 _ A6.out) ?_; intro nd) | ((with_reducible refine gc_ 74 rfl ?_); refine goD (some 14) Tryz.func74 #[.string a1] (rEnumber.calls k a1 t503 _ A7.out) ?_; intro nd) | ((with_reducible refine gc_ 73 rfl ?_); refine goB (some 16) Tryz.func73 #[.int .i64 (wrap64 (t502 * t503))] bq (rEWhole.calls k (wrap64 (t502 * t503)) t504 _ A8.out) ?_; clear HB; intro w9 HB))
  go_ret
  exact finE
 obtain ⟨t505, A10, H⟩ := bnd H
 obtain ⟨t508, A11, H⟩ := bnd H
 obtain ⟨t511, A12, H⟩ := bnd H
 obtain ⟨t514, A13, H⟩ := bnd H
 obtain ⟨t515, A14, H⟩ := bnd H
 obtain ⟨t516, A15, H⟩ := bnd H
 obtain rfl := Option.some.inj H
 go_enter Tryz.func30, Tryz.ntmps30
 go_wp2_with (first | ((with_reducible refine gc_ 72 rfl ?_); refine goD (some 6) Tryz.func72 #[.string a0] (rEDigits.calls a0 t500 _ A3.out) ?_; intro nd) | ((with_reducible refine gc_ 72 rfl ?_); refine goD (some 8) Tryz.func72 #[.string a1] (rEDigits.calls a1 t501 _ A4.out) ?_; intro nd) | ((with_reducible refine gc_ 77 rfl ?_); refine gL 18 Tryz.func77 (rEdigits.calls _ _ _ _ A10.out) ?_; rintro _ w16 ⟨v506, rfl, ho0, hb⟩; refine ⟨_, rfl, ?_⟩; have HO507 := fN ho0; replace HB := fB HB hb; clear hb ho0) | ((with_reducible refine gc_ 77 rfl ?_); refine gL 20 Tryz.func77 (rEdigits.calls _ _ _ _ A11.out) ?_; rintro _ w17 ⟨v509, rfl, ho0, hb⟩; refine ⟨_, rfl, ?_⟩; have HO510 := Z0.mk (Kd.R_lower (Kd.R_new' ho0 (Kd.R_lt (rq HO507))) (below_size bqs)); replace HO507 := Z0.mk (Kd.R_elder' (rq HO507) (Kd.R_base ho0) hb); replace HB := fB HB hb; clear hb ho0; obtain ⟨Ao18, co18, eo18⟩ := Kd.R_slice HO507.out; subst eo18; obtain ⟨Ao19, co19, eo19⟩ := Kd.R_slice HO510.out; subst eo19) | ((with_reducible refine gc_ 76 rfl ?_); refine gL 21 Tryz.func76 (rEtimes.calls k _ _ t505 _ _ t508 t511 _ ?side1 ?side2 ?side3 ?side4 A12.out) ?_; (case side1 => exact cq (Kd.R_reads' HO507.out).2.2); (case side2 => exact (Kd.R_reads' HO507.out).2.1); (case side3 => exact cq (Kd.R_reads' HO510.out).2.2); (case side4 => exact (Kd.R_reads' HO510.out).2.1); rintro _ w20 ⟨v512, rfl, ho0, hb⟩; refine ⟨_, rfl, ?_⟩; have HO513 := Z0.mk (Kd.V_lower (Kd.V_mono (ok' := fun k_ => some k_ ≠ (.slice Ao18 t505.length co18 : Value).ownBlock ∧ some k_ ≠ (.slice Ao19 t508.length co19 : Value).ownBlock) ho0 (fun k_ hk_ => ⟨(Kd.fresh' (Kd.R_lt (rq HO507)) k_ hk_), (Kd.fresh' (Kd.R_lt (rq HO510)) k_ hk_)⟩)) (below_size bqs)); replace HO507 := fR HO507 hb; replace HO510 := fR HO510 hb; replace HB := fB HB hb; clear hb ho0) | ((with_reducible refine gc_ 78 rfl ?_); refine goD (some 23) Tryz.func78 #[.string a0] (rENegative.calls a0 t514 _ A13.out) ?_; intro nd) | ((with_reducible refine gc_ 78 rfl ?_); refine gL 25 Tryz.func78 (rENegative.calls _ _ _ A14.out) ?_; rintro _ w' ⟨rfl, ⟨nd, rfl⟩⟩; refine ⟨_, rfl, ?_⟩; obtain ⟨Ao21, co21, eo21⟩ := Kd.V_slice HO513.out; subst eo21) | ((with_reducible refine gc_ 75 rfl ?_); refine gL 27 Tryz.func75 (rEmade.calls k _ _ t511 (t514 != t515) t516 _ ?side1 ?side2 A15.out) ?_; (case side1 => exact cq (Kd.V_reads' HO513.out).2.2); (case side2 => exact (Kd.V_reads' HO513.out).2.1); rintro _ w22 ⟨rfl, hb⟩; refine ⟨_, rfl, ?_⟩; replace HO507 := fR HO507 hb; replace HO510 := fR HO510 hb; replace HO513 := fV HO513 hb; replace HB := fB HB hb; clear hb))
 go_ret
 exact finE
theorem rERest.calls (k : Nat) (a0 : ByteArray) (a1 : ByteArray) (r : ByteArray) (w : World) (h : rERest.f k a0 a1 = some r) :
  Calls Tryz.prog 118 #[.string a0, .string a1] w fun e w' => e = .returned (.string r) ∧ Below w.heap.size w w' := by
 have HB := Z0.mk (Below.refl w.heap.size w)
 have H := h
 clear h
 unfold rERest.f at H
 obtain ⟨t635, A3, H⟩ := bnd H
 obtain ⟨t636, A4, H⟩ := bnd H
 obtain ⟨t637, A5, H⟩ := bnd H
 obtain rfl := Option.some.inj H
 go_enter Tryz.func118, Tryz.ntmps118
 go_wp2_with (first | ((with_reducible refine gc_ 83 rfl ?_); refine goB (some 9) Tryz.func83 #[.string a0, .string a1] bq (rEFloor.calls k a0 a1 t635 _ A3.out) ?_; clear HB; intro w6 HB) | ((with_reducible refine gc_ 30 rfl ?_); refine goB (some 10) Tryz.func30 #[.string a1, .string t635] bq (rEProduct.calls k a1 t635 t636 _ A4.out) ?_; clear HB; intro w7 HB) | ((with_reducible refine gc_ 85 rfl ?_); refine goB (some 11) Tryz.func85 #[.string a0, .string t636] bq (rEDiff.calls k a0 t636 t637 _ A5.out) ?_; clear HB; intro w8 HB))
 go_ret
 exact finE
theorem rECommon.calls (k : Nat) (a0 : ByteArray) (a1 : ByteArray) (r : ByteArray) (w : World) (h : rECommon.f k a0 a1 = some r) :
  Calls Tryz.prog 82 #[.string a0, .string a1] w fun e w' => e = .returned (.string r) ∧ Below w.heap.size w w' := by
 have HB := Z0.mk (Below.refl w.heap.size w)
 have H := h
 clear h
 unfold rECommon.f at H
 obtain ⟨t638, A3, H⟩ := bnd H
 obtain ⟨t639, A4, H⟩ := bnd H
 have H' := Z0.mk H
 clear H
 go_enter Tryz.func82, Tryz.ntmps82
 go_wp2_with (first | ((with_reducible refine gc_ 117 rfl ?_); refine goD (some 8) Tryz.func117 #[.string a0] (rEMagnitude.calls a0 t638 _ A3.out) ?_; intro nd) | ((with_reducible refine gc_ 117 rfl ?_); refine goD (some 10) Tryz.func117 #[.string a1] (rEMagnitude.calls a1 t639 _ A4.out) ?_; intro nd))
 go_loopg [5, 6] k (fun kq v5 v6 w' => ∃ (x5_1 : ByteArray) (x6_1 : ByteArray), v5 = .string x5_1 ∧ v6 = .string x6_1 ∧ Z0 (rECommon.l0 kq x5_1 x6_1 = some r) ∧ Z0 (kq ≤ k) ∧ Z0 (Below w.heap.size w w'))
 case atStart => exact ⟨(t638), (t639), fs, fs, H', ⟨Nat.le_refl _⟩, ⟨bqs⟩⟩
 case round =>
  clear H'
  try clear c1
  try clear p2
  obtain ⟨x5_1, x6_1, rfl, rfl, HA, HK1, HB⟩ := hrel
  cases gk with
  | zero => exact absurd HA.out (by simp [rECommon.l0])
  | succ k1 =>
   have H := HA.out
   clear HA
   simp only [rECommon.l0] at H
   rcases je H with ⟨-, c5b0, c5b1, H⟩ | ⟨c5, c5b0, c5b1, H⟩
   ·obtain rfl := Option.some.inj H
    go_wp2
    go_ret
    exact finE
   obtain ⟨t640, A6, H⟩ := bnd H
   have H' := Z0.mk H
   clear H
   go_wp2_with (first | ((with_reducible refine gc_ 118 rfl ?_); refine goB (some 16) Tryz.func118 #[.string x5_1, .string x6_1] bq (rERest.calls k1 x5_1 x6_1 t640 _ A6.out) ?_; clear HB; intro w7 HB))
   go_roundg k1
   case measure => have := HK1.out; omega
   case rel => exact ⟨(x6_1), (t640), fs, fs, H', ⟨by have := HK1.out; omega⟩, ⟨bqs⟩⟩
theorem rESign.calls (a0 : ByteArray) (r : Int) (w : World) (h : rESign.f a0 = some r) :
  Calls Tryz.prog 80 #[.string a0] w fun e w' => e = .returned (.int .i64 r) ∧ Drawn0 w w' := by
 have H := h
 clear h
 unfold rESign.f at H
 rcases je H with ⟨-, c2b0, c2b1, H⟩ | ⟨c2, c2b0, c2b1, H⟩
 ·obtain rfl := Option.some.inj H
  go_enter Tryz.func80, Tryz.ntmps80
  go_wp2
  go_ret
  exact finD
 obtain ⟨t443, A3, H⟩ := bnd H
 by_cases c4 : t443 = true
 ·subst c4
  have H1 : (some (-1)) = some r := by rw [if_pos rfl] at H; exact H
  clear H
  have H := H1
  clear H1
  obtain rfl := Option.some.inj H
  go_enter Tryz.func80, Tryz.ntmps80
  go_wp2_with (first | ((with_reducible refine gc_ 78 rfl ?_); refine goD (some 6) Tryz.func78 #[.string a0] (rENegative.calls a0 true _ A3.out) ?_; intro nd))
  go_ret
  exact finD
 replace c4 := Bool.eq_false_iff.mpr c4
 subst c4
 have H1 : (some 1) = some r := by rw [if_neg (show ¬ (false = true) by decide)] at H; exact H
 clear H
 have H := H1
 clear H1
 obtain rfl := Option.some.inj H
 go_enter Tryz.func80, Tryz.ntmps80
 go_wp2_with (first | ((with_reducible refine gc_ 78 rfl ?_); refine goD (some 6) Tryz.func78 #[.string a0] (rENegative.calls a0 false _ A3.out) ?_; intro nd))
 go_ret
 exact finD
theorem rEOrder.calls (k : Nat) (a0 : ByteArray) (a1 : ByteArray) (r : Int) (w : World) (h : rEOrder.f k a0 a1 = some r) :
  Calls Tryz.prog 38 #[.string a0, .string a1] w fun e w' => e = .returned (.int .i64 r) ∧ Below w.heap.size w w' := by
 have HB := Z0.mk (Below.refl w.heap.size w)
 have H := h
 clear h
 unfold rEOrder.f at H
 obtain ⟨t462, A3, H⟩ := bnd H
 obtain ⟨t463, A4, H⟩ := bnd H
 rcases je H with ⟨-, c5b0, c5b1, H⟩ | ⟨c5, c5b0, c5b1, H⟩
 ·obtain ⟨t464, A6, H⟩ := bnd H
  obtain ⟨t467, A7, H⟩ := bnd H
  obtain ⟨t470, A8, H⟩ := bnd H
  obtain ⟨t473, A9, H⟩ := bnd H
  obtain ⟨t476, A10, H⟩ := bnd H
  obtain rfl := Option.some.inj H
  go_enter Tryz.func38, Tryz.ntmps38
  go_wp2_with (first | ((with_reducible refine gc_ 80 rfl ?_); refine goD (some 8) Tryz.func80 #[.string a0] (rESign.calls a0 t462 _ A3.out) ?_; intro nd) | ((with_reducible refine gc_ 80 rfl ?_); refine goD (some 10) Tryz.func80 #[.string a1] (rESign.calls a1 t463 _ A4.out) ?_; intro nd) | ((with_reducible refine gc_ 77 rfl ?_); refine gL 19 Tryz.func77 (rEdigits.calls _ _ _ _ A6.out) ?_; rintro _ w11 ⟨v465, rfl, ho0, hb⟩; refine ⟨_, rfl, ?_⟩; have HO466 := fN ho0; replace HB := fB HB hb; clear hb ho0; obtain ⟨Ao12, co12, eo12⟩ := Kd.R_slice HO466.out; subst eo12) | ((with_reducible refine gc_ 87 rfl ?_); refine gL 20 Tryz.func87 (rEcut.calls k (fun k_ => some k_ = (.slice Ao12 t464.length co12 : Value).ownBlock) _ _ t464 t467 _ ?side1 A7.out) ?_; (case side1 => exact Kd.R_V (Kd.R_tight rfl (HO466.out))); rintro _ w13 ⟨v468, rfl, ho0, hb⟩; refine ⟨_, rfl, ?_⟩; have HO469 := Z0.mk (Kd.V_lower (Kd.V_mono (ok' := fun k_ => True) ho0 (fun k_ hk_ => trivial)) (below_size bqs)); replace HO466 := fR HO466 hb; replace HB := fB HB hb; clear hb ho0) | ((with_reducible refine gc_ 77 rfl ?_); refine gL 22 Tryz.func77 (rEdigits.calls _ _ _ _ A8.out) ?_; rintro _ w14 ⟨v471, rfl, ho0, hb⟩; refine ⟨_, rfl, ?_⟩; have HO472 := Z0.mk (Kd.R_lower (Kd.R_new' ho0 (Kd.R_lt (rq HO466))) (below_size bqs)); replace HO466 := Z0.mk (Kd.R_elder' (rq HO466) (Kd.R_base ho0) hb); replace HO469 := Z0.mk (Kd.V_elder' (vq HO469) (Kd.R_base ho0) hb); replace HB := fB HB hb; clear hb ho0; obtain ⟨Ao15, co15, eo15⟩ := Kd.R_slice HO472.out; subst eo15) | ((with_reducible refine gc_ 87 rfl ?_); refine gL 23 Tryz.func87 (rEcut.calls k (fun k_ => some k_ = (.slice Ao15 t470.length co15 : Value).ownBlock) _ _ t470 t473 _ ?side1 A9.out) ?_; (case side1 => exact Kd.R_V (Kd.R_tight rfl (HO472.out))); rintro _ w16 ⟨v474, rfl, ho0, hb⟩; refine ⟨_, rfl, ?_⟩; have HO475 := Z0.mk (Kd.V_lower (Kd.V_mono (ok' := fun k_ => some k_ ≠ (.slice Ao12 t464.length co12 : Value).ownBlock) ho0 (fun k_ hk_ => Or.elim hk_ (fun hs_ => ((HO472.out).1 k_ hs_.symm).2) (fun hn_ => (Kd.fresh' (Kd.R_lt (rq HO466)) k_ hn_)))) (below_size bqs)); replace HO466 := fR HO466 hb; replace HO469 := fV HO469 hb; replace HO472 := fR HO472 hb; replace HB := fB HB hb; clear hb ho0; obtain ⟨Ao17, co17, eo17⟩ := Kd.V_slice HO469.out; subst eo17; obtain ⟨Ao18, co18, eo18⟩ := Kd.V_slice HO475.out; subst eo18) | ((with_reducible refine gc_ 86 rfl ?_); refine goesL_ (some 24) rfl rfl Tryz.func86 (by kernel_rfl) rfl #[.slice Ao17 t467.length co17, .slice Ao18 t473.length co18] rfl (by (try simp only [List.map_toArray, List.map_cons, List.map_nil]); first | done | rfl | (simp only [List.length_drop, List.length_take]; rfl)) ?_; (with_reducible refine (rEorder.calls k _ _ t467 _ _ t473 t476 _ ?side1 ?side2 ?side3 ?side4 A10.out).mono ?_); (case side1 => exact cq (Kd.V_reads' HO469.out).2.2); (case side2 => exact (Kd.V_reads' HO469.out).2.1); (case side3 => exact cq (Kd.V_reads' HO475.out).2.2); (case side4 => exact (Kd.V_reads' HO475.out).2.1); rintro e w' ⟨rfl, ⟨nd, rfl⟩⟩; refine ⟨_, rfl, ?_⟩))
  go_ret
  exact finE
 rcases jd H with ⟨-, c19b0, H⟩ | ⟨-, c19b0, H⟩
 ·obtain rfl := Option.some.inj H
  go_enter Tryz.func38, Tryz.ntmps38
  go_wp2_with (first | ((with_reducible refine gc_ 80 rfl ?_); refine goD (some 8) Tryz.func80 #[.string a0] (rESign.calls a0 t462 _ A3.out) ?_; intro nd) | ((with_reducible refine gc_ 80 rfl ?_); refine goD (some 10) Tryz.func80 #[.string a1] (rESign.calls a1 t463 _ A4.out) ?_; intro nd))
  go_ret
  exact finE
 obtain rfl := Option.some.inj H
 go_enter Tryz.func38, Tryz.ntmps38
 go_wp2_with (first | ((with_reducible refine gc_ 80 rfl ?_); refine goD (some 8) Tryz.func80 #[.string a0] (rESign.calls a0 t462 _ A3.out) ?_; intro nd) | ((with_reducible refine gc_ 80 rfl ?_); refine goD (some 10) Tryz.func80 #[.string a1] (rESign.calls a1 t463 _ A4.out) ?_; intro nd))
 go_ret
 exact finE
theorem rFformed.calls (k : Nat) (a0 : ByteArray) (r : Bool) (w : World) (h : rFformed.f k a0 = some r) :
  Calls Tryz.prog 50 #[.string a0] w fun e w' => e = .returned (.bool r) ∧ Below w.heap.size w w' := by
 have HB := Z0.mk (Below.refl w.heap.size w)
 have H := h
 clear h
 unfold rFformed.f at H
 obtain ⟨t641, A2, H⟩ := bnd H
 obtain ⟨t642, A3, H⟩ := bnd H
 have HC4 := Z0.mk H
 clear H
 go_enter Tryz.func50, Tryz.ntmps50
 go_upto_region 2 with (first | ((with_reducible refine gc_ 31 rfl ?_); refine goD (some 7) Tryz.func31 #[.string a0] (rFTop.calls k a0 t641 _ A2.out) ?_; intro nd) | ((with_reducible refine gc_ 52 rfl ?_); refine goD (some 8) Tryz.func52 #[.string t641] (rECheck.calls k t641 t642 _ A3.out) ?_; intro nd))
 (try simp only [Act.put, List.setIfInBounds_toArray, List.set_cons_zero, List.set_cons_succ])
 go_cut [14] (fun v14 wc => ∃ (kq : Nat) (x14_3 : Bool), v14 = .bool x14_3 ∧ Z0 (rFformed.j0 kq a0 x14_3 = some r) ∧ Z0 (kq ≤ k) ∧ Z0 (Below w.heap.size w wc))
 case first =>
  have H := HC4.out
  clear HC4
  rcases je H with ⟨-, c5b0, c5b1, H⟩ | ⟨c5, c5b0, c5b1, H⟩
  ·(first | rw [c5b0] | (simp only [i64_w, i32_w]; rw [c5b0]) | skip)
   have H' := Z0.mk H
   clear H
   go_wp2
   go_meet
   case rel => exact ⟨_, (false), fs, H', ⟨by first | omega | exact Nat.le_refl _⟩, ⟨bqs⟩⟩
  (first | rw [c5b0] | (simp only [i64_w, i32_w]; rw [c5b0]) | skip)
  have H' := Z0.mk H
  clear H
  go_wp2
  go_meet
  case rel => exact ⟨_, ((t642 != 10)), fs, H', ⟨by first | omega | exact Nat.le_refl _⟩, ⟨bqs⟩⟩
 case rest =>
  clear HC4
  try clear p2
  try clear c3
  try clear c5
  try clear c5b0
  try clear c5b1
  obtain ⟨kq, x14_3, rfl, HA, HJ3, HB⟩ := hcut
  cases kq with
  | zero => exact absurd HA.out (by simp [rFformed.j0])
  | succ kj3 =>
   have H := HA.out
   clear HA
   simp only [rFformed.j0] at H
   by_cases c6 : x14_3 = true
   ·subst c6
    have H1 : (some false) = some r := by rw [if_pos rfl] at H; exact H
    clear H
    have H := H1
    clear H1
    obtain rfl := Option.some.inj H
    go_wp2
    go_ret
    exact finE
   replace c6 := Bool.eq_false_iff.mpr c6
   subst c6
   have H1 : ((rFslash.f kj3 a0).bind fun t643 => (if t643 < 0 then (some true) else ((rFBottom.f kj3 a0).bind fun t644 => ((rECheck.f kj3 t644).bind fun t645 => (if t645 = 0 then (rFformed.j1 kj3 a0 t644 false) else (rFformed.j1 kj3 a0 t644 (t645 != 10))))))) = some r := by rw [if_neg (show ¬ (false = true) by decide)] at H; exact H
   clear H
   have H := H1
   clear H1
   obtain ⟨t643, A7, H⟩ := bnd H
   rcases jd H with ⟨-, c8b0, H⟩ | ⟨-, c8b0, H⟩
   ·obtain rfl := Option.some.inj H
    go_wp2_with (first | ((with_reducible refine gc_ 79 rfl ?_); refine goD (some 16) Tryz.func79 #[.string a0] (rFslash.calls kj3 a0 t643 _ A7.out) ?_; intro nd))
    go_ret
    exact finE
   obtain ⟨t644, A9, H⟩ := bnd H
   obtain ⟨t645, A10, H⟩ := bnd H
   have HC11 := Z0.mk H
   clear H
   go_upto_region 8 with (first | ((with_reducible refine gc_ 79 rfl ?_); refine goD (some 16) Tryz.func79 #[.string a0] (rFslash.calls kj3 a0 t643 _ A7.out) ?_; intro nd) | ((with_reducible refine gc_ 32 rfl ?_); refine goD (some 19) Tryz.func32 #[.string a0] (rFBottom.calls kj3 a0 t644 _ A9.out) ?_; intro nd) | ((with_reducible refine gc_ 52 rfl ?_); refine goD (some 21) Tryz.func52 #[.string t644] (rECheck.calls kj3 t644 t645 _ A10.out) ?_; intro nd))
   (try simp only [Act.put, List.setIfInBounds_toArray, List.set_cons_zero, List.set_cons_succ])
   go_cut [27] (fun v27 wc => ∃ (kq : Nat) (x27_10 : Bool), v27 = .bool x27_10 ∧ Z0 (rFformed.j1 kq a0 t644 x27_10 = some r) ∧ Z0 (kq ≤ kj3) ∧ Z0 (Below w.heap.size w wc))
   case first =>
    have H := HC11.out
    clear HC11
    rcases je H with ⟨-, c12b0, c12b1, H⟩ | ⟨c12, c12b0, c12b1, H⟩
    ·(first | rw [c12b0] | (simp only [i64_w, i32_w]; rw [c12b0]) | skip)
     have H' := Z0.mk H
     clear H
     go_wp2
     go_meet
     case rel => exact ⟨_, (false), fs, H', ⟨by have := HJ3.out; first | omega | exact Nat.le_refl _⟩, ⟨bqs⟩⟩
    (first | rw [c12b0] | (simp only [i64_w, i32_w]; rw [c12b0]) | skip)
    have H' := Z0.mk H
    clear H
    go_wp2
    go_meet
    case rel => exact ⟨_, ((t645 != 10)), fs, H', ⟨by have := HJ3.out; first | omega | exact Nat.le_refl _⟩, ⟨bqs⟩⟩
   case rest =>
    clear HC11
    try clear c1
    try clear p2
    try clear c3
    try clear c5
    try clear c5b0
    try clear c5b1
    try clear c6
    try clear c7
    try clear c8
    try clear c8b0
    try clear c11
    try clear c12
    try clear c12b0
    try clear c12b1
    try clear p2
    obtain ⟨kq, x27_10, rfl, HA, HJ10, HB⟩ := hcut
    cases kq with
    | zero => exact absurd HA.out (by simp [rFformed.j1])
    | succ kj10 =>
     have H := HA.out
     clear HA
     simp only [rFformed.j1] at H
     by_cases c13 : x27_10 = true
     ·subst c13
      have H1 : (some false) = some r := by rw [if_pos rfl] at H; exact H
      clear H
      have H := H1
      clear H1
      obtain rfl := Option.some.inj H
      go_wp2
      go_ret
      exact finE
     replace c13 := Bool.eq_false_iff.mpr c13
     subst c13
     have H1 : ((rEOrder.f kj10 t644 (⟨#[49]⟩ : ByteArray)).bind fun t646 => (if t646 > 0 then ((rFTop.f kj10 a0).bind fun t647 => ((rECommon.f kj10 t647 t644).bind fun t648 => (some (t648.toList == ([49] : List UInt8))))) else (some false))) = some r := by rw [if_neg (show ¬ (false = true) by decide)] at H; exact H
     clear H
     have H := H1
     clear H1
     obtain ⟨t646, A14, H⟩ := bnd H
     rcases jg H with ⟨-, c15b0, H⟩ | ⟨-, c15b0, H⟩
     ·obtain ⟨t647, A16, H⟩ := bnd H
      obtain ⟨t648, A17, H⟩ := bnd H
      obtain rfl := Option.some.inj H
      go_wp2_with (first | ((with_reducible refine gc_ 38 rfl ?_); refine goB (some 29) Tryz.func38 #[.string t644, .string (⟨#[49]⟩ : ByteArray)] bq (rEOrder.calls kj10 t644 (⟨#[49]⟩ : ByteArray) t646 _ A14.out) ?_; clear HB; intro w18 HB) | (go_at_call 31; (with_reducible refine (rFTop.calls kj10 a0 t647 _ A16.out).mono ?_); rintro e w' ⟨rfl, ⟨nd, rfl⟩⟩) | (go_at_call 82; (with_reducible refine (rECommon.calls kj10 t647 t644 t648 _ A17.out).mono ?_); rintro e w19 ⟨rfl, hb⟩; replace HB := fB HB hb; clear hb))
      go_ret
      exact finE
     obtain rfl := Option.some.inj H
     go_wp2_with (first | ((with_reducible refine gc_ 38 rfl ?_); refine goB (some 29) Tryz.func38 #[.string t644, .string (⟨#[49]⟩ : ByteArray)] bq (rEOrder.calls kj10 t644 (⟨#[49]⟩ : ByteArray) t646 _ A14.out) ?_; clear HB; intro w20 HB))
     go_ret
     exact finE
theorem rFCheck.calls (k : Nat) (a0 : ByteArray) (r : Int) (w : World) (h : rFCheck.f k a0 = some r) :
  Calls Tryz.prog 14 #[.string a0] w fun e w' => e = .returned (.int .i64 r) ∧ Below w.heap.size w w' := by
 have HB := Z0.mk (Below.refl w.heap.size w)
 have H := h
 clear h
 unfold rFCheck.f at H
 obtain ⟨t653, A2, H⟩ := bnd H
 by_cases c3 : t653 = true
 ·subst c3
  have H1 : ((rFDigits.f k a0).bind fun t654 => (if t654 > 4096 then (some 10) else (some 0))) = some r := by rw [if_pos rfl] at H; exact H
  clear H
  have H := H1
  clear H1
  obtain ⟨t654, A4, H⟩ := bnd H
  rcases jg H with ⟨-, c5b0, H⟩ | ⟨-, c5b0, H⟩
  ·obtain rfl := Option.some.inj H
   go_enter Tryz.func14, Tryz.ntmps14
   go_wp2_with (first | ((with_reducible refine gc_ 50 rfl ?_); refine goB (some 4) Tryz.func50 #[.string a0] bq (rFformed.calls k a0 true _ A2.out) ?_; clear HB; intro w6 HB) | ((with_reducible refine gc_ 51 rfl ?_); refine goB (some 7) Tryz.func51 #[.string a0] bq (rFDigits.calls k a0 t654 _ A4.out) ?_; clear HB; intro w7 HB))
   go_ret
   exact finE
  obtain rfl := Option.some.inj H
  go_enter Tryz.func14, Tryz.ntmps14
  go_wp2_with (first | ((with_reducible refine gc_ 50 rfl ?_); refine goB (some 4) Tryz.func50 #[.string a0] bq (rFformed.calls k a0 true _ A2.out) ?_; clear HB; intro w8 HB) | ((with_reducible refine gc_ 51 rfl ?_); refine goB (some 7) Tryz.func51 #[.string a0] bq (rFDigits.calls k a0 t654 _ A4.out) ?_; clear HB; intro w9 HB))
  go_ret
  exact finE
 replace c3 := Bool.eq_false_iff.mpr c3
 subst c3
 have H1 : (some 3) = some r := by rw [if_neg (show ¬ (false = true) by decide)] at H; exact H
 clear H
 have H := H1
 clear H1
 obtain rfl := Option.some.inj H
 go_enter Tryz.func14, Tryz.ntmps14
 go_wp2_with (first | ((with_reducible refine gc_ 50 rfl ?_); refine goB (some 4) Tryz.func50 #[.string a0] bq (rFformed.calls k a0 false _ A2.out) ?_; clear HB; intro w10 HB))
 go_ret
 exact finE
theorem rAMul.calls (k : Nat) (a0 : ByteArray) (a1 : ByteArray) (r1 : ByteArray) (r2 : Int) (w : World) (hL : LaidW w) (h : rAMul.f k a0 a1 = some (r1, r2)) :
  Calls Tryz.prog 6 #[.string a0, .string a1] w fun e w' => e = .returned (.tuple #[.string r1, .int .i64 r2]) ∧ Below w.heap.size w w' := by
 have HB := Z0.mk (Below.refl w.heap.size w)
 have H := h
 clear h
 unfold rAMul.f at H
 obtain ⟨⟨t753, t754⟩, A3, H⟩ := bnd H
 try dsimp only at H
 simp only [Option.some.injEq, Prod.mk.injEq] at H
 obtain ⟨rfl, rfl⟩ := H
 go_enter Tryz.func6, Tryz.ntmps6
 go_wp2_with (first | ((with_reducible refine gc_ 28 rfl ?_); refine goB (some 8) Tryz.func28 #[.int .u8 42, .string a0, .string a1] bq (rAcalculate.calls k 42 a0 a1 t753 t754 _ (hL.below bq) A3.out) ?_; clear HB; intro w4 HB))
 go_ret2
 exact finE
theorem rADiv.calls (k : Nat) (a0 : ByteArray) (a1 : ByteArray) (r1 : ByteArray) (r2 : Int) (w : World) (hL : LaidW w) (h : rADiv.f k a0 a1 = some (r1, r2)) :
  Calls Tryz.prog 44 #[.string a0, .string a1] w fun e w' => e = .returned (.tuple #[.string r1, .int .i64 r2]) ∧ Below w.heap.size w w' := by
 have HB := Z0.mk (Below.refl w.heap.size w)
 have H := h
 clear h
 unfold rADiv.f at H
 obtain ⟨⟨t413, t414⟩, A3, H⟩ := bnd H
 try dsimp only at H
 simp only [Option.some.injEq, Prod.mk.injEq] at H
 obtain ⟨rfl, rfl⟩ := H
 go_enter Tryz.func44, Tryz.ntmps44
 go_wp2_with (first | ((with_reducible refine gc_ 28 rfl ?_); refine goB (some 8) Tryz.func28 #[.int .u8 47, .string a0, .string a1] bq (rAcalculate.calls k 47 a0 a1 t413 t414 _ (hL.below bq) A3.out) ?_; clear HB; intro w4 HB))
 go_ret2
 exact finE
theorem rACompare.calls (k : Nat) (a0 : ByteArray) (a1 : ByteArray) (r1 : Int) (r2 : Int) (w : World) (hL : LaidW w) (h : rACompare.f k a0 a1 = some (r1, r2)) :
  Calls Tryz.prog 10 #[.string a0, .string a1] w fun e w' => e = .returned (.tuple #[.int .i64 r1, .int .i64 r2]) ∧ Below w.heap.size w w' := by
 have hu95 := Tryz.underlying63
 have HB := Z0.mk (Below.refl w.heap.size w)
 have H := h
 clear h
 unfold rACompare.f at H
 obtain ⟨⟨t400, t401, t402, t403, t404⟩, A3, H⟩ := bnd H
 try dsimp only at H
 rcases je H with ⟨-, c4b0, c4b1, H⟩ | ⟨c4, c4b0, c4b1, H⟩
 ·obtain ⟨⟨t406, t407, t408⟩, A5, H⟩ := bnd H
  try dsimp only at H
  rcases je H with ⟨-, c6b0, c6b1, H⟩ | ⟨c6, c6b0, c6b1, H⟩
  ·obtain ⟨⟨t409, t410⟩, A7, H⟩ := bnd H
   try dsimp only at H
   simp only [Option.some.injEq, Prod.mk.injEq] at H
   obtain ⟨rfl, rfl⟩ := H
   go_enter Tryz.func10, Tryz.ntmps10
   go_wp2_with (first | ((with_reducible refine gc_ 36 rfl ?_); refine goB (some 13) Tryz.func36 #[.string a0, .string a1] bq (rAnewPair.calls k a0 a1 t400 t401 t402 t403 t404 _ (hL.below bq) A3.out) ?_; clear HB; intro w8 HB) | ((with_reducible refine gd_ 6 rfl ?_); refine bxE 6 #[.string (⟨#[]⟩ : ByteArray), .string (⟨#[]⟩ : ByteArray), .string (⟨#[]⟩ : ByteArray), .string (⟨#[]⟩ : ByteArray)] 63 ?_; intro gb405 hg w9 hbox hb; have BK405 := Z0.mk hbox; have GW405 := fE HB hg; have GE405 := fE HB hg; replace HB := fB HB hb; clear hb hbox hg; obtain ⟨hcz10_0, hcz10_1, hcz10_2, hcz10_3, hfz10_0, hfz10_1, hfz10_2, hfz10_3⟩ := b4 BK405) | ((with_reducible refine gc_ 37 rfl ?_); refine gL 28 Tryz.func37 (rAboth.calls k t400 t403 t402 t401 t406 t407 t408 _ ?side1 A5.out) ?_; (case side1 => exact LaidW.below hL bqs); rintro _ w11 ⟨rfl, hb⟩; refine ⟨_, rfl, ?_⟩; replace BK405 := Z0.mk (blk_below (g := gb405) (o := .cells #[.string t400, .string t401, .string t402, .string t403] 63 (0, 0)) (by (with_reducible repeat (first | refine blk_drewN ?_ _ | refine blk_drew ?_ | refine blk_alloc ?_ _)); refine blk_put (cs := #[.string t400, .string t401, .string t402, .string (⟨#[]⟩ : ByteArray)]) ?_ 3 _ rfl; (with_reducible repeat (first | refine blk_drewN ?_ _ | refine blk_drew ?_ | refine blk_alloc ?_ _)); refine blk_put (cs := #[.string t400, .string t401, .string (⟨#[]⟩ : ByteArray), .string (⟨#[]⟩ : ByteArray)]) ?_ 2 _ rfl; (with_reducible repeat (first | refine blk_drewN ?_ _ | refine blk_drew ?_ | refine blk_alloc ?_ _)); refine blk_put (cs := #[.string t400, .string (⟨#[]⟩ : ByteArray), .string (⟨#[]⟩ : ByteArray), .string (⟨#[]⟩ : ByteArray)]) ?_ 1 _ rfl; (with_reducible repeat (first | refine blk_drewN ?_ _ | refine blk_drew ?_ | refine blk_alloc ?_ _)); refine blk_put (cs := #[.string (⟨#[]⟩ : ByteArray), .string (⟨#[]⟩ : ByteArray), .string (⟨#[]⟩ : ByteArray), .string (⟨#[]⟩ : ByteArray)]) ?_ 0 _ rfl; (with_reducible repeat (first | refine blk_drewN ?_ _ | refine blk_drew ?_ | refine blk_alloc ?_ _)); exact BK405.out) hb); replace HB := fB HB hb; clear hb) | ((with_reducible refine gc_ 27 rfl ?_); refine gL 37 Tryz.func27 (bICompare.calls _ _ _ _ _ _ A7.out) ?_; rintro _ w12 ⟨rfl, hb⟩; refine ⟨_, rfl, ?_⟩; replace BK405 := fk BK405 hb; replace HB := fB HB hb; clear hb))
   go_ret2
   exact finE
  simp only [Option.some.injEq, Prod.mk.injEq] at H
  obtain ⟨rfl, rfl⟩ := H
  go_enter Tryz.func10, Tryz.ntmps10
  go_wp2_with (first | ((with_reducible refine gc_ 36 rfl ?_); refine goB (some 13) Tryz.func36 #[.string a0, .string a1] bq (rAnewPair.calls k a0 a1 t400 t401 t402 t403 t404 _ (hL.below bq) A3.out) ?_; clear HB; intro w13 HB) | ((with_reducible refine gd_ 6 rfl ?_); refine bxE 6 #[.string (⟨#[]⟩ : ByteArray), .string (⟨#[]⟩ : ByteArray), .string (⟨#[]⟩ : ByteArray), .string (⟨#[]⟩ : ByteArray)] 63 ?_; intro gb405 hg w14 hbox hb; have BK405 := Z0.mk hbox; have GW405 := fE HB hg; have GE405 := fE HB hg; replace HB := fB HB hb; clear hb hbox hg; obtain ⟨hcz15_0, hcz15_1, hcz15_2, hcz15_3, hfz15_0, hfz15_1, hfz15_2, hfz15_3⟩ := b4 BK405) | ((with_reducible refine gc_ 37 rfl ?_); refine gL 28 Tryz.func37 (rAboth.calls k t400 t403 t402 t401 t406 t407 t408 _ ?side1 A5.out) ?_; (case side1 => exact LaidW.below hL bqs); rintro _ w16 ⟨rfl, hb⟩; refine ⟨_, rfl, ?_⟩; replace BK405 := Z0.mk (blk_below (g := gb405) (o := .cells #[.string t400, .string t401, .string t402, .string t403] 63 (0, 0)) (by (with_reducible repeat (first | refine blk_drewN ?_ _ | refine blk_drew ?_ | refine blk_alloc ?_ _)); refine blk_put (cs := #[.string t400, .string t401, .string t402, .string (⟨#[]⟩ : ByteArray)]) ?_ 3 _ rfl; (with_reducible repeat (first | refine blk_drewN ?_ _ | refine blk_drew ?_ | refine blk_alloc ?_ _)); refine blk_put (cs := #[.string t400, .string t401, .string (⟨#[]⟩ : ByteArray), .string (⟨#[]⟩ : ByteArray)]) ?_ 2 _ rfl; (with_reducible repeat (first | refine blk_drewN ?_ _ | refine blk_drew ?_ | refine blk_alloc ?_ _)); refine blk_put (cs := #[.string t400, .string (⟨#[]⟩ : ByteArray), .string (⟨#[]⟩ : ByteArray), .string (⟨#[]⟩ : ByteArray)]) ?_ 1 _ rfl; (with_reducible repeat (first | refine blk_drewN ?_ _ | refine blk_drew ?_ | refine blk_alloc ?_ _)); refine blk_put (cs := #[.string (⟨#[]⟩ : ByteArray), .string (⟨#[]⟩ : ByteArray), .string (⟨#[]⟩ : ByteArray), .string (⟨#[]⟩ : ByteArray)]) ?_ 0 _ rfl; (with_reducible repeat (first | refine blk_drewN ?_ _ | refine blk_drew ?_ | refine blk_alloc ?_ _)); exact BK405.out) hb); replace HB := fB HB hb; clear hb))
  go_ret2
  exact finE
 simp only [Option.some.injEq, Prod.mk.injEq] at H
 obtain ⟨rfl, rfl⟩ := H
 go_enter Tryz.func10, Tryz.ntmps10
 go_wp2_with (first | ((with_reducible refine gc_ 36 rfl ?_); refine goB (some 13) Tryz.func36 #[.string a0, .string a1] bq (rAnewPair.calls k a0 a1 t400 t401 t402 t403 t404 _ (hL.below bq) A3.out) ?_; clear HB; intro w17 HB) | ((with_reducible refine gd_ 6 rfl ?_); refine bxE 6 #[.string (⟨#[]⟩ : ByteArray), .string (⟨#[]⟩ : ByteArray), .string (⟨#[]⟩ : ByteArray), .string (⟨#[]⟩ : ByteArray)] 63 ?_; intro gb405 hg w18 hbox hb; have BK405 := Z0.mk hbox; have GW405 := fE HB hg; have GE405 := fE HB hg; replace HB := fB HB hb; clear hb hbox hg; obtain ⟨hcz19_0, hcz19_1, hcz19_2, hcz19_3, hfz19_0, hfz19_1, hfz19_2, hfz19_3⟩ := b4 BK405))
 go_ret2
 exact finE
theorem rFFrac.calls (k : Nat) (a0 : ByteArray) (a1 : ByteArray) (r : ByteArray) (w : World) (h : rFFrac.f k a0 a1 = some r) :
  Calls Tryz.prog 34 #[.string a0, .string a1] w fun e w' => e = .returned (.string r) ∧ Below w.heap.size w w' := by
 have HB := Z0.mk (Below.refl w.heap.size w)
 have H := h
 clear h
 unfold rFFrac.f at H
 obtain ⟨t702, A3, H⟩ := bnd H
 have HC4 := Z0.mk H
 clear H
 go_enter Tryz.func34, Tryz.ntmps34
 go_upto_if 8 with (first | ((with_reducible refine gc_ 80 rfl ?_); refine goD (some 7) Tryz.func80 #[.string a1] (rESign.calls a1 t702 _ A3.out) ?_; intro nd))
 (try simp only [Act.put, List.setIfInBounds_toArray, List.set_cons_zero, List.set_cons_succ])
 go_cut [0, 1] (fun v0 v1 wc => ∃ (kq : Nat) (x0_3 : ByteArray) (x1_3 : ByteArray), v0 = .string x0_3 ∧ v1 = .string x1_3 ∧ Z0 (rFFrac.j0 kq x0_3 x1_3 = some r) ∧ Z0 (kq ≤ k) ∧ Z0 (Below w.heap.size w wc))
 case first =>
  have H := HC4.out
  clear HC4
  rcases jd H with ⟨-, c5b0, H⟩ | ⟨-, c5b0, H⟩
  ·(first | rw [c5b0] | (simp only [i64_w, i32_w]; rw [c5b0]) | skip)
   obtain ⟨t703, A6, H⟩ := bnd H
   obtain ⟨t704, A7, H⟩ := bnd H
   have H' := Z0.mk H
   clear H
   go_wp2_with (first | ((with_reducible refine gc_ 81 rfl ?_); refine goD (some 10) Tryz.func81 #[.string a0] (rENegated.calls a0 t703 _ A6.out) ?_; intro nd) | ((with_reducible refine gc_ 81 rfl ?_); refine goD (some 12) Tryz.func81 #[.string a1] (rENegated.calls a1 t704 _ A7.out) ?_; intro nd))
   go_meet
   case rel => exact ⟨_, (t703), (t704), fs, fs, H', ⟨by first | omega | exact Nat.le_refl _⟩, ⟨bqs⟩⟩
  (first | rw [c5b0] | (simp only [i64_w, i32_w]; rw [c5b0]) | skip)
  have H' := Z0.mk H
  clear H
  go_wp2
  go_meet
  case rel => exact ⟨_, (a0), (a1), fs, fs, H', ⟨by first | omega | exact Nat.le_refl _⟩, ⟨bqs⟩⟩
 case rest =>
  clear HC4
  try clear c1
  try clear p2
  try clear c5
  try clear c5b0
  obtain ⟨kq, x0_3, x1_3, rfl, rfl, HA, HJ3, HB⟩ := hcut
  cases kq with
  | zero => exact absurd HA.out (by simp [rFFrac.j0])
  | succ kj3 =>
   have H := HA.out
   clear HA
   simp only [rFFrac.j0] at H
   obtain ⟨t705, A8, H⟩ := bnd H
   obtain ⟨t706, A9, H⟩ := bnd H
   obtain ⟨t707, A10, H⟩ := bnd H
   rcases je H with ⟨-, c11b0, c11b1, H⟩ | ⟨c11, c11b0, c11b1, H⟩
   ·obtain rfl := Option.some.inj H
    go_wp2_with (first | ((with_reducible refine gc_ 82 rfl ?_); refine goB (some 15) Tryz.func82 #[.string x0_3, .string x1_3] bq (rECommon.calls kj3 x0_3 x1_3 t705 _ A8.out) ?_; clear HB; intro w12 HB) | ((with_reducible refine gc_ 83 rfl ?_); refine goB (some 18) Tryz.func83 #[.string x0_3, .string t705] bq (rEFloor.calls kj3 x0_3 t705 t706 _ A9.out) ?_; clear HB; intro w13 HB) | ((with_reducible refine gc_ 83 rfl ?_); refine goB (some 21) Tryz.func83 #[.string x1_3, .string t705] bq (rEFloor.calls kj3 x1_3 t705 t707 _ A10.out) ?_; clear HB; intro w14 HB))
    go_ret
    exact finE
   obtain ⟨c15, c15b0, c15b1, H⟩ := gt H
   try have c15b2 : (9223372036854775807 < t706.size + 1) = False := eq_false (Nat.not_lt.2 c15)
   obtain ⟨c16, c16b0, c16b1, H⟩ := gt H
   try have c16b2 : (9223372036854775807 < (t706 ++ (⟨#[47]⟩ : ByteArray)).size + t707.size) = False := eq_false (Nat.not_lt.2 c16)
   obtain rfl := Option.some.inj H
   go_wp2_with (first | ((with_reducible refine gc_ 82 rfl ?_); refine goB (some 15) Tryz.func82 #[.string x0_3, .string x1_3] bq (rECommon.calls kj3 x0_3 x1_3 t705 _ A8.out) ?_; clear HB; intro w17 HB) | ((with_reducible refine gc_ 83 rfl ?_); refine goB (some 18) Tryz.func83 #[.string x0_3, .string t705] bq (rEFloor.calls kj3 x0_3 t705 t706 _ A9.out) ?_; clear HB; intro w18 HB) | ((with_reducible refine gc_ 83 rfl ?_); refine goB (some 21) Tryz.func83 #[.string x1_3, .string t705] bq (rEFloor.calls kj3 x1_3 t705 t707 _ A10.out) ?_; clear HB; intro w19 HB))
   go_ret
   exact finE
end Go.Proofs.YtinpcbjjnlpblaaGreatDoor.PA
