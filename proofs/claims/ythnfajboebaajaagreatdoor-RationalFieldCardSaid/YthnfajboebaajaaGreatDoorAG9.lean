import Derived.Test.YthnfajboebaajaaGreatDoorAG1
import Derived.Test.YthnfajboebaajaaGreatDoorAD
import Derived.Test.YthnfajboebaajaaGreatDoorAG4
import Derived.Test.YthnfajboebaajaaGreatDoorAG7
import Derived.Test.YthnfajboebaajaaGreatDoorAG8
import Derived.Deep.RegionHeld3
import Derived.Test.YthnfajboebaajaaGreatDoorAG6
import Derived.Test.YthnfajboebaajaaGreatDoorAG2
set_option maxHeartbeats 8000000
set_option maxRecDepth 100000
set_option linter.unusedVariables false
namespace Go.Proofs.YthnfajboebaajaaGreatDoor
set_option linter.unusedVariables false
set_option linter.unusedSimpArgs false
open Go.RowKit Go.Proofs.WWords Go.Proofs.WLast Go.Proofs.WMore PA
theorem calc43 (k : Nat) (a1 a2 : ByteArray) (r1 : ByteArray) (r2 : Int) (w : World) (hL : LaidW w) (h : calcF (rAaddop.f k) k a1 a2 = some (r1, r2)) :
    Calls Tryz.prog 97 #[.int .u8 43, .string a1, .string a2] w fun e w' => e = .returned (.tuple #[.string r1, .int .i64 r2]) ∧ Below w.heap.size w w' := by
 have hu95 := Tryz.underlying95
 unfold calcF at h
 obtain ⟨⟨p, q, r, s, e1⟩, hp, h⟩ := Option.bind_eq_some_iff.mp h
 simp only at h
 by_cases c1 : e1 = 0
 rotate_left
 ·rw [if_neg c1] at h
  simp only [Option.some.injEq, Prod.mk.injEq] at h
  obtain ⟨rfl, rfl⟩ := h
  have c1b : (e1 != 0) = true := bne_iff_ne.mpr c1
  have c1c : (e1 == 0) = false := beq_eq_false_iff_ne.mpr c1
  go_enter Tryz.func97, Tryz.ntmps97
  go_wp2_with (first | ((with_reducible refine gc_ 90 rfl ?_); refine goB (w0 := w) (some 15) Tryz.func90 #[.string a1, .string a2] (Below.refl _ _) (rAnewPair.calls k a1 a2 p q r s e1 _ hL hp) ?_; intro w1 HB) | ((with_reducible refine gd_ 8 rfl ?_); refine bxE 8 #[.string (⟨#[]⟩ : ByteArray), .string (⟨#[]⟩ : ByteArray), .string (⟨#[]⟩ : ByteArray), .string (⟨#[]⟩ : ByteArray)] 95 ?_; intro gb hg wb hbox hbb; have hgl : w.heap.size ≤ gb := (by rw [hg]; exact HB.out.size); have HB2 := Z0.mk (below_step HB.out hbb); clear HB hg hbb; have HB := HB2; clear HB2; have hc0 : wb.cell? ⟨gb, 0, none⟩ = some (.string (⟨#[]⟩ : ByteArray)) := (blk_cell hbox 0).trans rfl; have hf0 := blk_frozen hbox 0; have hc1 : wb.cell? ⟨gb, 1, none⟩ = some (.string (⟨#[]⟩ : ByteArray)) := (blk_cell hbox 1).trans rfl; have hf1 := blk_frozen hbox 1; have hc2 : wb.cell? ⟨gb, 2, none⟩ = some (.string (⟨#[]⟩ : ByteArray)) := (blk_cell hbox 2).trans rfl; have hf2 := blk_frozen hbox 2; have hc3 : wb.cell? ⟨gb, 3, none⟩ = some (.string (⟨#[]⟩ : ByteArray)) := (blk_cell hbox 3).trans rfl; have hf3 := blk_frozen hbox 3))
  go_ret2
  exact ⟨rfl, below_set (below_set (below_set (below_set HB.out hgl) hgl) hgl) hgl⟩
 rw [if_pos c1] at h
 obtain ⟨⟨y1, y2, e2⟩, ho, h⟩ := Option.bind_eq_some_iff.mp h
 simp only at h
 have c1b : (e1 != 0) = false := bne_eq_false_iff_eq.mpr c1
 have c1c : (e1 == 0) = true := beq_iff_eq.mpr c1
 clear c1
 by_cases c2 : e2 = 0
 ·rw [if_pos c2] at h
  have c2b : (e2 != 0) = false := bne_eq_false_iff_eq.mpr c2
  have c2c : (e2 == 0) = true := beq_iff_eq.mpr c2
  clear c2
  have hw := h
  go_enter Tryz.func97, Tryz.ntmps97
  go_wp2_with (first | ((with_reducible refine gc_ 90 rfl ?_); refine goB (w0 := w) (some 15) Tryz.func90 #[.string a1, .string a2] (Below.refl _ _) (rAnewPair.calls k a1 a2 p q r s e1 _ hL hp) ?_; intro w1 HB) | ((with_reducible refine gd_ 8 rfl ?_); refine bxE 8 #[.string (⟨#[]⟩ : ByteArray), .string (⟨#[]⟩ : ByteArray), .string (⟨#[]⟩ : ByteArray), .string (⟨#[]⟩ : ByteArray)] 95 ?_; intro gb hg wb hbox hbb; have hgl : w.heap.size ≤ gb := (by rw [hg]; exact HB.out.size); have HB2 := Z0.mk (below_step HB.out hbb); clear HB hg hbb; have HB := HB2; clear HB2; have hc0 : wb.cell? ⟨gb, 0, none⟩ = some (.string (⟨#[]⟩ : ByteArray)) := (blk_cell hbox 0).trans rfl; have hf0 := blk_frozen hbox 0; have hc1 : wb.cell? ⟨gb, 1, none⟩ = some (.string (⟨#[]⟩ : ByteArray)) := (blk_cell hbox 1).trans rfl; have hf1 := blk_frozen hbox 1; have hc2 : wb.cell? ⟨gb, 2, none⟩ = some (.string (⟨#[]⟩ : ByteArray)) := (blk_cell hbox 2).trans rfl; have hf2 := blk_frozen hbox 2; have hc3 : wb.cell? ⟨gb, 3, none⟩ = some (.string (⟨#[]⟩ : ByteArray)) := (blk_cell hbox 3).trans rfl; have hf3 := blk_frozen hbox 3))
  obtain ⟨W, hW⟩ : ∃ W, ((((wb.setCell ⟨gb, 0, none⟩ (.string p)).setCell ⟨gb, 1, none⟩ (.string q)).setCell ⟨gb, 2, none⟩ (.string r)).setCell ⟨gb, 3, none⟩ (.string s)) = W := ⟨_, rfl⟩
  have hx : W.heap[gb]? = some (.cells #[.string p, .string q, .string r, .string s] 95 (0, 0)) := by
   rw [← hW]
   exact blk_put (cs := #[.string p, .string q, .string r, .string (⟨#[]⟩ : ByteArray)]) (blk_put (cs := #[.string p, .string q, .string (⟨#[]⟩ : ByteArray), .string (⟨#[]⟩ : ByteArray)]) (blk_put (cs := #[.string p, .string (⟨#[]⟩ : ByteArray), .string (⟨#[]⟩ : ByteArray), .string (⟨#[]⟩ : ByteArray)]) (blk_put hbox 0 _ rfl) 1 _ rfl) 2 _ rfl) 3 _ rfl
  have hBW : Below w.heap.size w W := by rw [← hW]; exact below_set (below_set (below_set (below_set HB.out hgl) hgl) hgl) hgl
  rw [hW]
  clear hW HB hbox
  have hxd : W.drew.heap[gb]? = some (.cells #[.string p, .string q, .string r, .string s] 95 (0, 0)) := hx
  have hBd : Below w.heap.size w W.drew := hBW.drew
  go_region_held3 (fun w' => w'.cell? ⟨gb, 0, none⟩ = some (.string p) ∧ w'.cell? ⟨gb, 1, none⟩ = some (.string q) ∧ w'.cell? ⟨gb, 2, none⟩ = some (.string r) ∧ w'.cell? ⟨gb, 3, none⟩ = some (.string s))
   (first | exact ⟨blk_cell hxd 0, blk_cell hxd 1, blk_cell hxd 2, blk_cell hxd 3⟩ | exact ⟨blk_cell hx2 0, blk_cell hx2 1, blk_cell hx2 2, blk_cell hx2 3⟩ | exact ⟨blk_cell hx3 0, blk_cell hx3 1, blk_cell hx3 2, blk_cell hx3 3⟩)
   (first
     | (go_at_call 133; refine (rops_calls _).mono ?_; rintro e w2 ⟨m, g1, g2, rfl, hm, hg1, hg2, hb2⟩
        have hx2 := (hb2.block gb (Array.getElem?_eq_some_iff.1 hxd).1).trans hxd
        have hB2 := below_step hBd hb2
        have hlk := run_look m (ropsE g1 g2) 4 43 0 _ w2 hm rfl)
     | (go_at_call 200; refine (rAaddop.calls k p q r s y1 y2 e2 g1 w2 hg1 (hL.below hB2) ho).mono ?_; rintro e w3 ⟨rfl, hb3⟩
        have hx3 := (hb3.block gb (Array.getElem?_eq_some_iff.1 hx2).1).trans hx2
        have HB := Z0.mk (below_step hB2 hb3)))
  all_goals go_wp2_with (first | ((with_reducible refine gc_ 84 rfl ?_); refine goB (w0 := w) (some 35) Tryz.func84 #[.string y1, .string y2] HB.out (rAwhole.calls k y1 y2 r1 r2 _ (hL.below HB.out) hw) ?_; clear HB; intro w5 HB))
  go_ret2
  exact ⟨rfl, HB.out⟩
 rw [if_neg c2] at h
 simp only [Option.some.injEq, Prod.mk.injEq] at h
 obtain ⟨rfl, rfl⟩ := h
 have c2b : (e2 != 0) = true := bne_iff_ne.mpr c2
 have c2c : (e2 == 0) = false := beq_eq_false_iff_ne.mpr c2
 go_enter Tryz.func97, Tryz.ntmps97
 go_wp2_with (first | ((with_reducible refine gc_ 90 rfl ?_); refine goB (w0 := w) (some 15) Tryz.func90 #[.string a1, .string a2] (Below.refl _ _) (rAnewPair.calls k a1 a2 p q r s e1 _ hL hp) ?_; intro w1 HB) | ((with_reducible refine gd_ 8 rfl ?_); refine bxE 8 #[.string (⟨#[]⟩ : ByteArray), .string (⟨#[]⟩ : ByteArray), .string (⟨#[]⟩ : ByteArray), .string (⟨#[]⟩ : ByteArray)] 95 ?_; intro gb hg wb hbox hbb; have hgl : w.heap.size ≤ gb := (by rw [hg]; exact HB.out.size); have HB2 := Z0.mk (below_step HB.out hbb); clear HB hg hbb; have HB := HB2; clear HB2; have hc0 : wb.cell? ⟨gb, 0, none⟩ = some (.string (⟨#[]⟩ : ByteArray)) := (blk_cell hbox 0).trans rfl; have hf0 := blk_frozen hbox 0; have hc1 : wb.cell? ⟨gb, 1, none⟩ = some (.string (⟨#[]⟩ : ByteArray)) := (blk_cell hbox 1).trans rfl; have hf1 := blk_frozen hbox 1; have hc2 : wb.cell? ⟨gb, 2, none⟩ = some (.string (⟨#[]⟩ : ByteArray)) := (blk_cell hbox 2).trans rfl; have hf2 := blk_frozen hbox 2; have hc3 : wb.cell? ⟨gb, 3, none⟩ = some (.string (⟨#[]⟩ : ByteArray)) := (blk_cell hbox 3).trans rfl; have hf3 := blk_frozen hbox 3))
 obtain ⟨W, hW⟩ : ∃ W, ((((wb.setCell ⟨gb, 0, none⟩ (.string p)).setCell ⟨gb, 1, none⟩ (.string q)).setCell ⟨gb, 2, none⟩ (.string r)).setCell ⟨gb, 3, none⟩ (.string s)) = W := ⟨_, rfl⟩
 have hx : W.heap[gb]? = some (.cells #[.string p, .string q, .string r, .string s] 95 (0, 0)) := by
  rw [← hW]
  exact blk_put (cs := #[.string p, .string q, .string r, .string (⟨#[]⟩ : ByteArray)]) (blk_put (cs := #[.string p, .string q, .string (⟨#[]⟩ : ByteArray), .string (⟨#[]⟩ : ByteArray)]) (blk_put (cs := #[.string p, .string (⟨#[]⟩ : ByteArray), .string (⟨#[]⟩ : ByteArray), .string (⟨#[]⟩ : ByteArray)]) (blk_put hbox 0 _ rfl) 1 _ rfl) 2 _ rfl) 3 _ rfl
 have hBW : Below w.heap.size w W := by rw [← hW]; exact below_set (below_set (below_set (below_set HB.out hgl) hgl) hgl) hgl
 rw [hW]
 clear hW HB hbox
 have hxd : W.drew.heap[gb]? = some (.cells #[.string p, .string q, .string r, .string s] 95 (0, 0)) := hx
 have hBd : Below w.heap.size w W.drew := hBW.drew
 go_region_held3 (fun w' => w'.cell? ⟨gb, 0, none⟩ = some (.string p) ∧ w'.cell? ⟨gb, 1, none⟩ = some (.string q) ∧ w'.cell? ⟨gb, 2, none⟩ = some (.string r) ∧ w'.cell? ⟨gb, 3, none⟩ = some (.string s))
  (first | exact ⟨blk_cell hxd 0, blk_cell hxd 1, blk_cell hxd 2, blk_cell hxd 3⟩ | exact ⟨blk_cell hx2 0, blk_cell hx2 1, blk_cell hx2 2, blk_cell hx2 3⟩ | exact ⟨blk_cell hx3 0, blk_cell hx3 1, blk_cell hx3 2, blk_cell hx3 3⟩)
  (first
    | (go_at_call 133; refine (rops_calls _).mono ?_; rintro e w2 ⟨m, g1, g2, rfl, hm, hg1, hg2, hb2⟩
       have hx2 := (hb2.block gb (Array.getElem?_eq_some_iff.1 hxd).1).trans hxd
       have hB2 := below_step hBd hb2
       have hlk := run_look m (ropsE g1 g2) 4 43 0 _ w2 hm rfl)
    | (go_at_call 200; refine (rAaddop.calls k p q r s y1 y2 e2 g1 w2 hg1 (hL.below hB2) ho).mono ?_; rintro e w3 ⟨rfl, hb3⟩
       have hx3 := (hb3.block gb (Array.getElem?_eq_some_iff.1 hx2).1).trans hx2
       have HB := Z0.mk (below_step hB2 hb3)))
 all_goals go_wp2
 go_ret2
 exact ⟨rfl, HB.out⟩
theorem calc45 (k : Nat) (a1 a2 : ByteArray) (r1 : ByteArray) (r2 : Int) (w : World) (hL : LaidW w) (h : calcF (rAsubop.f k) k a1 a2 = some (r1, r2)) :
    Calls Tryz.prog 97 #[.int .u8 45, .string a1, .string a2] w fun e w' => e = .returned (.tuple #[.string r1, .int .i64 r2]) ∧ Below w.heap.size w w' := by
 have hu95 := Tryz.underlying95
 unfold calcF at h
 obtain ⟨⟨p, q, r, s, e1⟩, hp, h⟩ := Option.bind_eq_some_iff.mp h
 simp only at h
 by_cases c1 : e1 = 0
 rotate_left
 ·rw [if_neg c1] at h
  simp only [Option.some.injEq, Prod.mk.injEq] at h
  obtain ⟨rfl, rfl⟩ := h
  have c1b : (e1 != 0) = true := bne_iff_ne.mpr c1
  have c1c : (e1 == 0) = false := beq_eq_false_iff_ne.mpr c1
  go_enter Tryz.func97, Tryz.ntmps97
  go_wp2_with (first | ((with_reducible refine gc_ 90 rfl ?_); refine goB (w0 := w) (some 15) Tryz.func90 #[.string a1, .string a2] (Below.refl _ _) (rAnewPair.calls k a1 a2 p q r s e1 _ hL hp) ?_; intro w1 HB) | ((with_reducible refine gd_ 8 rfl ?_); refine bxE 8 #[.string (⟨#[]⟩ : ByteArray), .string (⟨#[]⟩ : ByteArray), .string (⟨#[]⟩ : ByteArray), .string (⟨#[]⟩ : ByteArray)] 95 ?_; intro gb hg wb hbox hbb; have hgl : w.heap.size ≤ gb := (by rw [hg]; exact HB.out.size); have HB2 := Z0.mk (below_step HB.out hbb); clear HB hg hbb; have HB := HB2; clear HB2; have hc0 : wb.cell? ⟨gb, 0, none⟩ = some (.string (⟨#[]⟩ : ByteArray)) := (blk_cell hbox 0).trans rfl; have hf0 := blk_frozen hbox 0; have hc1 : wb.cell? ⟨gb, 1, none⟩ = some (.string (⟨#[]⟩ : ByteArray)) := (blk_cell hbox 1).trans rfl; have hf1 := blk_frozen hbox 1; have hc2 : wb.cell? ⟨gb, 2, none⟩ = some (.string (⟨#[]⟩ : ByteArray)) := (blk_cell hbox 2).trans rfl; have hf2 := blk_frozen hbox 2; have hc3 : wb.cell? ⟨gb, 3, none⟩ = some (.string (⟨#[]⟩ : ByteArray)) := (blk_cell hbox 3).trans rfl; have hf3 := blk_frozen hbox 3))
  go_ret2
  exact ⟨rfl, below_set (below_set (below_set (below_set HB.out hgl) hgl) hgl) hgl⟩
 rw [if_pos c1] at h
 obtain ⟨⟨y1, y2, e2⟩, ho, h⟩ := Option.bind_eq_some_iff.mp h
 simp only at h
 have c1b : (e1 != 0) = false := bne_eq_false_iff_eq.mpr c1
 have c1c : (e1 == 0) = true := beq_iff_eq.mpr c1
 clear c1
 by_cases c2 : e2 = 0
 ·rw [if_pos c2] at h
  have c2b : (e2 != 0) = false := bne_eq_false_iff_eq.mpr c2
  have c2c : (e2 == 0) = true := beq_iff_eq.mpr c2
  clear c2
  have hw := h
  go_enter Tryz.func97, Tryz.ntmps97
  go_wp2_with (first | ((with_reducible refine gc_ 90 rfl ?_); refine goB (w0 := w) (some 15) Tryz.func90 #[.string a1, .string a2] (Below.refl _ _) (rAnewPair.calls k a1 a2 p q r s e1 _ hL hp) ?_; intro w1 HB) | ((with_reducible refine gd_ 8 rfl ?_); refine bxE 8 #[.string (⟨#[]⟩ : ByteArray), .string (⟨#[]⟩ : ByteArray), .string (⟨#[]⟩ : ByteArray), .string (⟨#[]⟩ : ByteArray)] 95 ?_; intro gb hg wb hbox hbb; have hgl : w.heap.size ≤ gb := (by rw [hg]; exact HB.out.size); have HB2 := Z0.mk (below_step HB.out hbb); clear HB hg hbb; have HB := HB2; clear HB2; have hc0 : wb.cell? ⟨gb, 0, none⟩ = some (.string (⟨#[]⟩ : ByteArray)) := (blk_cell hbox 0).trans rfl; have hf0 := blk_frozen hbox 0; have hc1 : wb.cell? ⟨gb, 1, none⟩ = some (.string (⟨#[]⟩ : ByteArray)) := (blk_cell hbox 1).trans rfl; have hf1 := blk_frozen hbox 1; have hc2 : wb.cell? ⟨gb, 2, none⟩ = some (.string (⟨#[]⟩ : ByteArray)) := (blk_cell hbox 2).trans rfl; have hf2 := blk_frozen hbox 2; have hc3 : wb.cell? ⟨gb, 3, none⟩ = some (.string (⟨#[]⟩ : ByteArray)) := (blk_cell hbox 3).trans rfl; have hf3 := blk_frozen hbox 3))
  obtain ⟨W, hW⟩ : ∃ W, ((((wb.setCell ⟨gb, 0, none⟩ (.string p)).setCell ⟨gb, 1, none⟩ (.string q)).setCell ⟨gb, 2, none⟩ (.string r)).setCell ⟨gb, 3, none⟩ (.string s)) = W := ⟨_, rfl⟩
  have hx : W.heap[gb]? = some (.cells #[.string p, .string q, .string r, .string s] 95 (0, 0)) := by
   rw [← hW]
   exact blk_put (cs := #[.string p, .string q, .string r, .string (⟨#[]⟩ : ByteArray)]) (blk_put (cs := #[.string p, .string q, .string (⟨#[]⟩ : ByteArray), .string (⟨#[]⟩ : ByteArray)]) (blk_put (cs := #[.string p, .string (⟨#[]⟩ : ByteArray), .string (⟨#[]⟩ : ByteArray), .string (⟨#[]⟩ : ByteArray)]) (blk_put hbox 0 _ rfl) 1 _ rfl) 2 _ rfl) 3 _ rfl
  have hBW : Below w.heap.size w W := by rw [← hW]; exact below_set (below_set (below_set (below_set HB.out hgl) hgl) hgl) hgl
  rw [hW]
  clear hW HB hbox
  have hxd : W.drew.heap[gb]? = some (.cells #[.string p, .string q, .string r, .string s] 95 (0, 0)) := hx
  have hBd : Below w.heap.size w W.drew := hBW.drew
  go_region_held3 (fun w' => w'.cell? ⟨gb, 0, none⟩ = some (.string p) ∧ w'.cell? ⟨gb, 1, none⟩ = some (.string q) ∧ w'.cell? ⟨gb, 2, none⟩ = some (.string r) ∧ w'.cell? ⟨gb, 3, none⟩ = some (.string s))
   (first | exact ⟨blk_cell hxd 0, blk_cell hxd 1, blk_cell hxd 2, blk_cell hxd 3⟩ | exact ⟨blk_cell hx2 0, blk_cell hx2 1, blk_cell hx2 2, blk_cell hx2 3⟩ | exact ⟨blk_cell hx3 0, blk_cell hx3 1, blk_cell hx3 2, blk_cell hx3 3⟩)
   (first
     | (go_at_call 133; refine (rops_calls _).mono ?_; rintro e w2 ⟨m, g1, g2, rfl, hm, hg1, hg2, hb2⟩
        have hx2 := (hb2.block gb (Array.getElem?_eq_some_iff.1 hxd).1).trans hxd
        have hB2 := below_step hBd hb2
        have hlk := run_look m (ropsE g1 g2) 4 45 1 _ w2 hm rfl)
     | (go_at_call 200; refine (rAsubop.calls k p q r s y1 y2 e2 g2 w2 hg2 (hL.below hB2) ho).mono ?_; rintro e w3 ⟨rfl, hb3⟩
        have hx3 := (hb3.block gb (Array.getElem?_eq_some_iff.1 hx2).1).trans hx2
        have HB := Z0.mk (below_step hB2 hb3)))
  all_goals go_wp2_with (first | ((with_reducible refine gc_ 84 rfl ?_); refine goB (w0 := w) (some 35) Tryz.func84 #[.string y1, .string y2] HB.out (rAwhole.calls k y1 y2 r1 r2 _ (hL.below HB.out) hw) ?_; clear HB; intro w5 HB))
  go_ret2
  exact ⟨rfl, HB.out⟩
 rw [if_neg c2] at h
 simp only [Option.some.injEq, Prod.mk.injEq] at h
 obtain ⟨rfl, rfl⟩ := h
 have c2b : (e2 != 0) = true := bne_iff_ne.mpr c2
 have c2c : (e2 == 0) = false := beq_eq_false_iff_ne.mpr c2
 go_enter Tryz.func97, Tryz.ntmps97
 go_wp2_with (first | ((with_reducible refine gc_ 90 rfl ?_); refine goB (w0 := w) (some 15) Tryz.func90 #[.string a1, .string a2] (Below.refl _ _) (rAnewPair.calls k a1 a2 p q r s e1 _ hL hp) ?_; intro w1 HB) | ((with_reducible refine gd_ 8 rfl ?_); refine bxE 8 #[.string (⟨#[]⟩ : ByteArray), .string (⟨#[]⟩ : ByteArray), .string (⟨#[]⟩ : ByteArray), .string (⟨#[]⟩ : ByteArray)] 95 ?_; intro gb hg wb hbox hbb; have hgl : w.heap.size ≤ gb := (by rw [hg]; exact HB.out.size); have HB2 := Z0.mk (below_step HB.out hbb); clear HB hg hbb; have HB := HB2; clear HB2; have hc0 : wb.cell? ⟨gb, 0, none⟩ = some (.string (⟨#[]⟩ : ByteArray)) := (blk_cell hbox 0).trans rfl; have hf0 := blk_frozen hbox 0; have hc1 : wb.cell? ⟨gb, 1, none⟩ = some (.string (⟨#[]⟩ : ByteArray)) := (blk_cell hbox 1).trans rfl; have hf1 := blk_frozen hbox 1; have hc2 : wb.cell? ⟨gb, 2, none⟩ = some (.string (⟨#[]⟩ : ByteArray)) := (blk_cell hbox 2).trans rfl; have hf2 := blk_frozen hbox 2; have hc3 : wb.cell? ⟨gb, 3, none⟩ = some (.string (⟨#[]⟩ : ByteArray)) := (blk_cell hbox 3).trans rfl; have hf3 := blk_frozen hbox 3))
 obtain ⟨W, hW⟩ : ∃ W, ((((wb.setCell ⟨gb, 0, none⟩ (.string p)).setCell ⟨gb, 1, none⟩ (.string q)).setCell ⟨gb, 2, none⟩ (.string r)).setCell ⟨gb, 3, none⟩ (.string s)) = W := ⟨_, rfl⟩
 have hx : W.heap[gb]? = some (.cells #[.string p, .string q, .string r, .string s] 95 (0, 0)) := by
  rw [← hW]
  exact blk_put (cs := #[.string p, .string q, .string r, .string (⟨#[]⟩ : ByteArray)]) (blk_put (cs := #[.string p, .string q, .string (⟨#[]⟩ : ByteArray), .string (⟨#[]⟩ : ByteArray)]) (blk_put (cs := #[.string p, .string (⟨#[]⟩ : ByteArray), .string (⟨#[]⟩ : ByteArray), .string (⟨#[]⟩ : ByteArray)]) (blk_put hbox 0 _ rfl) 1 _ rfl) 2 _ rfl) 3 _ rfl
 have hBW : Below w.heap.size w W := by rw [← hW]; exact below_set (below_set (below_set (below_set HB.out hgl) hgl) hgl) hgl
 rw [hW]
 clear hW HB hbox
 have hxd : W.drew.heap[gb]? = some (.cells #[.string p, .string q, .string r, .string s] 95 (0, 0)) := hx
 have hBd : Below w.heap.size w W.drew := hBW.drew
 go_region_held3 (fun w' => w'.cell? ⟨gb, 0, none⟩ = some (.string p) ∧ w'.cell? ⟨gb, 1, none⟩ = some (.string q) ∧ w'.cell? ⟨gb, 2, none⟩ = some (.string r) ∧ w'.cell? ⟨gb, 3, none⟩ = some (.string s))
  (first | exact ⟨blk_cell hxd 0, blk_cell hxd 1, blk_cell hxd 2, blk_cell hxd 3⟩ | exact ⟨blk_cell hx2 0, blk_cell hx2 1, blk_cell hx2 2, blk_cell hx2 3⟩ | exact ⟨blk_cell hx3 0, blk_cell hx3 1, blk_cell hx3 2, blk_cell hx3 3⟩)
  (first
    | (go_at_call 133; refine (rops_calls _).mono ?_; rintro e w2 ⟨m, g1, g2, rfl, hm, hg1, hg2, hb2⟩
       have hx2 := (hb2.block gb (Array.getElem?_eq_some_iff.1 hxd).1).trans hxd
       have hB2 := below_step hBd hb2
       have hlk := run_look m (ropsE g1 g2) 4 45 1 _ w2 hm rfl)
    | (go_at_call 200; refine (rAsubop.calls k p q r s y1 y2 e2 g2 w2 hg2 (hL.below hB2) ho).mono ?_; rintro e w3 ⟨rfl, hb3⟩
       have hx3 := (hb3.block gb (Array.getElem?_eq_some_iff.1 hx2).1).trans hx2
       have HB := Z0.mk (below_step hB2 hb3)))
 all_goals go_wp2
 go_ret2
 exact ⟨rfl, HB.out⟩
theorem calc42 (k : Nat) (a1 a2 : ByteArray) (r1 : ByteArray) (r2 : Int) (w : World) (hL : LaidW w) (h : calcF (rAoperations_1.f k) k a1 a2 = some (r1, r2)) :
    Calls Tryz.prog 97 #[.int .u8 42, .string a1, .string a2] w fun e w' => e = .returned (.tuple #[.string r1, .int .i64 r2]) ∧ Below w.heap.size w w' := by
 have hu95 := Tryz.underlying95
 unfold calcF at h
 obtain ⟨⟨p, q, r, s, e1⟩, hp, h⟩ := Option.bind_eq_some_iff.mp h
 simp only at h
 by_cases c1 : e1 = 0
 rotate_left
 ·rw [if_neg c1] at h
  simp only [Option.some.injEq, Prod.mk.injEq] at h
  obtain ⟨rfl, rfl⟩ := h
  have c1b : (e1 != 0) = true := bne_iff_ne.mpr c1
  have c1c : (e1 == 0) = false := beq_eq_false_iff_ne.mpr c1
  go_enter Tryz.func97, Tryz.ntmps97
  go_wp2_with (first | ((with_reducible refine gc_ 90 rfl ?_); refine goB (w0 := w) (some 15) Tryz.func90 #[.string a1, .string a2] (Below.refl _ _) (rAnewPair.calls k a1 a2 p q r s e1 _ hL hp) ?_; intro w1 HB) | ((with_reducible refine gd_ 8 rfl ?_); refine bxE 8 #[.string (⟨#[]⟩ : ByteArray), .string (⟨#[]⟩ : ByteArray), .string (⟨#[]⟩ : ByteArray), .string (⟨#[]⟩ : ByteArray)] 95 ?_; intro gb hg wb hbox hbb; have hgl : w.heap.size ≤ gb := (by rw [hg]; exact HB.out.size); have HB2 := Z0.mk (below_step HB.out hbb); clear HB hg hbb; have HB := HB2; clear HB2; have hc0 : wb.cell? ⟨gb, 0, none⟩ = some (.string (⟨#[]⟩ : ByteArray)) := (blk_cell hbox 0).trans rfl; have hf0 := blk_frozen hbox 0; have hc1 : wb.cell? ⟨gb, 1, none⟩ = some (.string (⟨#[]⟩ : ByteArray)) := (blk_cell hbox 1).trans rfl; have hf1 := blk_frozen hbox 1; have hc2 : wb.cell? ⟨gb, 2, none⟩ = some (.string (⟨#[]⟩ : ByteArray)) := (blk_cell hbox 2).trans rfl; have hf2 := blk_frozen hbox 2; have hc3 : wb.cell? ⟨gb, 3, none⟩ = some (.string (⟨#[]⟩ : ByteArray)) := (blk_cell hbox 3).trans rfl; have hf3 := blk_frozen hbox 3))
  go_ret2
  exact ⟨rfl, below_set (below_set (below_set (below_set HB.out hgl) hgl) hgl) hgl⟩
 rw [if_pos c1] at h
 obtain ⟨⟨y1, y2, e2⟩, ho, h⟩ := Option.bind_eq_some_iff.mp h
 simp only at h
 have c1b : (e1 != 0) = false := bne_eq_false_iff_eq.mpr c1
 have c1c : (e1 == 0) = true := beq_iff_eq.mpr c1
 clear c1
 by_cases c2 : e2 = 0
 ·rw [if_pos c2] at h
  have c2b : (e2 != 0) = false := bne_eq_false_iff_eq.mpr c2
  have c2c : (e2 == 0) = true := beq_iff_eq.mpr c2
  clear c2
  have hw := h
  go_enter Tryz.func97, Tryz.ntmps97
  go_wp2_with (first | ((with_reducible refine gc_ 90 rfl ?_); refine goB (w0 := w) (some 15) Tryz.func90 #[.string a1, .string a2] (Below.refl _ _) (rAnewPair.calls k a1 a2 p q r s e1 _ hL hp) ?_; intro w1 HB) | ((with_reducible refine gd_ 8 rfl ?_); refine bxE 8 #[.string (⟨#[]⟩ : ByteArray), .string (⟨#[]⟩ : ByteArray), .string (⟨#[]⟩ : ByteArray), .string (⟨#[]⟩ : ByteArray)] 95 ?_; intro gb hg wb hbox hbb; have hgl : w.heap.size ≤ gb := (by rw [hg]; exact HB.out.size); have HB2 := Z0.mk (below_step HB.out hbb); clear HB hg hbb; have HB := HB2; clear HB2; have hc0 : wb.cell? ⟨gb, 0, none⟩ = some (.string (⟨#[]⟩ : ByteArray)) := (blk_cell hbox 0).trans rfl; have hf0 := blk_frozen hbox 0; have hc1 : wb.cell? ⟨gb, 1, none⟩ = some (.string (⟨#[]⟩ : ByteArray)) := (blk_cell hbox 1).trans rfl; have hf1 := blk_frozen hbox 1; have hc2 : wb.cell? ⟨gb, 2, none⟩ = some (.string (⟨#[]⟩ : ByteArray)) := (blk_cell hbox 2).trans rfl; have hf2 := blk_frozen hbox 2; have hc3 : wb.cell? ⟨gb, 3, none⟩ = some (.string (⟨#[]⟩ : ByteArray)) := (blk_cell hbox 3).trans rfl; have hf3 := blk_frozen hbox 3))
  obtain ⟨W, hW⟩ : ∃ W, ((((wb.setCell ⟨gb, 0, none⟩ (.string p)).setCell ⟨gb, 1, none⟩ (.string q)).setCell ⟨gb, 2, none⟩ (.string r)).setCell ⟨gb, 3, none⟩ (.string s)) = W := ⟨_, rfl⟩
  have hx : W.heap[gb]? = some (.cells #[.string p, .string q, .string r, .string s] 95 (0, 0)) := by
   rw [← hW]
   exact blk_put (cs := #[.string p, .string q, .string r, .string (⟨#[]⟩ : ByteArray)]) (blk_put (cs := #[.string p, .string q, .string (⟨#[]⟩ : ByteArray), .string (⟨#[]⟩ : ByteArray)]) (blk_put (cs := #[.string p, .string (⟨#[]⟩ : ByteArray), .string (⟨#[]⟩ : ByteArray), .string (⟨#[]⟩ : ByteArray)]) (blk_put hbox 0 _ rfl) 1 _ rfl) 2 _ rfl) 3 _ rfl
  have hBW : Below w.heap.size w W := by rw [← hW]; exact below_set (below_set (below_set (below_set HB.out hgl) hgl) hgl) hgl
  rw [hW]
  clear hW HB hbox
  have hxd : W.drew.heap[gb]? = some (.cells #[.string p, .string q, .string r, .string s] 95 (0, 0)) := hx
  have hBd : Below w.heap.size w W.drew := hBW.drew
  go_region_held3 (fun w' => w'.cell? ⟨gb, 0, none⟩ = some (.string p) ∧ w'.cell? ⟨gb, 1, none⟩ = some (.string q) ∧ w'.cell? ⟨gb, 2, none⟩ = some (.string r) ∧ w'.cell? ⟨gb, 3, none⟩ = some (.string s))
   (first | exact ⟨blk_cell hxd 0, blk_cell hxd 1, blk_cell hxd 2, blk_cell hxd 3⟩ | exact ⟨blk_cell hx2 0, blk_cell hx2 1, blk_cell hx2 2, blk_cell hx2 3⟩ | exact ⟨blk_cell hx3 0, blk_cell hx3 1, blk_cell hx3 2, blk_cell hx3 3⟩)
   (first
     | (go_at_call 133; refine (rops_calls _).mono ?_; rintro e w2 ⟨m, g1, g2, rfl, hm, hg1, hg2, hb2⟩
        have hx2 := (hb2.block gb (Array.getElem?_eq_some_iff.1 hxd).1).trans hxd
        have hB2 := below_step hBd hb2
        have hlk := run_look m (ropsE g1 g2) 4 42 2 _ w2 hm rfl)
     | (go_at_call 174; refine (rAoperations_1.calls k p q r s y1 y2 e2 w2 (hL.below hB2) ho).mono ?_; rintro e w3 ⟨rfl, hb3⟩
        have hx3 := (hb3.block gb (Array.getElem?_eq_some_iff.1 hx2).1).trans hx2
        have HB := Z0.mk (below_step hB2 hb3)))
  all_goals go_wp2_with (first | ((with_reducible refine gc_ 84 rfl ?_); refine goB (w0 := w) (some 35) Tryz.func84 #[.string y1, .string y2] HB.out (rAwhole.calls k y1 y2 r1 r2 _ (hL.below HB.out) hw) ?_; clear HB; intro w5 HB))
  go_ret2
  exact ⟨rfl, HB.out⟩
 rw [if_neg c2] at h
 simp only [Option.some.injEq, Prod.mk.injEq] at h
 obtain ⟨rfl, rfl⟩ := h
 have c2b : (e2 != 0) = true := bne_iff_ne.mpr c2
 have c2c : (e2 == 0) = false := beq_eq_false_iff_ne.mpr c2
 go_enter Tryz.func97, Tryz.ntmps97
 go_wp2_with (first | ((with_reducible refine gc_ 90 rfl ?_); refine goB (w0 := w) (some 15) Tryz.func90 #[.string a1, .string a2] (Below.refl _ _) (rAnewPair.calls k a1 a2 p q r s e1 _ hL hp) ?_; intro w1 HB) | ((with_reducible refine gd_ 8 rfl ?_); refine bxE 8 #[.string (⟨#[]⟩ : ByteArray), .string (⟨#[]⟩ : ByteArray), .string (⟨#[]⟩ : ByteArray), .string (⟨#[]⟩ : ByteArray)] 95 ?_; intro gb hg wb hbox hbb; have hgl : w.heap.size ≤ gb := (by rw [hg]; exact HB.out.size); have HB2 := Z0.mk (below_step HB.out hbb); clear HB hg hbb; have HB := HB2; clear HB2; have hc0 : wb.cell? ⟨gb, 0, none⟩ = some (.string (⟨#[]⟩ : ByteArray)) := (blk_cell hbox 0).trans rfl; have hf0 := blk_frozen hbox 0; have hc1 : wb.cell? ⟨gb, 1, none⟩ = some (.string (⟨#[]⟩ : ByteArray)) := (blk_cell hbox 1).trans rfl; have hf1 := blk_frozen hbox 1; have hc2 : wb.cell? ⟨gb, 2, none⟩ = some (.string (⟨#[]⟩ : ByteArray)) := (blk_cell hbox 2).trans rfl; have hf2 := blk_frozen hbox 2; have hc3 : wb.cell? ⟨gb, 3, none⟩ = some (.string (⟨#[]⟩ : ByteArray)) := (blk_cell hbox 3).trans rfl; have hf3 := blk_frozen hbox 3))
 obtain ⟨W, hW⟩ : ∃ W, ((((wb.setCell ⟨gb, 0, none⟩ (.string p)).setCell ⟨gb, 1, none⟩ (.string q)).setCell ⟨gb, 2, none⟩ (.string r)).setCell ⟨gb, 3, none⟩ (.string s)) = W := ⟨_, rfl⟩
 have hx : W.heap[gb]? = some (.cells #[.string p, .string q, .string r, .string s] 95 (0, 0)) := by
  rw [← hW]
  exact blk_put (cs := #[.string p, .string q, .string r, .string (⟨#[]⟩ : ByteArray)]) (blk_put (cs := #[.string p, .string q, .string (⟨#[]⟩ : ByteArray), .string (⟨#[]⟩ : ByteArray)]) (blk_put (cs := #[.string p, .string (⟨#[]⟩ : ByteArray), .string (⟨#[]⟩ : ByteArray), .string (⟨#[]⟩ : ByteArray)]) (blk_put hbox 0 _ rfl) 1 _ rfl) 2 _ rfl) 3 _ rfl
 have hBW : Below w.heap.size w W := by rw [← hW]; exact below_set (below_set (below_set (below_set HB.out hgl) hgl) hgl) hgl
 rw [hW]
 clear hW HB hbox
 have hxd : W.drew.heap[gb]? = some (.cells #[.string p, .string q, .string r, .string s] 95 (0, 0)) := hx
 have hBd : Below w.heap.size w W.drew := hBW.drew
 go_region_held3 (fun w' => w'.cell? ⟨gb, 0, none⟩ = some (.string p) ∧ w'.cell? ⟨gb, 1, none⟩ = some (.string q) ∧ w'.cell? ⟨gb, 2, none⟩ = some (.string r) ∧ w'.cell? ⟨gb, 3, none⟩ = some (.string s))
  (first | exact ⟨blk_cell hxd 0, blk_cell hxd 1, blk_cell hxd 2, blk_cell hxd 3⟩ | exact ⟨blk_cell hx2 0, blk_cell hx2 1, blk_cell hx2 2, blk_cell hx2 3⟩ | exact ⟨blk_cell hx3 0, blk_cell hx3 1, blk_cell hx3 2, blk_cell hx3 3⟩)
  (first
    | (go_at_call 133; refine (rops_calls _).mono ?_; rintro e w2 ⟨m, g1, g2, rfl, hm, hg1, hg2, hb2⟩
       have hx2 := (hb2.block gb (Array.getElem?_eq_some_iff.1 hxd).1).trans hxd
       have hB2 := below_step hBd hb2
       have hlk := run_look m (ropsE g1 g2) 4 42 2 _ w2 hm rfl)
    | (go_at_call 174; refine (rAoperations_1.calls k p q r s y1 y2 e2 w2 (hL.below hB2) ho).mono ?_; rintro e w3 ⟨rfl, hb3⟩
       have hx3 := (hb3.block gb (Array.getElem?_eq_some_iff.1 hx2).1).trans hx2
       have HB := Z0.mk (below_step hB2 hb3)))
 all_goals go_wp2
 go_ret2
 exact ⟨rfl, HB.out⟩
theorem calc47 (k : Nat) (a1 a2 : ByteArray) (r1 : ByteArray) (r2 : Int) (w : World) (hL : LaidW w) (h : calcF (rAoperations_2.f k) k a1 a2 = some (r1, r2)) :
    Calls Tryz.prog 97 #[.int .u8 47, .string a1, .string a2] w fun e w' => e = .returned (.tuple #[.string r1, .int .i64 r2]) ∧ Below w.heap.size w w' := by
 have hu95 := Tryz.underlying95
 unfold calcF at h
 obtain ⟨⟨p, q, r, s, e1⟩, hp, h⟩ := Option.bind_eq_some_iff.mp h
 simp only at h
 by_cases c1 : e1 = 0
 rotate_left
 ·rw [if_neg c1] at h
  simp only [Option.some.injEq, Prod.mk.injEq] at h
  obtain ⟨rfl, rfl⟩ := h
  have c1b : (e1 != 0) = true := bne_iff_ne.mpr c1
  have c1c : (e1 == 0) = false := beq_eq_false_iff_ne.mpr c1
  go_enter Tryz.func97, Tryz.ntmps97
  go_wp2_with (first | ((with_reducible refine gc_ 90 rfl ?_); refine goB (w0 := w) (some 15) Tryz.func90 #[.string a1, .string a2] (Below.refl _ _) (rAnewPair.calls k a1 a2 p q r s e1 _ hL hp) ?_; intro w1 HB) | ((with_reducible refine gd_ 8 rfl ?_); refine bxE 8 #[.string (⟨#[]⟩ : ByteArray), .string (⟨#[]⟩ : ByteArray), .string (⟨#[]⟩ : ByteArray), .string (⟨#[]⟩ : ByteArray)] 95 ?_; intro gb hg wb hbox hbb; have hgl : w.heap.size ≤ gb := (by rw [hg]; exact HB.out.size); have HB2 := Z0.mk (below_step HB.out hbb); clear HB hg hbb; have HB := HB2; clear HB2; have hc0 : wb.cell? ⟨gb, 0, none⟩ = some (.string (⟨#[]⟩ : ByteArray)) := (blk_cell hbox 0).trans rfl; have hf0 := blk_frozen hbox 0; have hc1 : wb.cell? ⟨gb, 1, none⟩ = some (.string (⟨#[]⟩ : ByteArray)) := (blk_cell hbox 1).trans rfl; have hf1 := blk_frozen hbox 1; have hc2 : wb.cell? ⟨gb, 2, none⟩ = some (.string (⟨#[]⟩ : ByteArray)) := (blk_cell hbox 2).trans rfl; have hf2 := blk_frozen hbox 2; have hc3 : wb.cell? ⟨gb, 3, none⟩ = some (.string (⟨#[]⟩ : ByteArray)) := (blk_cell hbox 3).trans rfl; have hf3 := blk_frozen hbox 3))
  go_ret2
  exact ⟨rfl, below_set (below_set (below_set (below_set HB.out hgl) hgl) hgl) hgl⟩
 rw [if_pos c1] at h
 obtain ⟨⟨y1, y2, e2⟩, ho, h⟩ := Option.bind_eq_some_iff.mp h
 simp only at h
 have c1b : (e1 != 0) = false := bne_eq_false_iff_eq.mpr c1
 have c1c : (e1 == 0) = true := beq_iff_eq.mpr c1
 clear c1
 by_cases c2 : e2 = 0
 ·rw [if_pos c2] at h
  have c2b : (e2 != 0) = false := bne_eq_false_iff_eq.mpr c2
  have c2c : (e2 == 0) = true := beq_iff_eq.mpr c2
  clear c2
  have hw := h
  go_enter Tryz.func97, Tryz.ntmps97
  go_wp2_with (first | ((with_reducible refine gc_ 90 rfl ?_); refine goB (w0 := w) (some 15) Tryz.func90 #[.string a1, .string a2] (Below.refl _ _) (rAnewPair.calls k a1 a2 p q r s e1 _ hL hp) ?_; intro w1 HB) | ((with_reducible refine gd_ 8 rfl ?_); refine bxE 8 #[.string (⟨#[]⟩ : ByteArray), .string (⟨#[]⟩ : ByteArray), .string (⟨#[]⟩ : ByteArray), .string (⟨#[]⟩ : ByteArray)] 95 ?_; intro gb hg wb hbox hbb; have hgl : w.heap.size ≤ gb := (by rw [hg]; exact HB.out.size); have HB2 := Z0.mk (below_step HB.out hbb); clear HB hg hbb; have HB := HB2; clear HB2; have hc0 : wb.cell? ⟨gb, 0, none⟩ = some (.string (⟨#[]⟩ : ByteArray)) := (blk_cell hbox 0).trans rfl; have hf0 := blk_frozen hbox 0; have hc1 : wb.cell? ⟨gb, 1, none⟩ = some (.string (⟨#[]⟩ : ByteArray)) := (blk_cell hbox 1).trans rfl; have hf1 := blk_frozen hbox 1; have hc2 : wb.cell? ⟨gb, 2, none⟩ = some (.string (⟨#[]⟩ : ByteArray)) := (blk_cell hbox 2).trans rfl; have hf2 := blk_frozen hbox 2; have hc3 : wb.cell? ⟨gb, 3, none⟩ = some (.string (⟨#[]⟩ : ByteArray)) := (blk_cell hbox 3).trans rfl; have hf3 := blk_frozen hbox 3))
  obtain ⟨W, hW⟩ : ∃ W, ((((wb.setCell ⟨gb, 0, none⟩ (.string p)).setCell ⟨gb, 1, none⟩ (.string q)).setCell ⟨gb, 2, none⟩ (.string r)).setCell ⟨gb, 3, none⟩ (.string s)) = W := ⟨_, rfl⟩
  have hx : W.heap[gb]? = some (.cells #[.string p, .string q, .string r, .string s] 95 (0, 0)) := by
   rw [← hW]
   exact blk_put (cs := #[.string p, .string q, .string r, .string (⟨#[]⟩ : ByteArray)]) (blk_put (cs := #[.string p, .string q, .string (⟨#[]⟩ : ByteArray), .string (⟨#[]⟩ : ByteArray)]) (blk_put (cs := #[.string p, .string (⟨#[]⟩ : ByteArray), .string (⟨#[]⟩ : ByteArray), .string (⟨#[]⟩ : ByteArray)]) (blk_put hbox 0 _ rfl) 1 _ rfl) 2 _ rfl) 3 _ rfl
  have hBW : Below w.heap.size w W := by rw [← hW]; exact below_set (below_set (below_set (below_set HB.out hgl) hgl) hgl) hgl
  rw [hW]
  clear hW HB hbox
  have hxd : W.drew.heap[gb]? = some (.cells #[.string p, .string q, .string r, .string s] 95 (0, 0)) := hx
  have hBd : Below w.heap.size w W.drew := hBW.drew
  go_region_held3 (fun w' => w'.cell? ⟨gb, 0, none⟩ = some (.string p) ∧ w'.cell? ⟨gb, 1, none⟩ = some (.string q) ∧ w'.cell? ⟨gb, 2, none⟩ = some (.string r) ∧ w'.cell? ⟨gb, 3, none⟩ = some (.string s))
   (first | exact ⟨blk_cell hxd 0, blk_cell hxd 1, blk_cell hxd 2, blk_cell hxd 3⟩ | exact ⟨blk_cell hx2 0, blk_cell hx2 1, blk_cell hx2 2, blk_cell hx2 3⟩ | exact ⟨blk_cell hx3 0, blk_cell hx3 1, blk_cell hx3 2, blk_cell hx3 3⟩)
   (first
     | (go_at_call 133; refine (rops_calls _).mono ?_; rintro e w2 ⟨m, g1, g2, rfl, hm, hg1, hg2, hb2⟩
        have hx2 := (hb2.block gb (Array.getElem?_eq_some_iff.1 hxd).1).trans hxd
        have hB2 := below_step hBd hb2
        have hlk := run_look m (ropsE g1 g2) 4 47 3 _ w2 hm rfl)
     | (go_at_call 175; refine (rAoperations_2.calls k p q r s y1 y2 e2 w2 (hL.below hB2) ho).mono ?_; rintro e w3 ⟨rfl, hb3⟩
        have hx3 := (hb3.block gb (Array.getElem?_eq_some_iff.1 hx2).1).trans hx2
        have HB := Z0.mk (below_step hB2 hb3)))
  all_goals go_wp2_with (first | ((with_reducible refine gc_ 84 rfl ?_); refine goB (w0 := w) (some 35) Tryz.func84 #[.string y1, .string y2] HB.out (rAwhole.calls k y1 y2 r1 r2 _ (hL.below HB.out) hw) ?_; clear HB; intro w5 HB))
  go_ret2
  exact ⟨rfl, HB.out⟩
 rw [if_neg c2] at h
 simp only [Option.some.injEq, Prod.mk.injEq] at h
 obtain ⟨rfl, rfl⟩ := h
 have c2b : (e2 != 0) = true := bne_iff_ne.mpr c2
 have c2c : (e2 == 0) = false := beq_eq_false_iff_ne.mpr c2
 go_enter Tryz.func97, Tryz.ntmps97
 go_wp2_with (first | ((with_reducible refine gc_ 90 rfl ?_); refine goB (w0 := w) (some 15) Tryz.func90 #[.string a1, .string a2] (Below.refl _ _) (rAnewPair.calls k a1 a2 p q r s e1 _ hL hp) ?_; intro w1 HB) | ((with_reducible refine gd_ 8 rfl ?_); refine bxE 8 #[.string (⟨#[]⟩ : ByteArray), .string (⟨#[]⟩ : ByteArray), .string (⟨#[]⟩ : ByteArray), .string (⟨#[]⟩ : ByteArray)] 95 ?_; intro gb hg wb hbox hbb; have hgl : w.heap.size ≤ gb := (by rw [hg]; exact HB.out.size); have HB2 := Z0.mk (below_step HB.out hbb); clear HB hg hbb; have HB := HB2; clear HB2; have hc0 : wb.cell? ⟨gb, 0, none⟩ = some (.string (⟨#[]⟩ : ByteArray)) := (blk_cell hbox 0).trans rfl; have hf0 := blk_frozen hbox 0; have hc1 : wb.cell? ⟨gb, 1, none⟩ = some (.string (⟨#[]⟩ : ByteArray)) := (blk_cell hbox 1).trans rfl; have hf1 := blk_frozen hbox 1; have hc2 : wb.cell? ⟨gb, 2, none⟩ = some (.string (⟨#[]⟩ : ByteArray)) := (blk_cell hbox 2).trans rfl; have hf2 := blk_frozen hbox 2; have hc3 : wb.cell? ⟨gb, 3, none⟩ = some (.string (⟨#[]⟩ : ByteArray)) := (blk_cell hbox 3).trans rfl; have hf3 := blk_frozen hbox 3))
 obtain ⟨W, hW⟩ : ∃ W, ((((wb.setCell ⟨gb, 0, none⟩ (.string p)).setCell ⟨gb, 1, none⟩ (.string q)).setCell ⟨gb, 2, none⟩ (.string r)).setCell ⟨gb, 3, none⟩ (.string s)) = W := ⟨_, rfl⟩
 have hx : W.heap[gb]? = some (.cells #[.string p, .string q, .string r, .string s] 95 (0, 0)) := by
  rw [← hW]
  exact blk_put (cs := #[.string p, .string q, .string r, .string (⟨#[]⟩ : ByteArray)]) (blk_put (cs := #[.string p, .string q, .string (⟨#[]⟩ : ByteArray), .string (⟨#[]⟩ : ByteArray)]) (blk_put (cs := #[.string p, .string (⟨#[]⟩ : ByteArray), .string (⟨#[]⟩ : ByteArray), .string (⟨#[]⟩ : ByteArray)]) (blk_put hbox 0 _ rfl) 1 _ rfl) 2 _ rfl) 3 _ rfl
 have hBW : Below w.heap.size w W := by rw [← hW]; exact below_set (below_set (below_set (below_set HB.out hgl) hgl) hgl) hgl
 rw [hW]
 clear hW HB hbox
 have hxd : W.drew.heap[gb]? = some (.cells #[.string p, .string q, .string r, .string s] 95 (0, 0)) := hx
 have hBd : Below w.heap.size w W.drew := hBW.drew
 go_region_held3 (fun w' => w'.cell? ⟨gb, 0, none⟩ = some (.string p) ∧ w'.cell? ⟨gb, 1, none⟩ = some (.string q) ∧ w'.cell? ⟨gb, 2, none⟩ = some (.string r) ∧ w'.cell? ⟨gb, 3, none⟩ = some (.string s))
  (first | exact ⟨blk_cell hxd 0, blk_cell hxd 1, blk_cell hxd 2, blk_cell hxd 3⟩ | exact ⟨blk_cell hx2 0, blk_cell hx2 1, blk_cell hx2 2, blk_cell hx2 3⟩ | exact ⟨blk_cell hx3 0, blk_cell hx3 1, blk_cell hx3 2, blk_cell hx3 3⟩)
  (first
    | (go_at_call 133; refine (rops_calls _).mono ?_; rintro e w2 ⟨m, g1, g2, rfl, hm, hg1, hg2, hb2⟩
       have hx2 := (hb2.block gb (Array.getElem?_eq_some_iff.1 hxd).1).trans hxd
       have hB2 := below_step hBd hb2
       have hlk := run_look m (ropsE g1 g2) 4 47 3 _ w2 hm rfl)
    | (go_at_call 175; refine (rAoperations_2.calls k p q r s y1 y2 e2 w2 (hL.below hB2) ho).mono ?_; rintro e w3 ⟨rfl, hb3⟩
       have hx3 := (hb3.block gb (Array.getElem?_eq_some_iff.1 hx2).1).trans hx2
       have HB := Z0.mk (below_step hB2 hb3)))
 all_goals go_wp2
 go_ret2
 exact ⟨rfl, HB.out⟩
theorem rAcalculate.calls (k : Nat) (a0 : Int) (a1 : ByteArray) (a2 : ByteArray) (r1 : ByteArray) (r2 : Int) (w : World) (hL : LaidW w) (h : rAcalculate.f k a0 a1 a2 = some (r1, r2)) :
    Calls Tryz.prog 97 #[.int .u8 a0, .string a1, .string a2] w fun e w' => e = .returned (.tuple #[.string r1, .int .i64 r2]) ∧ Below w.heap.size w w' := by
 unfold rAcalculate.f at h
 split at h
 ·rename_i e; subst e; exact calc43 k a1 a2 r1 r2 w hL h
 split at h
 ·rename_i e; subst e; exact calc45 k a1 a2 r1 r2 w hL h
 split at h
 ·rename_i e; subst e; exact calc42 k a1 a2 r1 r2 w hL h
 split at h
 ·rename_i e; subst e; exact calc47 k a1 a2 r1 r2 w hL h
 cases h
end Go.Proofs.YthnfajboebaajaaGreatDoor
namespace Go.Proofs.YthnfajboebaajaaGreatDoor.PA
open Go.RowKit Go.Proofs.WWords Go.Proofs.WLast Go.Proofs.WMore
attribute [local go_sem] max2_int min2_int max_two min_two max_three min_three max_four min_four
set_option linter.unusedVariables false
set_option linter.unusedSimpArgs false
theorem rAAdd.calls (k : Nat) (a0 : ByteArray) (a1 : ByteArray) (r1 : ByteArray) (r2 : Int) (w : World) (hL : LaidW w) (h : rAAdd.f k a0 a1 = some (r1, r2)) :
  Calls Tryz.prog 43 #[.string a0, .string a1] w fun e w' => e = .returned (.tuple #[.string r1, .int .i64 r2]) ∧ Below w.heap.size w w' := by
 have HB := Z0.mk (Below.refl w.heap.size w)
 have H := h
 clear h
 unfold rAAdd.f at H
 obtain ⟨⟨t411, t412⟩, A3, H⟩ := bnd H
 try dsimp only at H
 simp only [Option.some.injEq, Prod.mk.injEq] at H
 obtain ⟨rfl, rfl⟩ := H
 go_enter Tryz.func43, Tryz.ntmps43
 go_wp2_with (first | ((with_reducible refine gc_ 97 rfl ?_); refine goB (some 8) Tryz.func97 #[.int .u8 43, .string a0, .string a1] bq (rAcalculate.calls k 43 a0 a1 t411 t412 _ (hL.below bq) A3.out) ?_; clear HB; intro w4 HB))
 go_ret2
 exact finE
theorem rADiv.calls (k : Nat) (a0 : ByteArray) (a1 : ByteArray) (r1 : ByteArray) (r2 : Int) (w : World) (hL : LaidW w) (h : rADiv.f k a0 a1 = some (r1, r2)) :
  Calls Tryz.prog 48 #[.string a0, .string a1] w fun e w' => e = .returned (.tuple #[.string r1, .int .i64 r2]) ∧ Below w.heap.size w w' := by
 have HB := Z0.mk (Below.refl w.heap.size w)
 have H := h
 clear h
 unfold rADiv.f at H
 obtain ⟨⟨t413, t414⟩, A3, H⟩ := bnd H
 try dsimp only at H
 simp only [Option.some.injEq, Prod.mk.injEq] at H
 obtain ⟨rfl, rfl⟩ := H
 go_enter Tryz.func48, Tryz.ntmps48
 go_wp2_with (first | ((with_reducible refine gc_ 97 rfl ?_); refine goB (some 8) Tryz.func97 #[.int .u8 47, .string a0, .string a1] bq (rAcalculate.calls k 47 a0 a1 t413 t414 _ (hL.below bq) A3.out) ?_; clear HB; intro w4 HB))
 go_ret2
 exact finE
theorem rAMul.calls (k : Nat) (a0 : ByteArray) (a1 : ByteArray) (r1 : ByteArray) (r2 : Int) (w : World) (hL : LaidW w) (h : rAMul.f k a0 a1 = some (r1, r2)) :
  Calls Tryz.prog 41 #[.string a0, .string a1] w fun e w' => e = .returned (.tuple #[.string r1, .int .i64 r2]) ∧ Below w.heap.size w w' := by
 have HB := Z0.mk (Below.refl w.heap.size w)
 have H := h
 clear h
 unfold rAMul.f at H
 obtain ⟨⟨t753, t754⟩, A3, H⟩ := bnd H
 try dsimp only at H
 simp only [Option.some.injEq, Prod.mk.injEq] at H
 obtain ⟨rfl, rfl⟩ := H
 go_enter Tryz.func41, Tryz.ntmps41
 go_wp2_with (first | ((with_reducible refine gc_ 97 rfl ?_); refine goB (some 8) Tryz.func97 #[.int .u8 42, .string a0, .string a1] bq (rAcalculate.calls k 42 a0 a1 t753 t754 _ (hL.below bq) A3.out) ?_; clear HB; intro w4 HB))
 go_ret2
 exact finE
theorem rANeg.calls (k : Nat) (a0 : ByteArray) (r1 : ByteArray) (r2 : Int) (w : World) (hL : LaidW w) (h : rANeg.f k a0 = some (r1, r2)) :
  Calls Tryz.prog 20 #[.string a0] w fun e w' => e = .returned (.tuple #[.string r1, .int .i64 r2]) ∧ Below w.heap.size w w' := by
 have HB := Z0.mk (Below.refl w.heap.size w)
 have H := h
 clear h
 unfold rANeg.f at H
 obtain ⟨t291, A2, H⟩ := bnd H
 rcases je H with ⟨-, c3b0, c3b1, H⟩ | ⟨c3, c3b0, c3b1, H⟩
 ·rcases je H with ⟨-, c4b0, c4b1, H⟩ | ⟨c4, c4b0, c4b1, H⟩
  ·simp only [Option.some.injEq, Prod.mk.injEq] at H
   obtain ⟨rfl, rfl⟩ := H
   go_enter Tryz.func20, Tryz.ntmps20
   go_wp2_with (first | ((with_reducible refine gc_ 28 rfl ?_); refine goB (some 6) Tryz.func28 #[.string a0] bq (rACheck.calls k a0 t291 _ (hL.below bq) A2.out) ?_; clear HB; intro w5 HB))
   go_ret2
   exact finE
  obtain ⟨c6, c6b0, H⟩ := gd H
  have c6b1 : decide (0 < a0.size) = true := decide_eq_true (by omega)
  clear c6
  rcases je H with ⟨-, c8b0, c8b1, H⟩ | ⟨c8, c8b0, c8b1, H⟩
  ·obtain ⟨-, c9b0, c9b1, H⟩ := gt H
   simp only [Option.some.injEq, Prod.mk.injEq] at H
   obtain ⟨rfl, rfl⟩ := H
   go_enter Tryz.func20, Tryz.ntmps20
   go_wp2_with (first | ((with_reducible refine gc_ 28 rfl ?_); refine gL 6 Tryz.func28 (rACheck.calls k a0 t291 _ ?side1 A2.out) ?_; (case side1 => exact LaidW.below hL bqs); rintro _ w10 ⟨rfl, hb⟩; refine ⟨_, rfl, ?_⟩; replace HB := fB HB hb; clear hb; have p7 : 0 ≤ (0 : Int) := (by omega); have q7 : 0 < a0.size := (by have : (0 : Int) < (a0.size : Int) := od; omega); have hx7 : ∀ h : 0 < a0.size, ((a0[0]'h).toNat : Int) = bt a0 0 := bt_at a0 0; clear p7; have qi7 : (0 < (a0.size : Int)) = True := eq_true od; replace q7 := eq_true q7))
   go_ret2
   exact finE
  obtain ⟨c11, c11b0, c11b1, H⟩ := gt H
  try have c11b2 : (9223372036854775807 < 1 + a0.size) = False := eq_false (Nat.not_lt.2 c11)
  simp only [Option.some.injEq, Prod.mk.injEq] at H
  obtain ⟨rfl, rfl⟩ := H
  go_enter Tryz.func20, Tryz.ntmps20
  go_wp2_with (first | ((with_reducible refine gc_ 28 rfl ?_); refine gL 6 Tryz.func28 (rACheck.calls k a0 t291 _ ?side1 A2.out) ?_; (case side1 => exact LaidW.below hL bqs); rintro _ w12 ⟨rfl, hb⟩; refine ⟨_, rfl, ?_⟩; replace HB := fB HB hb; clear hb; have p7 : 0 ≤ (0 : Int) := (by omega); have q7 : 0 < a0.size := (by have : (0 : Int) < (a0.size : Int) := od; omega); have hx7 : ∀ h : 0 < a0.size, ((a0[0]'h).toNat : Int) = bt a0 0 := bt_at a0 0; clear p7; have qi7 : (0 < (a0.size : Int)) = True := eq_true od; replace q7 := eq_true q7))
  go_ret2
  exact finE
 simp only [Option.some.injEq, Prod.mk.injEq] at H
 obtain ⟨rfl, rfl⟩ := H
 go_enter Tryz.func20, Tryz.ntmps20
 go_wp2_with (first | ((with_reducible refine gc_ 28 rfl ?_); refine goB (some 6) Tryz.func28 #[.string a0] bq (rACheck.calls k a0 t291 _ (hL.below bq) A2.out) ?_; clear HB; intro w13 HB))
 go_ret2
 exact finE
theorem rASub.calls (k : Nat) (a0 : ByteArray) (a1 : ByteArray) (r1 : ByteArray) (r2 : Int) (w : World) (hL : LaidW w) (h : rASub.f k a0 a1 = some (r1, r2)) :
  Calls Tryz.prog 46 #[.string a0, .string a1] w fun e w' => e = .returned (.tuple #[.string r1, .int .i64 r2]) ∧ Below w.heap.size w w' := by
 have HB := Z0.mk (Below.refl w.heap.size w)
 have H := h
 clear h
 unfold rASub.f at H
 obtain ⟨⟨t847, t848⟩, A3, H⟩ := bnd H
 try dsimp only at H
 simp only [Option.some.injEq, Prod.mk.injEq] at H
 obtain ⟨rfl, rfl⟩ := H
 go_enter Tryz.func46, Tryz.ntmps46
 go_wp2_with (first | ((with_reducible refine gc_ 97 rfl ?_); refine goB (some 8) Tryz.func97 #[.int .u8 45, .string a0, .string a1] bq (rAcalculate.calls k 45 a0 a1 t847 t848 _ (hL.below bq) A3.out) ?_; clear HB; intro w4 HB))
 go_ret2
 exact finE
theorem rAFloor.calls (k : Nat) (a0 : ByteArray) (r1 : ByteArray) (r2 : Int) (w : World) (hL : LaidW w) (h : rAFloor.f k a0 = some (r1, r2)) :
  Calls Tryz.prog 21 #[.string a0] w fun e w' => e = .returned (.tuple #[.string r1, .int .i64 r2]) ∧ Below w.heap.size w w' := by
 have HB := Z0.mk (Below.refl w.heap.size w)
 have H := h
 clear h
 unfold rAFloor.f at H
 obtain ⟨t286, A2, H⟩ := bnd H
 rcases je H with ⟨-, c3b0, c3b1, H⟩ | ⟨c3, c3b0, c3b1, H⟩
 ·obtain ⟨⟨t287, t288⟩, A4, H⟩ := bnd H
  try dsimp only at H
  obtain ⟨⟨t289, t290⟩, A5, H⟩ := bnd H
  try dsimp only at H
  simp only [Option.some.injEq, Prod.mk.injEq] at H
  obtain ⟨rfl, rfl⟩ := H
  go_enter Tryz.func21, Tryz.ntmps21
  go_wp2_with (first | ((with_reducible refine gc_ 28 rfl ?_); refine goB (some 8) Tryz.func28 #[.string a0] bq (rACheck.calls k a0 t286 _ (hL.below bq) A2.out) ?_; clear HB; intro w6 HB) | ((with_reducible refine gc_ 71 rfl ?_); refine goB (some 14) Tryz.func71 #[.string a0] bq (rAsplit.calls a0 t287 t288 _ A4.out) ?_; clear HB; intro w7 HB) | ((with_reducible refine gc_ 69 rfl ?_); refine goB (some 19) Tryz.func69 #[.string t287, .string t288] bq (bIQuo.calls k t287 t288 t289 t290 _ (hL.below bq) A5.out) ?_; clear HB; intro w8 HB))
  go_ret2
  exact finE
 simp only [Option.some.injEq, Prod.mk.injEq] at H
 obtain ⟨rfl, rfl⟩ := H
 go_enter Tryz.func21, Tryz.ntmps21
 go_wp2_with (first | ((with_reducible refine gc_ 28 rfl ?_); refine goB (some 8) Tryz.func28 #[.string a0] bq (rACheck.calls k a0 t286 _ (hL.below bq) A2.out) ?_; clear HB; intro w9 HB))
 go_ret2
 exact finE
theorem rACeil.calls (k : Nat) (a0 : ByteArray) (r1 : ByteArray) (r2 : Int) (w : World) (hL : LaidW w) (h : rACeil.f k a0 = some (r1, r2)) :
  Calls Tryz.prog 22 #[.string a0] w fun e w' => e = .returned (.tuple #[.string r1, .int .i64 r2]) ∧ Below w.heap.size w w' := by
 have HB := Z0.mk (Below.refl w.heap.size w)
 have H := h
 clear h
 unfold rACeil.f at H
 obtain ⟨⟨t323, t324⟩, A2, H⟩ := bnd H
 try dsimp only at H
 rcases je H with ⟨-, c3b0, c3b1, H⟩ | ⟨c3, c3b0, c3b1, H⟩
 ·obtain ⟨⟨t325, t326⟩, A4, H⟩ := bnd H
  try dsimp only at H
  rcases je H with ⟨-, c5b0, c5b1, H⟩ | ⟨c5, c5b0, c5b1, H⟩
  ·obtain ⟨⟨t327, t328⟩, A6, H⟩ := bnd H
   try dsimp only at H
   simp only [Option.some.injEq, Prod.mk.injEq] at H
   obtain ⟨rfl, rfl⟩ := H
   go_enter Tryz.func22, Tryz.ntmps22
   go_wp2_with (first | ((with_reducible refine gc_ 20 rfl ?_); refine goB (some 9) Tryz.func20 #[.string a0] bq (rANeg.calls k a0 t323 t324 _ (hL.below bq) A2.out) ?_; clear HB; intro w7 HB) | ((with_reducible refine gc_ 21 rfl ?_); refine goB (some 17) Tryz.func21 #[.string t323] bq (rAFloor.calls k t323 t325 t326 _ (hL.below bq) A4.out) ?_; clear HB; intro w8 HB) | ((with_reducible refine gc_ 35 rfl ?_); refine goB (some 24) Tryz.func35 #[.string t325] bq (bINeg.calls k t325 t327 t328 _ (hL.below bq) A6.out) ?_; clear HB; intro w9 HB))
   go_ret2
   exact finE
  simp only [Option.some.injEq, Prod.mk.injEq] at H
  obtain ⟨rfl, rfl⟩ := H
  go_enter Tryz.func22, Tryz.ntmps22
  go_wp2_with (first | ((with_reducible refine gc_ 20 rfl ?_); refine goB (some 9) Tryz.func20 #[.string a0] bq (rANeg.calls k a0 t323 t324 _ (hL.below bq) A2.out) ?_; clear HB; intro w10 HB) | ((with_reducible refine gc_ 21 rfl ?_); refine goB (some 17) Tryz.func21 #[.string t323] bq (rAFloor.calls k t323 t325 t326 _ (hL.below bq) A4.out) ?_; clear HB; intro w11 HB))
  go_ret2
  exact finE
 simp only [Option.some.injEq, Prod.mk.injEq] at H
 obtain ⟨rfl, rfl⟩ := H
 go_enter Tryz.func22, Tryz.ntmps22
 go_wp2_with (first | ((with_reducible refine gc_ 20 rfl ?_); refine goB (some 9) Tryz.func20 #[.string a0] bq (rANeg.calls k a0 t323 t324 _ (hL.below bq) A2.out) ?_; clear HB; intro w12 HB))
 go_ret2
 exact finE
theorem rACompare.calls (k : Nat) (a0 : ByteArray) (a1 : ByteArray) (r1 : Int) (r2 : Int) (w : World) (hL : LaidW w) (h : rACompare.f k a0 a1 = some (r1, r2)) :
  Calls Tryz.prog 34 #[.string a0, .string a1] w fun e w' => e = .returned (.tuple #[.int .i64 r1, .int .i64 r2]) ∧ Below w.heap.size w w' := by
 have hu95 := Tryz.underlying95
 have HB := Z0.mk (Below.refl w.heap.size w)
 have H := h
 clear h
 unfold rACompare.f at H
 obtain ⟨⟨t400, t401, t402, t403, t404⟩, A3, H⟩ := bnd H
 try dsimp only at H
 rcases je H with ⟨-, c4b0, c4b1, H⟩ | ⟨c4, c4b0, c4b1, H⟩
 ·obtain ⟨⟨t406, t407, t408⟩, A5, H⟩ := bnd H
  try dsimp only at H
  rcases je H with ⟨-, c6b0, c6b1, H⟩ | ⟨c6, c6b0, c6b1, H⟩
  ·obtain ⟨⟨t409, t410⟩, A7, H⟩ := bnd H
   try dsimp only at H
   simp only [Option.some.injEq, Prod.mk.injEq] at H
   obtain ⟨rfl, rfl⟩ := H
   go_enter Tryz.func34, Tryz.ntmps34
   go_wp2_with (first | ((with_reducible refine gc_ 90 rfl ?_); refine goB (some 13) Tryz.func90 #[.string a0, .string a1] bq (rAnewPair.calls k a0 a1 t400 t401 t402 t403 t404 _ (hL.below bq) A3.out) ?_; clear HB; intro w8 HB) | ((with_reducible refine gd_ 6 rfl ?_); refine bxE 6 #[.string (⟨#[]⟩ : ByteArray), .string (⟨#[]⟩ : ByteArray), .string (⟨#[]⟩ : ByteArray), .string (⟨#[]⟩ : ByteArray)] 95 ?_; intro gb405 hg w9 hbox hb; have BK405 := Z0.mk hbox; have GW405 := fE HB hg; have GE405 := fE HB hg; replace HB := fB HB hb; clear hb hbox hg; obtain ⟨hcz10_0, hcz10_1, hcz10_2, hcz10_3, hfz10_0, hfz10_1, hfz10_2, hfz10_3⟩ := b4 BK405) | ((with_reducible refine gc_ 91 rfl ?_); refine gL 28 Tryz.func91 (rAboth.calls k t400 t403 t402 t401 t406 t407 t408 _ ?side1 A5.out) ?_; (case side1 => exact LaidW.below hL bqs); rintro _ w11 ⟨rfl, hb⟩; refine ⟨_, rfl, ?_⟩; replace BK405 := Z0.mk (blk_below (g := gb405) (o := .cells #[.string t400, .string t401, .string t402, .string t403] 95 (0, 0)) (by (with_reducible repeat (first | refine blk_drewN ?_ _ | refine blk_drew ?_ | refine blk_alloc ?_ _)); refine blk_put (cs := #[.string t400, .string t401, .string t402, .string (⟨#[]⟩ : ByteArray)]) ?_ 3 _ rfl; (with_reducible repeat (first | refine blk_drewN ?_ _ | refine blk_drew ?_ | refine blk_alloc ?_ _)); refine blk_put (cs := #[.string t400, .string t401, .string (⟨#[]⟩ : ByteArray), .string (⟨#[]⟩ : ByteArray)]) ?_ 2 _ rfl; (with_reducible repeat (first | refine blk_drewN ?_ _ | refine blk_drew ?_ | refine blk_alloc ?_ _)); refine blk_put (cs := #[.string t400, .string (⟨#[]⟩ : ByteArray), .string (⟨#[]⟩ : ByteArray), .string (⟨#[]⟩ : ByteArray)]) ?_ 1 _ rfl; (with_reducible repeat (first | refine blk_drewN ?_ _ | refine blk_drew ?_ | refine blk_alloc ?_ _)); refine blk_put (cs := #[.string (⟨#[]⟩ : ByteArray), .string (⟨#[]⟩ : ByteArray), .string (⟨#[]⟩ : ByteArray), .string (⟨#[]⟩ : ByteArray)]) ?_ 0 _ rfl; (with_reducible repeat (first | refine blk_drewN ?_ _ | refine blk_drew ?_ | refine blk_alloc ?_ _)); exact BK405.out) hb); replace HB := fB HB hb; clear hb) | ((with_reducible refine gc_ 63 rfl ?_); refine gL 37 Tryz.func63 (bICompare.calls _ _ _ _ _ _ A7.out) ?_; rintro _ w12 ⟨rfl, hb⟩; refine ⟨_, rfl, ?_⟩; replace BK405 := fk BK405 hb; replace HB := fB HB hb; clear hb))
   go_ret2
   exact finE
  simp only [Option.some.injEq, Prod.mk.injEq] at H
  obtain ⟨rfl, rfl⟩ := H
  go_enter Tryz.func34, Tryz.ntmps34
  go_wp2_with (first | ((with_reducible refine gc_ 90 rfl ?_); refine goB (some 13) Tryz.func90 #[.string a0, .string a1] bq (rAnewPair.calls k a0 a1 t400 t401 t402 t403 t404 _ (hL.below bq) A3.out) ?_; clear HB; intro w13 HB) | ((with_reducible refine gd_ 6 rfl ?_); refine bxE 6 #[.string (⟨#[]⟩ : ByteArray), .string (⟨#[]⟩ : ByteArray), .string (⟨#[]⟩ : ByteArray), .string (⟨#[]⟩ : ByteArray)] 95 ?_; intro gb405 hg w14 hbox hb; have BK405 := Z0.mk hbox; have GW405 := fE HB hg; have GE405 := fE HB hg; replace HB := fB HB hb; clear hb hbox hg; obtain ⟨hcz15_0, hcz15_1, hcz15_2, hcz15_3, hfz15_0, hfz15_1, hfz15_2, hfz15_3⟩ := b4 BK405) | ((with_reducible refine gc_ 91 rfl ?_); refine gL 28 Tryz.func91 (rAboth.calls k t400 t403 t402 t401 t406 t407 t408 _ ?side1 A5.out) ?_; (case side1 => exact LaidW.below hL bqs); rintro _ w16 ⟨rfl, hb⟩; refine ⟨_, rfl, ?_⟩; replace BK405 := Z0.mk (blk_below (g := gb405) (o := .cells #[.string t400, .string t401, .string t402, .string t403] 95 (0, 0)) (by (with_reducible repeat (first | refine blk_drewN ?_ _ | refine blk_drew ?_ | refine blk_alloc ?_ _)); refine blk_put (cs := #[.string t400, .string t401, .string t402, .string (⟨#[]⟩ : ByteArray)]) ?_ 3 _ rfl; (with_reducible repeat (first | refine blk_drewN ?_ _ | refine blk_drew ?_ | refine blk_alloc ?_ _)); refine blk_put (cs := #[.string t400, .string t401, .string (⟨#[]⟩ : ByteArray), .string (⟨#[]⟩ : ByteArray)]) ?_ 2 _ rfl; (with_reducible repeat (first | refine blk_drewN ?_ _ | refine blk_drew ?_ | refine blk_alloc ?_ _)); refine blk_put (cs := #[.string t400, .string (⟨#[]⟩ : ByteArray), .string (⟨#[]⟩ : ByteArray), .string (⟨#[]⟩ : ByteArray)]) ?_ 1 _ rfl; (with_reducible repeat (first | refine blk_drewN ?_ _ | refine blk_drew ?_ | refine blk_alloc ?_ _)); refine blk_put (cs := #[.string (⟨#[]⟩ : ByteArray), .string (⟨#[]⟩ : ByteArray), .string (⟨#[]⟩ : ByteArray), .string (⟨#[]⟩ : ByteArray)]) ?_ 0 _ rfl; (with_reducible repeat (first | refine blk_drewN ?_ _ | refine blk_drew ?_ | refine blk_alloc ?_ _)); exact BK405.out) hb); replace HB := fB HB hb; clear hb))
  go_ret2
  exact finE
 simp only [Option.some.injEq, Prod.mk.injEq] at H
 obtain ⟨rfl, rfl⟩ := H
 go_enter Tryz.func34, Tryz.ntmps34
 go_wp2_with (first | ((with_reducible refine gc_ 90 rfl ?_); refine goB (some 13) Tryz.func90 #[.string a0, .string a1] bq (rAnewPair.calls k a0 a1 t400 t401 t402 t403 t404 _ (hL.below bq) A3.out) ?_; clear HB; intro w17 HB) | ((with_reducible refine gd_ 6 rfl ?_); refine bxE 6 #[.string (⟨#[]⟩ : ByteArray), .string (⟨#[]⟩ : ByteArray), .string (⟨#[]⟩ : ByteArray), .string (⟨#[]⟩ : ByteArray)] 95 ?_; intro gb405 hg w18 hbox hb; have BK405 := Z0.mk hbox; have GW405 := fE HB hg; have GE405 := fE HB hg; replace HB := fB HB hb; clear hb hbox hg; obtain ⟨hcz19_0, hcz19_1, hcz19_2, hcz19_3, hfz19_0, hfz19_1, hfz19_2, hfz19_3⟩ := b4 BK405))
 go_ret2
 exact finE
theorem rADen.calls (k : Nat) (a0 : ByteArray) (r1 : ByteArray) (r2 : Int) (w : World) (hL : LaidW w) (h : rADen.f k a0 = some (r1, r2)) :
  Calls Tryz.prog 19 #[.string a0] w fun e w' => e = .returned (.tuple #[.string r1, .int .i64 r2]) ∧ Below w.heap.size w w' := by
 have HB := Z0.mk (Below.refl w.heap.size w)
 have H := h
 clear h
 unfold rADen.f at H
 obtain ⟨t226, A2, H⟩ := bnd H
 rcases je H with ⟨-, c3b0, c3b1, H⟩ | ⟨c3, c3b0, c3b1, H⟩
 ·obtain ⟨⟨t227, t228⟩, A4, H⟩ := bnd H
  try dsimp only at H
  simp only [Option.some.injEq, Prod.mk.injEq] at H
  obtain ⟨rfl, rfl⟩ := H
  go_enter Tryz.func19, Tryz.ntmps19
  go_wp2_with (first | ((with_reducible refine gc_ 28 rfl ?_); refine goB (some 8) Tryz.func28 #[.string a0] bq (rACheck.calls k a0 t226 _ (hL.below bq) A2.out) ?_; clear HB; intro w5 HB) | ((with_reducible refine gc_ 71 rfl ?_); refine goB (some 14) Tryz.func71 #[.string a0] bq (rAsplit.calls a0 t227 t228 _ A4.out) ?_; clear HB; intro w6 HB))
  go_ret2
  exact finE
 simp only [Option.some.injEq, Prod.mk.injEq] at H
 obtain ⟨rfl, rfl⟩ := H
 go_enter Tryz.func19, Tryz.ntmps19
 go_wp2_with (first | ((with_reducible refine gc_ 28 rfl ?_); refine goB (some 8) Tryz.func28 #[.string a0] bq (rACheck.calls k a0 t226 _ (hL.below bq) A2.out) ?_; clear HB; intro w7 HB))
 go_ret2
 exact finE
theorem rANum.calls (k : Nat) (a0 : ByteArray) (r1 : ByteArray) (r2 : Int) (w : World) (hL : LaidW w) (h : rANum.f k a0 = some (r1, r2)) :
  Calls Tryz.prog 18 #[.string a0] w fun e w' => e = .returned (.tuple #[.string r1, .int .i64 r2]) ∧ Below w.heap.size w w' := by
 have HB := Z0.mk (Below.refl w.heap.size w)
 have H := h
 clear h
 unfold rANum.f at H
 obtain ⟨t223, A2, H⟩ := bnd H
 rcases je H with ⟨-, c3b0, c3b1, H⟩ | ⟨c3, c3b0, c3b1, H⟩
 ·obtain ⟨⟨t224, t225⟩, A4, H⟩ := bnd H
  try dsimp only at H
  simp only [Option.some.injEq, Prod.mk.injEq] at H
  obtain ⟨rfl, rfl⟩ := H
  go_enter Tryz.func18, Tryz.ntmps18
  go_wp2_with (first | ((with_reducible refine gc_ 28 rfl ?_); refine goB (some 8) Tryz.func28 #[.string a0] bq (rACheck.calls k a0 t223 _ (hL.below bq) A2.out) ?_; clear HB; intro w5 HB) | ((with_reducible refine gc_ 71 rfl ?_); refine goB (some 14) Tryz.func71 #[.string a0] bq (rAsplit.calls a0 t224 t225 _ A4.out) ?_; clear HB; intro w6 HB))
  go_ret2
  exact finE
 simp only [Option.some.injEq, Prod.mk.injEq] at H
 obtain ⟨rfl, rfl⟩ := H
 go_enter Tryz.func18, Tryz.ntmps18
 go_wp2_with (first | ((with_reducible refine gc_ 28 rfl ?_); refine goB (some 8) Tryz.func28 #[.string a0] bq (rACheck.calls k a0 t223 _ (hL.below bq) A2.out) ?_; clear HB; intro w7 HB))
 go_ret2
 exact finE
theorem rAOf.calls (k : Nat) (a0 : ByteArray) (a1 : ByteArray) (r1 : ByteArray) (r2 : Int) (w : World) (hL : LaidW w) (h : rAOf.f k a0 a1 = some (r1, r2)) :
  Calls Tryz.prog 30 #[.string a0, .string a1] w fun e w' => e = .returned (.tuple #[.string r1, .int .i64 r2]) ∧ Below w.heap.size w w' := by
 have HB := Z0.mk (Below.refl w.heap.size w)
 have H := h
 clear h
 unfold rAOf.f at H
 obtain ⟨t362, A3, H⟩ := bnd H
 rcases je H with ⟨-, c4b0, c4b1, H⟩ | ⟨c4, c4b0, c4b1, H⟩
 ·obtain ⟨t363, A5, H⟩ := bnd H
  rcases je H with ⟨-, c6b0, c6b1, H⟩ | ⟨c6, c6b0, c6b1, H⟩
  ·rcases je H with ⟨-, c7b0, c7b1, H⟩ | ⟨c7, c7b0, c7b1, H⟩
   ·simp only [Option.some.injEq, Prod.mk.injEq] at H
    obtain ⟨rfl, rfl⟩ := H
    go_enter Tryz.func30, Tryz.ntmps30
    go_wp2_with (first | ((with_reducible refine gc_ 83 rfl ?_); refine goB (some 9) Tryz.func83 #[.string a0] bq (bICheck.calls a0 t362 _ A3.out) ?_; clear HB; intro w8 HB) | ((with_reducible refine gc_ 83 rfl ?_); refine goB (some 14) Tryz.func83 #[.string a1] bq (bICheck.calls a1 t363 _ A5.out) ?_; clear HB; intro w9 HB))
    go_ret2
    exact finE
   obtain ⟨⟨t364, t365⟩, A10, H⟩ := bnd H
   try dsimp only at H
   simp only [Option.some.injEq, Prod.mk.injEq] at H
   obtain ⟨rfl, rfl⟩ := H
   go_enter Tryz.func30, Tryz.ntmps30
   go_wp2_with (first | ((with_reducible refine gc_ 83 rfl ?_); refine goB (some 9) Tryz.func83 #[.string a0] bq (bICheck.calls a0 t362 _ A3.out) ?_; clear HB; intro w11 HB) | ((with_reducible refine gc_ 83 rfl ?_); refine goB (some 14) Tryz.func83 #[.string a1] bq (bICheck.calls a1 t363 _ A5.out) ?_; clear HB; intro w12 HB) | ((with_reducible refine gc_ 84 rfl ?_); refine goB (some 22) Tryz.func84 #[.string a0, .string a1] bq (rAwhole.calls k a0 a1 t364 t365 _ (hL.below bq) A10.out) ?_; clear HB; intro w13 HB))
   go_ret2
   exact finE
  simp only [Option.some.injEq, Prod.mk.injEq] at H
  obtain ⟨rfl, rfl⟩ := H
  go_enter Tryz.func30, Tryz.ntmps30
  go_wp2_with (first | ((with_reducible refine gc_ 83 rfl ?_); refine goB (some 9) Tryz.func83 #[.string a0] bq (bICheck.calls a0 t362 _ A3.out) ?_; clear HB; intro w14 HB) | ((with_reducible refine gc_ 83 rfl ?_); refine goB (some 14) Tryz.func83 #[.string a1] bq (bICheck.calls a1 t363 _ A5.out) ?_; clear HB; intro w15 HB))
  go_ret2
  exact finE
 simp only [Option.some.injEq, Prod.mk.injEq] at H
 obtain ⟨rfl, rfl⟩ := H
 go_enter Tryz.func30, Tryz.ntmps30
 go_wp2_with (first | ((with_reducible refine gc_ 83 rfl ?_); refine goB (some 9) Tryz.func83 #[.string a0] bq (bICheck.calls a0 t362 _ A3.out) ?_; clear HB; intro w16 HB))
 go_ret2
 exact finE
theorem lWawake.calls (k : Nat)  (r : Bool) (w : World) (hL : LaidW w) (h : lWawake.f k  = some r) :
  Calls Tryz.prog 17 #[] w fun e w' => e = .returned (.bool r) ∧ Below w.heap.size w w' := by
 have HB := Z0.mk (Below.refl w.heap.size w)
 have H := h
 clear h
 unfold lWawake.f at H
 obtain ⟨⟨t415, t416⟩, A1, H⟩ := bnd H
 try dsimp only at H
 obtain ⟨⟨t417, t418⟩, A2, H⟩ := bnd H
 try dsimp only at H
 obtain ⟨⟨t419, t420⟩, A3, H⟩ := bnd H
 try dsimp only at H
 obtain ⟨⟨t421, t422⟩, A4, H⟩ := bnd H
 try dsimp only at H
 obtain ⟨⟨t423, t424⟩, A5, H⟩ := bnd H
 try dsimp only at H
 have HC6 := Z0.mk H
 clear H
 go_enter Tryz.func17, Tryz.ntmps17
 go_upto_region 6 with (first | ((with_reducible refine gc_ 30 rfl ?_); refine goB (some 17) Tryz.func30 #[.string (⟨#[54]⟩ : ByteArray), .string (⟨#[45, 52]⟩ : ByteArray)] bq (rAOf.calls k (⟨#[54]⟩ : ByteArray) (⟨#[45, 52]⟩ : ByteArray) t415 t416 _ (hL.below bq) A1.out) ?_; clear HB; intro w7 HB) | ((with_reducible refine gc_ 18 rfl ?_); refine goB (some 22) Tryz.func18 #[.string t415] bq (rANum.calls k t415 t417 t418 _ (hL.below bq) A2.out) ?_; clear HB; intro w8 HB) | ((with_reducible refine gc_ 19 rfl ?_); refine goB (some 27) Tryz.func19 #[.string t415] bq (rADen.calls k t415 t419 t420 _ (hL.below bq) A3.out) ?_; clear HB; intro w9 HB) | ((with_reducible refine gc_ 21 rfl ?_); refine goB (some 32) Tryz.func21 #[.string t415] bq (rAFloor.calls k t415 t421 t422 _ (hL.below bq) A4.out) ?_; clear HB; intro w10 HB) | ((with_reducible refine gc_ 22 rfl ?_); refine goB (some 37) Tryz.func22 #[.string t415] bq (rACeil.calls k t415 t423 t424 _ (hL.below bq) A5.out) ?_; clear HB; intro w11 HB))
 (try simp only [Act.put, List.setIfInBounds_toArray, List.set_cons_zero, List.set_cons_succ])
 go_cut [69] (fun v69 wc => ∃ (kq : Nat) (x69_5 : Bool), v69 = .bool x69_5 ∧ Z0 (lWawake.j0 kq x69_5 = some r) ∧ Z0 (kq ≤ k) ∧ Z0 (Below w.heap.size w wc))
 case first =>
  have H := HC6.out
  clear HC6
  rcases je H with ⟨-, c12b0, c12b1, H⟩ | ⟨c12, c12b0, c12b1, H⟩
  ·(first | rw [c12b0] | (simp only [i64_w, i32_w]; rw [c12b0]) | skip)
   rcases je H with ⟨-, c13b0, c13b1, H⟩ | ⟨c13, c13b0, c13b1, H⟩
   ·rcases je H with ⟨-, c14b0, c14b1, H⟩ | ⟨c14, c14b0, c14b1, H⟩
    ·rcases je H with ⟨-, c15b0, c15b1, H⟩ | ⟨c15, c15b0, c15b1, H⟩
     ·rcases je H with ⟨-, c16b0, c16b1, H⟩ | ⟨c16, c16b0, c16b1, H⟩
      ·have H' := Z0.mk H
       clear H
       go_wp2
       go_meet
       case rel => exact ⟨_, ((t423.toList != ([45, 49] : List UInt8))), fs, H', ⟨by first | omega | exact Nat.le_refl _⟩, ⟨bqs⟩⟩
      have H' := Z0.mk H
      clear H
      go_wp2
      go_meet
      case rel => exact ⟨_, (true), fs, H', ⟨by first | omega | exact Nat.le_refl _⟩, ⟨bqs⟩⟩
     have H' := Z0.mk H
     clear H
     go_wp2
     go_meet
     case rel => exact ⟨_, (true), fs, H', ⟨by first | omega | exact Nat.le_refl _⟩, ⟨bqs⟩⟩
    have H' := Z0.mk H
    clear H
    go_wp2
    go_meet
    case rel => exact ⟨_, (true), fs, H', ⟨by first | omega | exact Nat.le_refl _⟩, ⟨bqs⟩⟩
   have H' := Z0.mk H
   clear H
   go_wp2
   go_meet
   case rel => exact ⟨_, (true), fs, H', ⟨by first | omega | exact Nat.le_refl _⟩, ⟨bqs⟩⟩
  (first | rw [c12b0] | (simp only [i64_w, i32_w]; rw [c12b0]) | skip)
  have H' := Z0.mk H
  clear H
  go_wp2
  go_meet
  case rel => exact ⟨_, (true), fs, H', ⟨by first | omega | exact Nat.le_refl _⟩, ⟨bqs⟩⟩
 case rest =>
  clear HC6
  try clear c1
  try clear c2
  try clear p2
  try clear c3
  try clear p6
  try clear c12
  try clear c12b0
  try clear c12b1
  try clear c13
  try clear c13b0
  try clear c13b1
  try clear c14
  try clear c14b0
  try clear c14b1
  try clear c15
  try clear c15b0
  try clear c15b1
  try clear c16
  try clear c16b0
  try clear c16b1
  obtain ⟨kq, x69_5, rfl, HA, HJ5, HB⟩ := hcut
  cases kq with
  | zero => exact absurd HA.out (by simp [lWawake.j0])
  | succ kj5 =>
   have H := HA.out
   clear HA
   simp only [lWawake.j0] at H
   by_cases c17 : x69_5 = true
   ·subst c17
    have H1 : (some false) = some r := by rw [if_pos rfl] at H; exact H
    clear H
    have H := H1
    clear H1
    obtain rfl := Option.some.inj H
    go_wp2
    go_ret
    exact finE
   replace c17 := Bool.eq_false_iff.mpr c17
   subst c17
   have H1 : ((rAAdd.f kj5 (⟨#[49, 47, 50]⟩ : ByteArray) (⟨#[49, 47, 51]⟩ : ByteArray)).bind fun bt425 => ((rADiv.f kj5 (⟨#[49, 47, 50]⟩ : ByteArray) (⟨#[45, 51]⟩ : ByteArray)).bind fun bt427 => ((rACompare.f kj5 (⟨#[49, 47, 51]⟩ : ByteArray) (⟨#[50, 47, 53]⟩ : ByteArray)).bind fun bt429 => (if (wrap64 ((wrap64 (bt425.2 + bt427.2)) + bt429.2)) = 0 then (if bt425.1.toList = ([53, 47, 54] : List UInt8) then (if bt427.1.toList = ([45, 49, 47, 54] : List UInt8) then (lWawake.j1 kj5 (bt429.1 != (-1))) else (lWawake.j1 kj5 true)) else (lWawake.j1 kj5 true)) else (lWawake.j1 kj5 true))))) = some r := by rw [if_neg (show ¬ (false = true) by decide)] at H; exact H
   clear H
   have H := H1
   clear H1
   obtain ⟨⟨t425, t426⟩, A18, H⟩ := bnd H
   try dsimp only at H
   obtain ⟨⟨t427, t428⟩, A19, H⟩ := bnd H
   try dsimp only at H
   obtain ⟨⟨t429, t430⟩, A20, H⟩ := bnd H
   try dsimp only at H
   have HC21 := Z0.mk H
   clear H
   go_upto_region 11 with (first | ((with_reducible refine gc_ 43 rfl ?_); refine goB (some 71) Tryz.func43 #[.string (⟨#[49, 47, 50]⟩ : ByteArray), .string (⟨#[49, 47, 51]⟩ : ByteArray)] bq (rAAdd.calls kj5 (⟨#[49, 47, 50]⟩ : ByteArray) (⟨#[49, 47, 51]⟩ : ByteArray) t425 t426 _ (hL.below bq) A18.out) ?_; clear HB; intro w22 HB) | ((with_reducible refine gc_ 48 rfl ?_); refine goB (some 75) Tryz.func48 #[.string (⟨#[49, 47, 50]⟩ : ByteArray), .string (⟨#[45, 51]⟩ : ByteArray)] bq (rADiv.calls kj5 (⟨#[49, 47, 50]⟩ : ByteArray) (⟨#[45, 51]⟩ : ByteArray) t427 t428 _ (hL.below bq) A19.out) ?_; clear HB; intro w23 HB) | ((with_reducible refine gc_ 34 rfl ?_); refine goB (some 79) Tryz.func34 #[.string (⟨#[49, 47, 51]⟩ : ByteArray), .string (⟨#[50, 47, 53]⟩ : ByteArray)] bq (rACompare.calls kj5 (⟨#[49, 47, 51]⟩ : ByteArray) (⟨#[50, 47, 53]⟩ : ByteArray) t429 t430 _ (hL.below bq) A20.out) ?_; clear HB; intro w24 HB))
   (try simp only [Act.put, List.setIfInBounds_toArray, List.set_cons_zero, List.set_cons_succ])
   go_cut [99] (fun v99 wc => ∃ (kq : Nat) (x99_20 : Bool), v99 = .bool x99_20 ∧ Z0 (lWawake.j1 kq x99_20 = some r) ∧ Z0 (kq ≤ kj5) ∧ Z0 (Below w.heap.size w wc))
   case first =>
    have H := HC21.out
    clear HC21
    rcases je H with ⟨-, c25b0, c25b1, H⟩ | ⟨c25, c25b0, c25b1, H⟩
    ·(first | rw [c25b0] | (simp only [i64_w, i32_w]; rw [c25b0]) | skip)
     rcases je H with ⟨-, c26b0, c26b1, H⟩ | ⟨c26, c26b0, c26b1, H⟩
     ·rcases je H with ⟨-, c27b0, c27b1, H⟩ | ⟨c27, c27b0, c27b1, H⟩
      ·have H' := Z0.mk H
       clear H
       go_wp2
       go_meet
       case rel => exact ⟨_, ((t429 != (-1))), fs, H', ⟨by have := HJ5.out; first | omega | exact Nat.le_refl _⟩, ⟨bqs⟩⟩
      have H' := Z0.mk H
      clear H
      go_wp2
      go_meet
      case rel => exact ⟨_, (true), fs, H', ⟨by have := HJ5.out; first | omega | exact Nat.le_refl _⟩, ⟨bqs⟩⟩
     have H' := Z0.mk H
     clear H
     go_wp2
     go_meet
     case rel => exact ⟨_, (true), fs, H', ⟨by have := HJ5.out; first | omega | exact Nat.le_refl _⟩, ⟨bqs⟩⟩
    (first | rw [c25b0] | (simp only [i64_w, i32_w]; rw [c25b0]) | skip)
    have H' := Z0.mk H
    clear H
    go_wp2
    go_meet
    case rel => exact ⟨_, (true), fs, H', ⟨by have := HJ5.out; first | omega | exact Nat.le_refl _⟩, ⟨bqs⟩⟩
   case rest =>
    clear HC21
    try clear c1
    try clear c2
    try clear p2
    try clear c3
    try clear c4
    try clear p6
    try clear c12
    try clear c12b0
    try clear c12b1
    try clear c13
    try clear c13b0
    try clear c13b1
    try clear c14
    try clear c14b0
    try clear c14b1
    try clear c15
    try clear c15b0
    try clear c15b1
    try clear c16
    try clear c16b0
    try clear c16b1
    try clear c17
    try clear c18
    try clear c19
    try clear c21
    try clear c22
    try clear c25
    try clear c25b0
    try clear c25b1
    try clear c26
    try clear c26b0
    try clear c26b1
    try clear c27
    try clear c27b0
    try clear c27b1
    try clear p2
    try clear p6
    obtain ⟨kq, x99_20, rfl, HA, HJ20, HB⟩ := hcut
    cases kq with
    | zero => exact absurd HA.out (by simp [lWawake.j1])
    | succ kj20 =>
     have H := HA.out
     clear HA
     simp only [lWawake.j1] at H
     by_cases c28 : x99_20 = true
     ·subst c28
      have H1 : (some false) = some r := by rw [if_pos rfl] at H; exact H
      clear H
      have H := H1
      clear H1
      obtain rfl := Option.some.inj H
      go_wp2
      go_ret
      exact finE
     replace c28 := Bool.eq_false_iff.mpr c28
     subst c28
     have H1 : ((some (([(⟨#[50, 47, 52]⟩ : ByteArray), (⟨#[51, 47, 49]⟩ : ByteArray), (⟨#[49, 47, 45, 50]⟩ : ByteArray), (⟨#[45, 48]⟩ : ByteArray), (⟨#[49, 47, 48]⟩ : ByteArray), (⟨#[]⟩ : ByteArray)] : List ByteArray) : List ByteArray)).bind fun y431 => (lWawake.l0 kj20 y431 (y431.length : Int) 0)) = some r := by rw [if_neg (show ¬ (false = true) by decide)] at H; exact H
     clear H
     have H := H1
     clear H1
     obtain ⟨y431, Ny431, H⟩ := yb H
     have H' := Z0.mk H
     clear H
     go_wp2_with (first | ((with_reducible refine gd_ 100 rfl ?_); refine Kd.R_lit Kd.string _ 22 ?hg (N := 100) ?hd (xs := ([(⟨#[50, 47, 52]⟩ : ByteArray), (⟨#[51, 47, 49]⟩ : ByteArray), (⟨#[49, 47, 45, 50]⟩ : ByteArray), (⟨#[45, 48]⟩ : ByteArray), (⟨#[49, 47, 48]⟩ : ByteArray), (⟨#[]⟩ : ByteArray)] : List ByteArray)) (inner := [.string (⟨#[50, 47, 52]⟩ : ByteArray), .string (⟨#[51, 47, 49]⟩ : ByteArray), .string (⟨#[49, 47, 45, 50]⟩ : ByteArray), .string (⟨#[45, 48]⟩ : ByteArray), .string (⟨#[49, 47, 48]⟩ : ByteArray), .string (⟨#[]⟩ : ByteArray)]) (ok := fun _ => True) (okp := fun _ => True) ?hr ?hp (fun _ hk => hk) trivial (Below.refl _ _) (Nat.le_refl _) (by simp) ?_; (case hd => rfl); (case hg => rfl); (case hr => first | (go_simp; done) | (go_simp; rfl)); (case hp => exact (Reps.one (show Kd.M Kd.string _ _ _ (⟨#[50, 47, 52]⟩ : ByteArray) [.string (⟨#[50, 47, 52]⟩ : ByteArray)] from rfl) (Reps.one (show Kd.M Kd.string _ _ _ (⟨#[51, 47, 49]⟩ : ByteArray) [.string (⟨#[51, 47, 49]⟩ : ByteArray)] from rfl) (Reps.one (show Kd.M Kd.string _ _ _ (⟨#[49, 47, 45, 50]⟩ : ByteArray) [.string (⟨#[49, 47, 45, 50]⟩ : ByteArray)] from rfl) (Reps.one (show Kd.M Kd.string _ _ _ (⟨#[45, 48]⟩ : ByteArray) [.string (⟨#[45, 48]⟩ : ByteArray)] from rfl) (Reps.one (show Kd.M Kd.string _ _ _ (⟨#[49, 47, 48]⟩ : ByteArray) [.string (⟨#[49, 47, 48]⟩ : ByteArray)] from rfl) (Reps.one (show Kd.M Kd.string _ _ _ (⟨#[]⟩ : ByteArray) [.string (⟨#[]⟩ : ByteArray)] from rfl) (Reps.none _ _)))))))); intro v432 w29 ho30 hb hg_ hnew_; clear hg_ hnew_; (first | rw [← Ny431.out] at ho30 | (simp only [Int.reduceToNat] at ho30; rw [← Ny431.out] at ho30)); have HO433 := Z0.mk (Kd.R_lower ho30 (below_size bqs)); replace HB := fB HB hb; clear hb ho30; obtain ⟨Ao31, co31, eo31⟩ := Kd.R_slice HO433.out; subst eo31))
     go_loopg [102] kj20 (fun kq v102 w' => ∃ (x102_3 : Int), v102 = .int .i64 x102_3 ∧ Z0 (lWawake.l0 kq y431 (y431.length : Int) x102_3 = some r) ∧ Z0 (kq ≤ kj20) ∧ Z0 (Kd.R Kd.string 22 w' w.heap.size (fun _ => True) (.slice Ao31 y431.length co31) y431) ∧ Z0 (Below w.heap.size w w'))
     case atStart => exact ⟨(0), fs, H', ⟨Nat.le_refl _⟩, ⟨rq HO433⟩, ⟨bqs⟩⟩
     case round =>
      clear H'
      try clear c1
      try clear c2
      try clear p2
      try clear c3
      try clear c4
      try clear p6
      try clear c12
      try clear c12b0
      try clear c12b1
      try clear c13
      try clear c13b0
      try clear c13b1
      try clear c14
      try clear c14b0
      try clear c14b1
      try clear c15
      try clear c15b0
      try clear c15b1
      try clear c16
      try clear c16b0
      try clear c16b1
      try clear c17
      try clear c18
      try clear c19
      try clear c21
      try clear c22
      try clear c25
      try clear c25b0
      try clear c25b1
      try clear c26
      try clear c26b0
      try clear c26b1
      try clear c27
      try clear c27b0
      try clear c27b1
      try clear c28
      try clear c30
      try clear p2
      try clear p6
      obtain ⟨x102_3, rfl, HA, HK3, HO_100, HB⟩ := hrel
      cases gk with
      | zero => exact absurd HA.out (by simp [lWawake.l0])
      | succ k3 =>
       have H := HA.out
       clear HA
       simp only [lWawake.l0] at H
       rcases jd H with ⟨-, c32b0, H⟩ | ⟨-, c32b0, H⟩
       ·obtain ⟨-, c33b0, H⟩ := gd H
        obtain ⟨-, c34b0, H⟩ := gd H
        obtain ⟨t435, A35, H⟩ := bnd H
        rcases je H with ⟨-, c36b0, c36b1, H⟩ | ⟨c36, c36b0, c36b1, H⟩
        ·have H' := Z0.mk H
         clear H
         obtain ⟨ad434, e434, hx434_0, p434, q434⟩ := asI (Kd.R_reads' HO_100.out).2.2 x102_3
         cases e434
         go_wp2_with (first | ((with_reducible refine gc_ 28 rfl ?_); refine gL 107 Tryz.func28 (rACheck.calls k3 (rdOf ByteArray.empty y431 x102_3) t435 _ ?side1 A35.out) ?_; (case side1 => exact LaidW.below hL bqs); rintro _ w37 ⟨rfl, hb⟩; refine ⟨_, rfl, ?_⟩; replace HO_100 := fR HO_100 hb; replace HB := fB HB hb; clear hb))
         go_roundg k3
         case measure => have := HJ5.out; have := HJ20.out; have := HK3.out; omega
         case rel => exact ⟨(wrap64 (x102_3 + 1)), fs, H', ⟨by have := HJ5.out; have := HJ20.out; have := HK3.out; omega⟩, ⟨rq HO_100⟩, ⟨bqs⟩⟩
        obtain rfl := Option.some.inj H
        obtain ⟨ad434, e434, hx434_0, p434, q434⟩ := asI (Kd.R_reads' HO_100.out).2.2 x102_3
        cases e434
        go_wp2_with (first | ((with_reducible refine gc_ 28 rfl ?_); refine gL 107 Tryz.func28 (rACheck.calls k3 (rdOf ByteArray.empty y431 x102_3) t435 _ ?side1 A35.out) ?_; (case side1 => exact LaidW.below hL bqs); rintro _ w38 ⟨rfl, hb⟩; refine ⟨_, rfl, ?_⟩; replace HO_100 := fR HO_100 hb; replace HB := fB HB hb; clear hb))
        go_ret
        exact finE
       obtain ⟨⟨t436, t437⟩, A39, H⟩ := bnd H
       try dsimp only at H
       obtain rfl := Option.some.inj H
       go_wp2_with (first | ((with_reducible refine gc_ 48 rfl ?_); refine gL 111 Tryz.func48 (rADiv.calls k3 (⟨#[49]⟩ : ByteArray) (⟨#[48]⟩ : ByteArray) t436 t437 _ ?side1 A39.out) ?_; (case side1 => exact LaidW.below hL bqs); rintro _ w40 ⟨rfl, hb⟩; refine ⟨_, rfl, ?_⟩; replace HO_100 := fR HO_100 hb; replace HB := fB HB hb; clear hb))
       go_ret
       exact finE
theorem rENegative.calls (a0 : ByteArray) (r : Bool) (w : World) (h : rENegative.f a0 = some r) :
  Calls Tryz.prog 126 #[.string a0] w fun e w' => e = .returned (.bool r) ∧ Drawn0 w w' := by
 have H := h
 clear h
 unfold rENegative.f at H
 obtain ⟨c2, c2b0, H⟩ := gd H
 have c2b1 : decide (0 < a0.size) = true := decide_eq_true (by omega)
 clear c2
 obtain rfl := Option.some.inj H
 have p3 : 0 ≤ (0 : Int) := (by omega)
 have q3 : 0 < a0.size := (by have : (0 : Int) < (a0.size : Int) := od; omega)
 have hx3 : ∀ h : 0 < a0.size, ((a0[0]'h).toNat : Int) = bt a0 0 := bt_at a0 0
 clear p3
 have qi3 : (0 < (a0.size : Int)) = True := eq_true od
 replace q3 := eq_true q3
 go_enter Tryz.func126, Tryz.ntmps126
 go_wp2
 go_ret
 exact finD
theorem rEDigits.calls (a0 : ByteArray) (r : Int) (w : World) (h : rEDigits.f a0 = some r) :
  Calls Tryz.prog 93 #[.string a0] w fun e w' => e = .returned (.int .i64 r) ∧ Drawn0 w w' := by
 have H := h
 clear h
 unfold rEDigits.f at H
 obtain ⟨t438, A2, H⟩ := bnd H
 by_cases c3 : t438 = true
 ·subst c3
  have H1 : (some (wrap64 ((a0.size : Int) - 1))) = some r := by rw [if_pos rfl] at H; exact H
  clear H
  have H := H1
  clear H1
  obtain rfl := Option.some.inj H
  go_enter Tryz.func93, Tryz.ntmps93
  go_wp2_with (first | ((with_reducible refine gc_ 126 rfl ?_); refine goD (some 4) Tryz.func126 #[.string a0] (rENegative.calls a0 true _ A2.out) ?_; intro nd))
  go_ret
  exact finD
 replace c3 := Bool.eq_false_iff.mpr c3
 subst c3
 have H1 : (some (a0.size : Int)) = some r := by rw [if_neg (show ¬ (false = true) by decide)] at H; exact H
 clear H
 have H := H1
 clear H1
 obtain rfl := Option.some.inj H
 go_enter Tryz.func93, Tryz.ntmps93
 go_wp2_with (first | ((with_reducible refine gc_ 126 rfl ?_); refine goD (some 4) Tryz.func126 #[.string a0] (rENegative.calls a0 false _ A2.out) ?_; intro nd))
 go_ret
 exact finD
theorem rFslash.calls (k : Nat) (a0 : ByteArray) (r : Int) (w : World) (h : rFslash.f k a0 = some r) :
  Calls Tryz.prog 113 #[.string a0] w fun e w' => e = .returned (.int .i64 r) ∧ Drawn0 w w' := by
 have H := h
 clear h
 unfold rFslash.f at H
 have H' := Z0.mk H
 clear H
 go_enter Tryz.func113, Tryz.ntmps113
 go_wp2
 go_loopg [3] k (fun kq v3 w' => ∃ (x3_1 : Int), v3 = .int .i64 x3_1 ∧ Z0 (rFslash.l0 kq a0 x3_1 = some r) ∧ Z0 (kq ≤ k) ∧ Drawn0 w w')
 case atStart => exact ⟨(0), fs, H', ⟨Nat.le_refl _⟩, by repeat (first | exact Drawn0.refl _ | apply Drawn0.step)⟩
 case round =>
  clear H'
  try clear c1
  obtain ⟨x3_1, rfl, HA, HK1, ⟨m1, rfl⟩⟩ := hrel
  cases gk with
  | zero => exact absurd HA.out (by simp [rFslash.l0])
  | succ k1 =>
   have H := HA.out
   clear HA
   simp only [rFslash.l0] at H
   rcases jd H with ⟨-, c2b0, H⟩ | ⟨-, c2b0, H⟩
   ·obtain ⟨-, c3b0, H⟩ := gd H
    rcases je H with ⟨-, c5b0, c5b1, H⟩ | ⟨c5, c5b0, c5b1, H⟩
    ·obtain rfl := Option.some.inj H
     obtain ⟨hx4, p4, q4⟩ := btA a0 x3_1
     go_wp2
     go_ret
     exact finD
    have H' := Z0.mk H
    clear H
    obtain ⟨hx4, p4, q4⟩ := btA a0 x3_1
    go_wp2
    go_roundg k1
    case measure => have := HK1.out; omega
    case rel => exact ⟨(wrap64 (x3_1 + 1)), fs, H', ⟨by have := HK1.out; omega⟩, by repeat (first | exact Drawn0.refl _ | apply Drawn0.step)⟩
   obtain rfl := Option.some.inj H
   go_wp2
   go_ret
   exact finD
theorem rFBottom.calls (k : Nat) (a0 : ByteArray) (r : ByteArray) (w : World) (h : rFBottom.f k a0 = some r) :
  Calls Tryz.prog 73 #[.string a0] w fun e w' => e = .returned (.string r) ∧ Drawn0 w w' := by
 have H := h
 clear h
 unfold rFBottom.f at H
 obtain ⟨t442, A2, H⟩ := bnd H
 rcases jh H with ⟨-, c3b0, H⟩ | ⟨-, c3b0, H⟩
 ·obtain ⟨ji4, hji4⟩ : ∃ j_ : Int, (wrap64 (t442 + 1)) = j_ := ⟨_, rfl⟩
  replace H : (if 0 ≤ (ji4) then (if (ji4) ≤ (a0.size : Int) then (some (a0.extract ((ji4) : Int).toNat a0.size)) else (none)) else (none)) = some r := by first | (rw [hji4] at H; exact H) | (simp only [hji4] at H ⊢; exact H)
  (try rw [hji4] at A2)
  have hji4w : (IntKind.i64.wrap (t442 + 1)) = ji4 := (i64_w _).trans hji4
  obtain ⟨-, c5b0, c5b1, H⟩ := gt H
  obtain ⟨-, c6b0, c6b1, H⟩ := gt H
  obtain rfl := Option.some.inj H
  go_enter Tryz.func73, Tryz.ntmps73
  go_wp2_with (first | ((with_reducible refine gc_ 113 rfl ?_); refine goD (some 5) Tryz.func113 #[.string a0] (rFslash.calls k a0 t442 _ A2.out) ?_; intro nd))
  go_ret
  exact ⟨by first | rfl | (simp; done) | (simp only [← hji4] <;> (first | rfl | simp)) | (simp [*]; done), by repeat (first | exact Drawn0.refl _ | apply Drawn0.step)⟩
 obtain rfl := Option.some.inj H
 go_enter Tryz.func73, Tryz.ntmps73
 go_wp2_with (first | ((with_reducible refine gc_ 113 rfl ?_); refine goD (some 5) Tryz.func113 #[.string a0] (rFslash.calls k a0 t442 _ A2.out) ?_; intro nd))
 go_ret
 exact finD
theorem rFTop.calls (k : Nat) (a0 : ByteArray) (r : ByteArray) (w : World) (h : rFTop.f k a0 = some r) :
  Calls Tryz.prog 72 #[.string a0] w fun e w' => e = .returned (.string r) ∧ Drawn0 w w' := by
 have H := h
 clear h
 unfold rFTop.f at H
 obtain ⟨t441, A2, H⟩ := bnd H
 rcases jh H with ⟨-, c3b0, H⟩ | ⟨-, c3b0, H⟩
 ·obtain ⟨-, c4b0, c4b1, H⟩ := gt H
  obtain ⟨-, c5b0, c5b1, H⟩ := gt H
  obtain rfl := Option.some.inj H
  go_enter Tryz.func72, Tryz.ntmps72
  go_wp2_with (first | ((with_reducible refine gc_ 113 rfl ?_); refine goD (some 5) Tryz.func113 #[.string a0] (rFslash.calls k a0 t441 _ A2.out) ?_; intro nd))
  go_ret
  exact finD
 obtain rfl := Option.some.inj H
 go_enter Tryz.func72, Tryz.ntmps72
 go_wp2_with (first | ((with_reducible refine gc_ 113 rfl ?_); refine goD (some 5) Tryz.func113 #[.string a0] (rFslash.calls k a0 t441 _ A2.out) ?_; intro nd))
 go_ret
 exact finD
theorem rFDigits.calls (k : Nat) (a0 : ByteArray) (r : Int) (w : World) (h : rFDigits.f k a0 = some r) :
  Calls Tryz.prog 82 #[.string a0] w fun e w' => e = .returned (.int .i64 r) ∧ Below w.heap.size w w' := by
 have HB := Z0.mk (Below.refl w.heap.size w)
 have H := h
 clear h
 unfold rFDigits.f at H
 obtain ⟨t649, A2, H⟩ := bnd H
 obtain ⟨t650, A3, H⟩ := bnd H
 obtain ⟨t651, A4, H⟩ := bnd H
 obtain ⟨t652, A5, H⟩ := bnd H
 obtain ⟨ji6, hji6⟩ : ∃ j_ : Int, (mx t650 t652) = j_ := ⟨_, rfl⟩
 replace H : (some ji6) = some r := by first | (rw [hji6] at H; exact H) | (simp only [hji6] at H ⊢; exact H)
 (try rw [hji6] at A2)
 (try rw [hji6] at A3)
 (try rw [hji6] at A4)
 (try rw [hji6] at A5)
 have hji6_ : (if t650 < t652 then t652 else t650) = ji6 := hji6
 obtain rfl := Option.some.inj H
 go_enter Tryz.func82, Tryz.ntmps82
 go_wp2_with (first | ((with_reducible refine gc_ 72 rfl ?_); refine goD (some 4) Tryz.func72 #[.string a0] (rFTop.calls k a0 t649 _ A2.out) ?_; intro nd) | ((with_reducible refine gc_ 93 rfl ?_); refine goD (some 5) Tryz.func93 #[.string t649] (rEDigits.calls t649 t650 _ A3.out) ?_; intro nd) | ((with_reducible refine gc_ 73 rfl ?_); refine goD (some 7) Tryz.func73 #[.string a0] (rFBottom.calls k a0 t651 _ A4.out) ?_; intro nd) | ((with_reducible refine gc_ 93 rfl ?_); refine goD (some 8) Tryz.func93 #[.string t651] (rEDigits.calls t651 t652 _ A5.out) ?_; intro nd))
 go_ret
 exact ⟨by first | rfl | (simp [errW_none, errW_some] <;> rfl) | (simp only [← hji6]; first | rfl | (simp [errW_none, errW_some] <;> rfl)) | (simp [*, errW_none, errW_some] <;> rfl), bqs⟩
end Go.Proofs.YthnfajboebaajaaGreatDoor.PA
