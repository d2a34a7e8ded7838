import Derived.Test.YtihbebbabjklkaaGreatDoorAG1
import Derived.Test.YtihbebbabjklkaaGreatDoorAD
import Derived.Test.YtihbebbabjklkaaGreatDoorAG4
import Derived.Deep.RegionHeld3
import Derived.Test.YtihbebbabjklkaaGreatDoorAP2
import Derived.Test.YtihbebbabjklkaaGreatDoorAG2
set_option maxHeartbeats 8000000
set_option maxRecDepth 100000
set_option linter.unusedVariables false
namespace Go.Proofs.YtihbebbabjklkaaGreatDoor
set_option linter.unusedVariables false
set_option linter.unusedSimpArgs false
open Go.RowKit Go.Proofs.WWords Go.Proofs.WLast Go.Proofs.WMore PA
theorem rAcalculate.calls (k : Nat) (a0 : Int) (a1 : ByteArray) (a2 : ByteArray) (r1 : ByteArray) (r2 : Int) (w : World) (hL : LaidW w) (h : rAcalculate.f k a0 a1 a2 = some (r1, r2)) :
    Calls Tryz.prog 81 #[.int .u8 a0, .string a1, .string a2] w fun e w' => e = .returned (.tuple #[.string r1, .int .i64 r2]) ∧ Below w.heap.size w w' := by
 have hu95 := Tryz.underlying145
 unfold rAcalculate.f at h
 split at h
 rotate_left
 split at h
 rotate_left
 split at h
 rotate_left
 split at h
 rotate_left
 ·cases h
 all_goals (
  rename_i e; subst e
  unfold calcF at h
  obtain ⟨⟨p, q, r, s, e1⟩, hp, h⟩ := Option.bind_eq_some_iff.mp h
  simp only at h
  by_cases c1 : e1 = 0
  rotate_left
  ·rw [if_neg c1] at h
   simp only [Option.some.injEq, Prod.mk.injEq] at h
   obtain ⟨rfl, rfl⟩ := h
   have c1b : (e1 != 0) = true := bne_iff_ne.mpr c1
   have c1c : (e1 == 0) = false := beq_eq_false_iff_ne.mpr c1
   go_enter Tryz.func81, Tryz.ntmps81
   go_wp2_with (first | ((with_reducible refine gc_ 121 rfl ?_); refine goB (w0 := w) (some 15) Tryz.func121 #[.string a1, .string a2] (Below.refl _ _) (rAnewPair.calls k a1 a2 p q r s e1 _ hL hp) ?_; intro w1 HB) | ((with_reducible refine gd_ 8 rfl ?_); refine bxE 8 #[.string (⟨#[]⟩ : ByteArray), .string (⟨#[]⟩ : ByteArray), .string (⟨#[]⟩ : ByteArray), .string (⟨#[]⟩ : ByteArray)] 145 ?_; intro gb hg wb hbox hbb; have hgl : w.heap.size ≤ gb := (by rw [hg]; exact HB.out.size); have HB2 := Z0.mk (below_step HB.out hbb); clear HB hg hbb; have HB := HB2; clear HB2; have hc0 : wb.cell? ⟨gb, 0, none⟩ = some (.string (⟨#[]⟩ : ByteArray)) := (blk_cell hbox 0).trans rfl; have hf0 := blk_frozen hbox 0; have hc1 : wb.cell? ⟨gb, 1, none⟩ = some (.string (⟨#[]⟩ : ByteArray)) := (blk_cell hbox 1).trans rfl; have hf1 := blk_frozen hbox 1; have hc2 : wb.cell? ⟨gb, 2, none⟩ = some (.string (⟨#[]⟩ : ByteArray)) := (blk_cell hbox 2).trans rfl; have hf2 := blk_frozen hbox 2; have hc3 : wb.cell? ⟨gb, 3, none⟩ = some (.string (⟨#[]⟩ : ByteArray)) := (blk_cell hbox 3).trans rfl; have hf3 := blk_frozen hbox 3))
   go_ret2
   exact ⟨rfl, below_set (below_set (below_set (below_set HB.out hgl) hgl) hgl) hgl⟩
  rw [if_pos c1] at h
  obtain ⟨⟨y1, y2, e2⟩, ho, h⟩ := Option.bind_eq_some_iff.mp h
  simp only at h
  have c1b : (e1 != 0) = false := bne_eq_false_iff_eq.mpr c1
  have c1c : (e1 == 0) = true := beq_iff_eq.mpr c1
  clear c1
  by_cases c2 : e2 = 0
  all_goals (
   first
    | (rw [if_pos c2] at h; have hw := h; have c2b : (e2 != 0) = false := bne_eq_false_iff_eq.mpr c2; have c2c : (e2 == 0) = true := beq_iff_eq.mpr c2)
    | (rw [if_neg c2] at h; simp only [Option.some.injEq, Prod.mk.injEq] at h; obtain ⟨rfl, rfl⟩ := h; have c2b : (e2 != 0) = true := bne_iff_ne.mpr c2; have c2c : (e2 == 0) = false := beq_eq_false_iff_ne.mpr c2)
   clear c2
   go_enter Tryz.func81, Tryz.ntmps81
   go_wp2_with (first | ((with_reducible refine gc_ 121 rfl ?_); refine goB (w0 := w) (some 15) Tryz.func121 #[.string a1, .string a2] (Below.refl _ _) (rAnewPair.calls k a1 a2 p q r s e1 _ hL hp) ?_; intro w1 HB) | ((with_reducible refine gd_ 8 rfl ?_); refine bxE 8 #[.string (⟨#[]⟩ : ByteArray), .string (⟨#[]⟩ : ByteArray), .string (⟨#[]⟩ : ByteArray), .string (⟨#[]⟩ : ByteArray)] 145 ?_; intro gb hg wb hbox hbb; have hgl : w.heap.size ≤ gb := (by rw [hg]; exact HB.out.size); have HB2 := Z0.mk (below_step HB.out hbb); clear HB hg hbb; have HB := HB2; clear HB2; have hc0 : wb.cell? ⟨gb, 0, none⟩ = some (.string (⟨#[]⟩ : ByteArray)) := (blk_cell hbox 0).trans rfl; have hf0 := blk_frozen hbox 0; have hc1 : wb.cell? ⟨gb, 1, none⟩ = some (.string (⟨#[]⟩ : ByteArray)) := (blk_cell hbox 1).trans rfl; have hf1 := blk_frozen hbox 1; have hc2 : wb.cell? ⟨gb, 2, none⟩ = some (.string (⟨#[]⟩ : ByteArray)) := (blk_cell hbox 2).trans rfl; have hf2 := blk_frozen hbox 2; have hc3 : wb.cell? ⟨gb, 3, none⟩ = some (.string (⟨#[]⟩ : ByteArray)) := (blk_cell hbox 3).trans rfl; have hf3 := blk_frozen hbox 3))
   obtain ⟨W, hW⟩ : ∃ W, ((((wb.setCell ⟨gb, 0, none⟩ (.string p)).setCell ⟨gb, 1, none⟩ (.string q)).setCell ⟨gb, 2, none⟩ (.string r)).setCell ⟨gb, 3, none⟩ (.string s)) = W := ⟨_, rfl⟩
   have hx : W.heap[gb]? = some (.cells #[.string p, .string q, .string r, .string s] 145 (0, 0)) := by
    rw [← hW]
    exact blk_put (cs := #[.string p, .string q, .string r, .string (⟨#[]⟩ : ByteArray)]) (blk_put (cs := #[.string p, .string q, .string (⟨#[]⟩ : ByteArray), .string (⟨#[]⟩ : ByteArray)]) (blk_put (cs := #[.string p, .string (⟨#[]⟩ : ByteArray), .string (⟨#[]⟩ : ByteArray), .string (⟨#[]⟩ : ByteArray)]) (blk_put hbox 0 _ rfl) 1 _ rfl) 2 _ rfl) 3 _ rfl
   have hBW : Below w.heap.size w W := by rw [← hW]; exact below_set (below_set (below_set (below_set HB.out hgl) hgl) hgl) hgl
   rw [hW]
   clear hW HB hbox
   have hxd : W.drew.heap[gb]? = some (.cells #[.string p, .string q, .string r, .string s] 145 (0, 0)) := hx
   have hBd : Below w.heap.size w W.drew := hBW.drew
   go_region_held3 (fun w' => w'.cell? ⟨gb, 0, none⟩ = some (.string p) ∧ w'.cell? ⟨gb, 1, none⟩ = some (.string q) ∧ w'.cell? ⟨gb, 2, none⟩ = some (.string r) ∧ w'.cell? ⟨gb, 3, none⟩ = some (.string s))
    (first | exact ⟨blk_cell hxd 0, blk_cell hxd 1, blk_cell hxd 2, blk_cell hxd 3⟩ | exact ⟨blk_cell hx2 0, blk_cell hx2 1, blk_cell hx2 2, blk_cell hx2 3⟩ | exact ⟨blk_cell hx3 0, blk_cell hx3 1, blk_cell hx3 2, blk_cell hx3 3⟩)
    (first
      | (go_at_call 122; refine (rops_calls _).mono ?_; rintro e w2 ⟨m, g1, g2, rfl, hm, hg1, hg2, hb2⟩
         have hx2 := (hb2.block gb (Array.getElem?_eq_some_iff.1 hxd).1).trans hxd
         have hB2 := below_step hBd hb2
         have hl43 := run_look m (ropsE g1 g2) 4 43 0 _ w2 hm rfl
         have hl45 := run_look m (ropsE g1 g2) 4 45 1 _ w2 hm rfl
         have hl42 := run_look m (ropsE g1 g2) 4 42 2 _ w2 hm rfl
         have hl47 := run_look m (ropsE g1 g2) 4 47 3 _ w2 hm rfl)
      | (go_at_call 200; refine (rAaddop.calls k p q r s y1 y2 e2 g1 w2 hg1 (hL.below hB2) ho).mono ?_; rintro e w3 ⟨rfl, hb3⟩
         have hx3 := (hb3.block gb (Array.getElem?_eq_some_iff.1 hx2).1).trans hx2
         have HB := Z0.mk (below_step hB2 hb3))
      | (go_at_call 200; refine (rAsubop.calls k p q r s y1 y2 e2 g2 w2 hg2 (hL.below hB2) ho).mono ?_; rintro e w3 ⟨rfl, hb3⟩
         have hx3 := (hb3.block gb (Array.getElem?_eq_some_iff.1 hx2).1).trans hx2
         have HB := Z0.mk (below_step hB2 hb3))
      | (go_at_call 160; refine (rAoperations_1.calls k p q r s y1 y2 e2 w2 (hL.below hB2) ho).mono ?_; rintro e w3 ⟨rfl, hb3⟩
         have hx3 := (hb3.block gb (Array.getElem?_eq_some_iff.1 hx2).1).trans hx2
         have HB := Z0.mk (below_step hB2 hb3))
      | (go_at_call 162; refine (rAoperations_2.calls k p q r s y1 y2 e2 w2 (hL.below hB2) ho).mono ?_; rintro e w3 ⟨rfl, hb3⟩
         have hx3 := (hb3.block gb (Array.getElem?_eq_some_iff.1 hx2).1).trans hx2
         have HB := Z0.mk (below_step hB2 hb3)))
   all_goals go_wp2_with (first | ((with_reducible refine gc_ 119 rfl ?_); refine goB (w0 := w) (some 35) Tryz.func119 #[.string y1, .string y2] HB.out (rAwhole.calls k y1 y2 r1 r2 _ (hL.below HB.out) hw) ?_; clear HB; intro w5 HB))
   go_ret2
   exact ⟨rfl, HB.out⟩))
end Go.Proofs.YtihbebbabjklkaaGreatDoor
namespace Go.Proofs.YtihbebbabjklkaaGreatDoor.PA
set_option linter.unusedVariables false
open Go.RowKit Go.Proofs.WWords Go.Proofs.WLast Go.Proofs.WMore
attribute [local go_sem] max2_int min2_int max_two min_two max_three min_three max_four min_four
set_option linter.unusedSimpArgs false
theorem rAAdd.calls (k : Nat) (a0 : ByteArray) (a1 : ByteArray) (r1 : ByteArray) (r2 : Int) (w : World) (hL : LaidW w) (h : rAAdd.f k a0 a1 = some (r1, r2)) :
  Calls Tryz.prog 69 #[.string a0, .string a1] w fun e w' => e = .returned (.tuple #[.string r1, .int .i64 r2]) ∧ Below w.heap.size w w' := by
 have HB := Z0.mk (Below.refl w.heap.size w)
 have H := h
 clear h
 unfold rAAdd.f at H
 obtain ⟨⟨t411, t412⟩, A3, H⟩ := bnd H
 try dsimp only at H
 simp only [Option.some.injEq, Prod.mk.injEq] at H
 obtain ⟨rfl, rfl⟩ := H
 go_enter Tryz.func69, Tryz.ntmps69
 go_wp2_with (first | ((with_reducible refine gc_ 81 rfl ?_); refine goB (some 8) Tryz.func81 #[.int .u8 43, .string a0, .string a1] bq (rAcalculate.calls k 43 a0 a1 t411 t412 _ (hL.below bq) A3.out) ?_; clear HB; intro w4 HB))
 go_ret2
 exact finE
theorem rAMul.calls (k : Nat) (a0 : ByteArray) (a1 : ByteArray) (r1 : ByteArray) (r2 : Int) (w : World) (hL : LaidW w) (h : rAMul.f k a0 a1 = some (r1, r2)) :
  Calls Tryz.prog 24 #[.string a0, .string a1] w fun e w' => e = .returned (.tuple #[.string r1, .int .i64 r2]) ∧ Below w.heap.size w w' := by
 have HB := Z0.mk (Below.refl w.heap.size w)
 have H := h
 clear h
 unfold rAMul.f at H
 obtain ⟨⟨t753, t754⟩, A3, H⟩ := bnd H
 try dsimp only at H
 simp only [Option.some.injEq, Prod.mk.injEq] at H
 obtain ⟨rfl, rfl⟩ := H
 go_enter Tryz.func24, Tryz.ntmps24
 go_wp2_with (first | ((with_reducible refine gc_ 81 rfl ?_); refine goB (some 8) Tryz.func81 #[.int .u8 42, .string a0, .string a1] bq (rAcalculate.calls k 42 a0 a1 t753 t754 _ (hL.below bq) A3.out) ?_; clear HB; intro w4 HB))
 go_ret2
 exact finE
theorem rAOf.calls (k : Nat) (a0 : ByteArray) (a1 : ByteArray) (r1 : ByteArray) (r2 : Int) (w : World) (hL : LaidW w) (h : rAOf.f k a0 a1 = some (r1, r2)) :
  Calls Tryz.prog 76 #[.string a0, .string a1] w fun e w' => e = .returned (.tuple #[.string r1, .int .i64 r2]) ∧ Below w.heap.size w w' := by
 have HB := Z0.mk (Below.refl w.heap.size w)
 have H := h
 clear h
 unfold rAOf.f at H
 obtain ⟨t362, A3, H⟩ := bnd H
 rcases je H with ⟨-, c4b0, c4b1, H⟩ | ⟨c4, c4b0, c4b1, H⟩
 ·obtain ⟨t363, A5, H⟩ := bnd H
  rcases je H with ⟨-, c6b0, c6b1, H⟩ | ⟨c6, c6b0, c6b1, H⟩
  ·rcases je H with ⟨-, c7b0, c7b1, H⟩ | ⟨c7, c7b0, c7b1, H⟩
   ·simp only [Option.some.injEq, Prod.mk.injEq] at H
    obtain ⟨rfl, rfl⟩ := H
    go_enter Tryz.func76, Tryz.ntmps76
    go_wp2_with (first | ((with_reducible refine gc_ 109 rfl ?_); refine goB (some 9) Tryz.func109 #[.string a0] bq (bICheck.calls a0 t362 _ A3.out) ?_; clear HB; intro w8 HB) | ((with_reducible refine gc_ 109 rfl ?_); refine goB (some 14) Tryz.func109 #[.string a1] bq (bICheck.calls a1 t363 _ A5.out) ?_; clear HB; intro w9 HB))
    go_ret2
    exact finE
   obtain ⟨⟨t364, t365⟩, A10, H⟩ := bnd H
   try dsimp only at H
   simp only [Option.some.injEq, Prod.mk.injEq] at H
   obtain ⟨rfl, rfl⟩ := H
   go_enter Tryz.func76, Tryz.ntmps76
   go_wp2_with (first | ((with_reducible refine gc_ 109 rfl ?_); refine goB (some 9) Tryz.func109 #[.string a0] bq (bICheck.calls a0 t362 _ A3.out) ?_; clear HB; intro w11 HB) | ((with_reducible refine gc_ 109 rfl ?_); refine goB (some 14) Tryz.func109 #[.string a1] bq (bICheck.calls a1 t363 _ A5.out) ?_; clear HB; intro w12 HB) | ((with_reducible refine gc_ 119 rfl ?_); refine goB (some 22) Tryz.func119 #[.string a0, .string a1] bq (rAwhole.calls k a0 a1 t364 t365 _ (hL.below bq) A10.out) ?_; clear HB; intro w13 HB))
   go_ret2
   exact finE
  simp only [Option.some.injEq, Prod.mk.injEq] at H
  obtain ⟨rfl, rfl⟩ := H
  go_enter Tryz.func76, Tryz.ntmps76
  go_wp2_with (first | ((with_reducible refine gc_ 109 rfl ?_); refine goB (some 9) Tryz.func109 #[.string a0] bq (bICheck.calls a0 t362 _ A3.out) ?_; clear HB; intro w14 HB) | ((with_reducible refine gc_ 109 rfl ?_); refine goB (some 14) Tryz.func109 #[.string a1] bq (bICheck.calls a1 t363 _ A5.out) ?_; clear HB; intro w15 HB))
  go_ret2
  exact finE
 simp only [Option.some.injEq, Prod.mk.injEq] at H
 obtain ⟨rfl, rfl⟩ := H
 go_enter Tryz.func76, Tryz.ntmps76
 go_wp2_with (first | ((with_reducible refine gc_ 109 rfl ?_); refine goB (some 9) Tryz.func109 #[.string a0] bq (bICheck.calls a0 t362 _ A3.out) ?_; clear HB; intro w16 HB))
 go_ret2
 exact finE
set_option linter.unusedVariables false
set_option linter.unusedSimpArgs false
instance : Ctr 117 (type_of% @rACheck.calls) := ⟨@rACheck.calls, _, Tryz.func117, by kernel_rfl, rfl⟩
instance : Ctr 78 (type_of% @rANum.calls) := ⟨@rANum.calls, _, Tryz.func78, by kernel_rfl, rfl⟩
instance : Ctr 118 (type_of% @rADen.calls) := ⟨@rADen.calls, _, Tryz.func118, by kernel_rfl, rfl⟩
instance : Ctr 24 (type_of% @rAMul.calls) := ⟨@rAMul.calls, _, Tryz.func24, by kernel_rfl, rfl⟩
instance : Ctr 76 (type_of% @rAOf.calls) := ⟨@rAOf.calls, _, Tryz.func76, by kernel_rfl, rfl⟩
theorem al3 {p : World → Prop} {W : World} {x y z : Obj} (h : ∀ W', Below W.heap.size W W' → Z0 (W'.heap[W.heap.size]? = some x) → Z0 (W'.heap[W.heap.size + 1]? = some y) → Z0 (W'.heap[W.heap.size + 1 + 1]? = some z) → p W') : p (((W.alloc x).alloc y).alloc z) :=
 h _ (below_alloc (below_alloc (below_alloc (Below.refl _ _) _) _) _) ⟨blk_alloc (blk_alloc (blk_new _ _) _) _⟩ ⟨blk_alloc (by have := blk_new (W.alloc x) y; rwa [World.size_alloc] at this) _⟩ ⟨by have := blk_new ((W.alloc x).alloc y) z; rwa [World.size_alloc, World.size_alloc] at this⟩
theorem al4 {p : World → Prop} {W : World} {x y z u : Obj} (h : ∀ W', Below W.heap.size W W' → Z0 (W'.heap[W.heap.size]? = some x) → Z0 (W'.heap[W.heap.size + 1]? = some y) → Z0 (W'.heap[W.heap.size + 1 + 1]? = some z) → Z0 (W'.heap[W.heap.size + 1 + 1 + 1]? = some u) → p W') : p ((((W.alloc x).alloc y).alloc z).alloc u) :=
 h _ (below_alloc (below_alloc (below_alloc (below_alloc (Below.refl _ _) _) _) _) _) ⟨blk_alloc (blk_alloc (blk_alloc (blk_new _ _) _) _) _⟩ ⟨blk_alloc (blk_alloc (by have := blk_new (W.alloc x) y; rwa [World.size_alloc] at this) _) _⟩ ⟨blk_alloc (by have := blk_new ((W.alloc x).alloc y) z; rwa [World.size_alloc, World.size_alloc] at this) _⟩ ⟨by have := blk_new (((W.alloc x).alloc y).alloc z) u; rwa [World.size_alloc, World.size_alloc, World.size_alloc] at this⟩
theorem short_ok (n x : Int) (w : World) (hn : Sv.nd n ≤ 100000) (hx : Z0 ((if Sv.nd n ≤ 100 then 0 else 10) = x)) :
  Calls Tryz.prog 79 #[.string (Sv.txt n)] w fun e w' => e = .returned (.int .i64 x) ∧ Below w.heap.size w w' := by
 have HB := Z0.mk (Below.refl w.heap.size w)
 have h1 := Sv.txt_size n
 have h2 := Sv.nd_pos n
 have h3 := bt_txt0 n
 obtain ⟨s, hs⟩ : ∃ s, s = Sv.txt n := ⟨_, rfl⟩
 rw [← hs] at h1 h3 ⊢
 clear hs
 obtain ⟨m, hm⟩ : ∃ m, m = Sv.nd n := ⟨_, rfl⟩
 rw [← hm] at h1 h2 hn hx
 clear hm
 have q8 : 0 < s.size := by omega
 have hx7 : ∀ h : 0 < s.size, ((s[0]'h).toNat : Int) = bt s 0 := bt_at s 0
 have qi7 : (0 < (s.size : Int)) = True := eq_true (by omega)
 have qd : decide (0 < (s.size : Int)) = true := decide_eq_true (by omega)
 have q7 := eq_true q8
 have hd : (x = 0 ∧ decide (100 < (m : Int)) = false) ∨ (x = 10 ∧ decide (100 < (m : Int)) = true) := by
  have := hx.out
  by_cases h : m ≤ 100
  · rw [if_pos h] at this; exact .inl ⟨this.symm, decide_eq_false (by omega)⟩
  · rw [if_neg h] at this; exact .inr ⟨this.symm, decide_eq_true (by omega)⟩
 clear hx
 go_enter Tryz.func79, Tryz.ntmps79
 by_cases h0 : n < 0
 · have e1 : (bt s 0 == 45) = true := beq_iff_eq.mpr (h3.2 h0)
   rw [if_pos h0] at h1
   have e2 : wrap64 ((s.size : Int) - 1) = (m : Int) := w64n (by omega) (by omega)
   clear h3 h0 h1
   rcases hd with ⟨rfl, hd⟩ | ⟨rfl, hd⟩
   all_goals go_wp2
   all_goals go_ret
   all_goals exact ⟨rfl, HB.out⟩
 · have e1 : (bt s 0 == 45) = false := beq_eq_false_iff_ne.mpr fun e => h0 (h3.1 e)
   rw [if_neg h0] at h1
   have e2 : (s.size : Int) = (m : Int) := by omega
   clear h3 h0
   rw [← e2] at hd
   clear h1 e2
   rcases hd with ⟨rfl, hd⟩ | ⟨rfl, hd⟩
   all_goals go_wp2
   all_goals go_ret
   all_goals exact ⟨rfl, HB.out⟩
instance : Ctr 79 (type_of% @short_ok) := ⟨@short_ok, _, Tryz.func79, by kernel_rfl, rfl⟩
theorem number_ok (s : ByteArray) (x : Int) (w : World) (hL : LaidW w) (hO : Okt s) (hx : Z0 (numC s = x)) :
  Calls Tryz.prog 73 #[.string s] w fun e w' => e = .returned (.int .i64 x) ∧ Below w.heap.size w w' := by
 have HB := Z0.mk (Below.refl w.heap.size w)
 obtain ⟨k, A1⟩ := Ev.as hO.rat
 by_cases h0 : chkR s = 0
 · obtain ⟨q, rfl, hq⟩ := of_chkR h0
   rw [h0] at A1
   obtain ⟨k2, A2⟩ := (numE q hq).as
   obtain ⟨k3, A3⟩ := (denE q hq).as
   have h1 := hx.out
   rw [numC_rtxt] at h1
   have n1 := ndR_num hq
   have n2 := ndR_den hq
   obtain ⟨xn, hxn⟩ : ∃ x, Z0 ((if Sv.nd q.num ≤ 100 then (0 : Int) else 10) = x) := ⟨_, ⟨rfl⟩⟩
   obtain ⟨xd, hxd⟩ : ∃ x, Z0 ((if Sv.nd (q.den : Int) ≤ 100 then (0 : Int) else 10) = x) := ⟨_, ⟨rfl⟩⟩
   have hxx : (xn = 0 ∧ xd = x) ∨ (xn = 10 ∧ x = 10) := by
    have e1 := hxn.out
    have e2 := hxd.out
    unfold ndR at h1
    by_cases a1 : Sv.nd q.num ≤ 100 <;> by_cases a2 : Sv.nd (q.den : Int) ≤ 100
    · rw [if_pos a1] at e1; rw [if_pos a2] at e2; rw [if_pos (by omega)] at h1; left; omega
    · rw [if_pos a1] at e1; rw [if_neg a2] at e2; rw [if_neg (by omega)] at h1; left; omega
    · rw [if_neg a1] at e1; rw [if_neg (by omega)] at h1; right; omega
    · rw [if_neg a1] at e1; rw [if_neg (by omega)] at h1; right; omega
   clear h1 hx
   go_enter Tryz.func73, Tryz.ntmps73
   rcases hxx with ⟨rfl, rfl⟩ | ⟨rfl, rfl⟩
   all_goals go_wp2_with (refine cG rfl ?_; intro w' hb; replace HB := fB HB hb; clear hb)
   all_goals go_ret
   all_goals exact ⟨rfl, HB.out⟩
 · have h1 : numC s = chkR s := if_neg h0
   rw [h1] at hx
   rw [hx.out] at A1 h0
   have e1 : (x != 0) = true := bne_iff_ne.mpr h0
   clear hx h1
   go_enter Tryz.func73, Tryz.ntmps73
   go_wp2_with (refine cG rfl ?_; intro w' hb; replace HB := fB HB hb; clear hb)
   go_ret
   exact ⟨rfl, HB.out⟩
instance : Ctr 73 (type_of% @number_ok) := ⟨@number_ok, _, Tryz.func73, by kernel_rfl, rfl⟩
theorem numsC_drop {l : List ByteArray} {j : Nat} (h : j < l.length) : numsC (l.drop j) = if numC l[j] = 0 then numsC (l.drop (j + 1)) else numC l[j] := by
 rw [List.drop_eq_getElem_cons h]; rfl
theorem lnumbers_ok (A : Option Addr) (n c : Nat) (l : List ByteArray) (x : Int) (w : World) (hL : LaidW w) (hC : Z0 (Kd.string.C w A n l)) (hn : n = l.length) (hm : n ≤ 1000) (hO : ∀ s ∈ l, Okt s) (hx : Z0 (numsC l = x)) :
  Calls Tryz.prog 72 #[.slice A n c] w fun e w' => e = .returned (.int .i64 x) ∧ Below w.heap.size w w' := by
 subst hn
 have HB := Z0.mk (Below.refl w.heap.size w)
 go_enter Tryz.func72, Tryz.ntmps72
 go_wp2
 go_loopw [8] (fun i wr => ∃ j : Nat, j ≤ l.length ∧ i = .int .i64 j ∧ numsC (l.drop j) = x ∧ Z0 (Kd.string.C wr A l.length l) ∧ Z0 (Below w.heap.size w wr))
  (fun i _ => l.length - (Go.RowKit.intOf i).toNat)
 case atStart => exact ⟨0, by omega, rfl, hx.out, hC, HB⟩
 clear hC HB
 obtain ⟨j, hj, rfl, hok, HC, HB⟩ := hrel
 rcases Nat.lt_or_ge j l.length with h4 | h4
 · obtain ⟨ad, rfl, hxx, p, q⟩ := asI HC.out (j : Int) (by omega) (by omega)
   rw [Int.toNat_natCast] at hxx
   have hs : rdOf ByteArray.empty l (j : Int) = l[j] := by simp [rdOf, h4]
   rw [hs] at hxx
   clear hs
   have c4 : decide ((j : Int) < l.length) = true := decide_eq_true (by omega)
   have hOj := hO _ (List.getElem_mem h4)
   rw [numsC_drop h4] at hok
   obtain ⟨y, hy⟩ : ∃ y, Z0 (numC l[j] = y) := ⟨_, ⟨rfl⟩⟩
   rw [hy.out] at hok
   by_cases h0 : y = 0
   · subst h0
     rw [if_pos rfl] at hok
     go_wp2_with (refine cG rfl ?_; intro w' hb; replace HC := Z0.mk (Kd.C_below HC.out hb); replace HB := fB HB hb; clear hb)
     exact ⟨⟨j + 1, by omega, by simp, hok, HC, HB⟩, by simp [Go.RowKit.intOf]; omega⟩
   rw [if_neg h0] at hok
   subst hok
   have h0' : (y != 0) = true := bne_iff_ne.mpr h0
   go_wp2_with (refine cG rfl ?_; intro w' hb; replace HB := fB HB hb; clear hb)
   go_ret
   exact ⟨rfl, HB.out⟩
 obtain rfl : j = l.length := by omega
 rw [List.drop_length] at hok
 obtain rfl : 0 = x := hok
 go_wp2
 go_ret
 exact ⟨rfl, HB.out⟩
instance : Ctr 72 (type_of% @lnumbers_ok) := ⟨@lnumbers_ok, _, Tryz.func72, by kernel_rfl, rfl⟩
theorem lCheck_ok (A : Option Addr) (n c : Nat) (l : List ByteArray) (s : ByteArray) (x : Int) (w : World) (hL : LaidW w) (hC : Z0 (Kd.string.C w A n l)) (hn : n = l.length) (hm : n ≤ 1000) (hO : ∀ s ∈ l, Okt s) (hOs : Okt s) (hx : Z0 (chkL l s = x)) :
  Calls Tryz.prog 38 #[.agg #[.slice A n c, .string s]] w fun e w' => e = .returned (.int .i64 x) ∧ Below w.heap.size w w' := by
 subst hn
 have HB := Z0.mk (Below.refl w.heap.size w)
 have hu := Tryz.underlying25
 obtain ⟨y, hy⟩ : ∃ y, Z0 (numsC l = y) := ⟨_, ⟨rfl⟩⟩
 obtain ⟨z, hz⟩ : ∃ y, Z0 (numC s = y) := ⟨_, ⟨rfl⟩⟩
 have h := hx.out
 unfold chkL at h
 rw [hy.out, hz.out] at h
 clear hx
 go_enter Tryz.func38, Tryz.ntmps38
 by_cases h1 : 32 < l.length
 · rw [if_pos h1] at h
   subst h
   have c1 : decide (32 < (l.length : Int)) = true := decide_eq_true (by omega)
   go_wp2_with ((with_reducible refine gd_ 1 rfl ?_); refine bxE 1 #[.slice A l.length c, .string s] 25 ?_; intro g hg w1 hbox hb; have B1 := Z0.mk hbox; obtain ⟨p0, p1, -, -⟩ := b2 B1; replace HB := fB HB hb; clear hb hbox hg)
   go_ret
   exact ⟨rfl, HB.out⟩
 rw [if_neg h1] at h
 have c1 : decide (32 < (l.length : Int)) = false := decide_eq_false (by omega)
 by_cases h2 : y = 0
 · subst h2
   rw [if_pos rfl] at h
   subst h
   go_wp2_with (first
    | ((with_reducible refine gd_ 1 rfl ?_); refine bxE 1 #[.slice A l.length c, .string s] 25 ?_; intro g hg w1 hbox hb; have B1 := Z0.mk hbox; obtain ⟨p0, p1, -, -⟩ := b2 B1; replace HB := fB HB hb; replace hC := Z0.mk (Kd.C_below hC.out hb); clear hb hbox hg)
    | (refine cG rfl ?_; intro w' hb; replace B1 := fk B1 hb; clear p0 p1; obtain ⟨p0, p1, -, -⟩ := b2 B1; replace HB := fB HB hb; clear hb))
   go_ret
   exact ⟨rfl, HB.out⟩
 · rw [if_neg h2] at h
   subst h
   have h0' : (y != 0) = true := bne_iff_ne.mpr h2
   go_wp2_with (first
    | ((with_reducible refine gd_ 1 rfl ?_); refine bxE 1 #[.slice A l.length c, .string s] 25 ?_; intro g hg w1 hbox hb; have B1 := Z0.mk hbox; obtain ⟨p0, p1, -, -⟩ := b2 B1; replace HB := fB HB hb; replace hC := Z0.mk (Kd.C_below hC.out hb); clear hb hbox hg)
    | (refine cG rfl ?_; intro w' hb; replace B1 := fk B1 hb; clear p0 p1; obtain ⟨p0, p1, -, -⟩ := b2 B1; replace HB := fB HB hb; clear hb))
   go_ret
   exact ⟨rfl, HB.out⟩
instance : Ctr 38 (type_of% @lCheck_ok) := ⟨@lCheck_ok, _, Tryz.func38, by kernel_rfl, rfl⟩
def Hi (m : Nat) (W W' : World) : Prop := W.heap.size ≤ W'.heap.size ∧ ∀ b, m ≤ b → b < W.heap.size → W'.heap[b]? = W.heap[b]?
section
variable {m g : Nat} {W W' W'' : World} {o : Obj}
theorem Hi.refl (m : Nat) (W : World) : Hi m W W := ⟨Nat.le_refl _, fun _ _ _ => rfl⟩
theorem Hi.trans (h : Hi m W W') (h' : Hi m W' W'') : Hi m W W'' := ⟨Nat.le_trans h.1 h'.1, fun b hb hl => (h'.2 b hb (Nat.lt_of_lt_of_le hl h.1)).trans (h.2 b hb hl)⟩
theorem Hi.of_below (h : Below W.heap.size W W') : Hi m W W' := ⟨h.size, fun b _ hl => h.block b hl⟩
theorem Hi.blk (h : Hi m W W') (hb : m ≤ g) (hg : W.heap[g]? = some o) : W'.heap[g]? = some o := (h.2 g hb (Array.getElem?_eq_some_iff.1 hg).1).trans hg
theorem Hi.step {B : Nat} (h : Hi m W W') (hB : W.heap.size ≤ B) (h' : Below B W' W'') : Hi m W W'' := ⟨Nat.le_trans h.1 h'.size, fun b hb hl => (h'.block b (Nat.lt_of_lt_of_le hl hB)).trans (h.2 b hb hl)⟩
theorem R_hi {α : Type} {d : Kd α} {e base : Nat} {ok : Nat → Prop} {v : Value} {xs : List α} (h : d.R e W base ok v xs) (hm : m ≤ base) (hi : Hi m W W') : d.R e W' base ok v xs :=
 Kd.R_mono (Kd.R_step (Kd.R_bound h) (fun k hk hl => hi.2 k (Nat.le_trans hm hk.2.1) hl)) (fun _ hk => hk.1)
end
section
variable {P : Program} {ops : Array Oper} {Q : Exit → Act → World → Prop} {rest : List Oper} {o : Oper} {a : Act} {W : World}
theorem cV {f : FuncId} {ars : Array Operand} {ts : Array TypeId} {args caps : Array Value} {t : Tmp} {N : Option Tmp} {R : Ending → World → Prop}
  (hop : o.op = .call { callee := .value (.tmp t), args := ars, argTypes := ts })
  (hf : ∃ fn, P.funcs[f]? = some fn ∧ (fn.name == "runtime.NumGoroutine") = false ∧ fn.body.isSome = true)
  (hc : Calls P f (args ++ caps) W R)
  (K : ∀ e w', R e w' → ∃ v, e = .returned v ∧ wpList P ops Q rest (a.put N v) w')
  (hx : a.eval (.tmp t) = .func (.func f) #[] caps := by rfl)
  (hd : o.dst = N := by rfl) (hg : o.guard = none := by rfl)
  (hargs : ars.map a.eval = args := by (try simp only [List.map_toArray, List.map_cons, List.map_nil]); first | done | rfl) : wpList P ops Q (o :: rest) a W := by
  obtain ⟨fn, hf1, hf2, hf3⟩ := hf
  refine wpList_plain hg fun K' hK => ?_
  have he := enters_ hf1 hf2 hf3 (args ++ caps) W
  have hrun : (execOp a.eval o).run P W = .ok (.enter f (args ++ caps)) W := by
    unfold execOp
    simp [hop, resolve, Deferred.ofValue, invoke, hx, hargs, he]
  unfold Oper.wp
  rw [hrun, Oper.upon_enter]
  refine hc.mono fun e w'' hh => ?_
  obtain ⟨v, rfl, hk⟩ := K e w'' hh
  subst hd
  exact hK _ _ hk
theorem gv_ (t : Tmp) {ars : Array Operand} {ts : Array TypeId} (_ho : o.op = .call { callee := .value (.tmp t), args := ars, argTypes := ts }) (h : wpList P ops Q (o :: rest) a W) : wpList P ops Q (o :: rest) a W := h
theorem apL {base e : Nat} {v : Value} {xs : List ByteArray} {s x : Operand} {t : TypeId} (p : ByteArray) {N : Option Tmp}
  (HO : Z0 (Kd.R Kd.string e W base (fun _ => True) v xs)) (hbase : base ≤ W.heap.size) (hl : xs.length < 1000000)
  (ho : o.op = .call { callee := .builtin .append, args := #[s, x], argTypes := #[t, t] }) (ht : P.underlying t = some (.slice e)) (hi : (P.info? e).map (fun i => (i.zero, i.size, i.bytes)) = some (some (.string ⟨#[]⟩), 1, 16))
  (K : ∀ v1 w1, Z0 (Kd.R Kd.string e w1 base (fun _ => True) v1 (xs ++ [p])) → Below base W w1 → W.grownBy w1 v.ownBlock → wpList P ops Q rest (a.put N v1) w1)
  (hd : o.dst = N := by rfl) (hg : o.guard = none := by rfl)
  (hs : a.eval s = v := by rfl) (hx : a.eval x = .slice (some ⟨W.heap.size, 0, none⟩) 1 1 := by rfl) : wpList P ops Q (o :: rest) a (W.alloc (.cells #[.string p] e)) := by
  refine Kd.R_append Kd.string (w0 := W) base hg s x t e (.string ⟨#[]⟩) 16 ho ht hi rfl (by decide) (by omega) v xs p [.string p] (fun _ => True) (fun _ => False) hs hx rfl (fun _ h => h.elim) (fun _ _ => trivial) HO.out (Below.refl _ _) hbase (by omega) ?_
  intro v1 w1 h1 h2 h3 h4
  rw [hd]
  exact K v1 w1 ⟨h1⟩ h2 h3
end
theorem infoRat : (Tryz.prog.info? 23).map (fun i => (i.zero, i.size, i.bytes)) = some (some (.string ⟨#[]⟩), 1, 16) := by kernel_rfl
theorem infoInt : (Tryz.prog.info? 45).map (fun i => (i.zero, i.size, i.bytes)) = some (some (.string ⟨#[]⟩), 1, 16) := by kernel_rfl
abbrev HasF (F : FuncId) : Prop := ∃ fn, Tryz.prog.funcs[F]? = some fn ∧ (fn.name == "runtime.NumGoroutine") = false ∧ fn.body.isSome = true
theorem range_snoc (G : Nat → ByteArray) (j : Nat) : (List.range (j + 1)).map G = (List.range j).map G ++ [G j] := by rw [List.range_succ, List.map_append]; rfl
theorem mapped_ok (F : FuncId) (caps : Array Value) (A : Option Addr) (n c m : Nat) (l : List ByteArray) (G : Nat → ByteArray) (J : Nat → World → Prop) (w : World)
  (hf : HasF F) (hn : n = l.length) (hn' : n ≤ 1000) (hm : m ≤ w.heap.size)
  (hC : ∀ k W, J k W → Kd.string.C W A n l)
  (hJ : ∀ k W W', J k W → Below w.heap.size W W' → J k W')
  (hF : ∀ k (h : k < l.length) W, J k W → Calls Tryz.prog F (#[.string l[k]] ++ caps) W fun e W' => e = .returned (.tuple #[.string (G k), .int .i64 0]) ∧ J (k + 1) W' ∧ Hi m W W')
  (h0 : J 0 w) :
  Calls Tryz.prog 150 #[.slice A n c, .func (.func F) #[] caps] w fun e w' => ∃ X d, e = .returned (.tuple #[.slice X n d, .int .i64 0]) ∧ Kd.R Kd.string 23 w' w.heap.size (fun _ => True) (.slice X n d) ((List.range n).map G) ∧ J n w' ∧ Hi m w w' := by
 subst hn
 have ht := Tryz.underlying22
 go_enter Tryz.func150, Tryz.ntmps150
 go_wp2
 go_loopw [6, 13] (fun v i wr => ∃ j : Nat, j ≤ l.length ∧ i = .int .i64 j ∧ Z0 (Kd.R Kd.string 23 wr w.heap.size (fun _ => True) v ((List.range j).map G)) ∧ Z0 (J j wr) ∧ Hi m w wr)
  (fun _ i _ => l.length - (Go.RowKit.intOf i).toNat)
 case atStart => exact ⟨0, by omega, rfl, ⟨Kd.R_nil _ _ _ _ _⟩, ⟨h0⟩, Hi.refl _ _⟩
 clear h0
 obtain ⟨j, hj, rfl, HO, HJ, hi⟩ := hrel
 rcases Nat.lt_or_ge j l.length with h4 | h4
 · obtain ⟨ad, rfl, hxx, p, q⟩ := asI (hC _ _ HJ.out) (j : Int) (by omega) (by omega)
   rw [Int.toNat_natCast] at hxx
   have hs : rdOf ByteArray.empty l (j : Int) = l[j] := by simp [rdOf, h4]
   rw [hs] at hxx
   clear hs
   have c4 : decide ((j : Int) < l.length) = true := decide_eq_true (by omega)
   go_wp2_with (first
    | ((with_reducible refine gv_ 18 rfl ?_); refine cV rfl hf (hF j h4 _ HJ.out) ?_; rintro _ w2 ⟨rfl, HJ2, hi2⟩; refine ⟨_, rfl, ?_⟩; replace HO := Z0.mk (R_hi HO.out hm hi2); replace HJ := Z0.mk HJ2; replace hi := hi.trans hi2; clear hi2 HJ2)
    | ((with_reducible refine gate_builtin (b := .append) rfl ?_); refine apL (G j) HO (Nat.le_trans hi.1 (Nat.le_refl _)) (by simp; omega) rfl ht infoRat ?_; intro v1 w1 HO1 hb hg; replace HO := HO1; replace HJ := Z0.mk (hJ _ _ _ HJ.out hb); replace hi := hi.step (Nat.le_refl _) hb; clear HO1 hb hg))
   exact ⟨⟨j + 1, by omega, by simp, ⟨by rw [range_snoc]; exact HO.out⟩, HJ, hi⟩, by simp [Go.RowKit.intOf]; omega⟩
 obtain rfl : j = l.length := by omega
 obtain ⟨X, d, rfl⟩ := Kd.R_slice HO.out
 rw [List.length_map, List.length_range] at HO
 go_wp2
 go_ret2
 exact ⟨X, d, by simp, HO.out, HJ.out, hi⟩
theorem each_ok (F : FuncId) (caps : Array Value) (A : Option Addr) (n c m : Nat) (l : List ByteArray) (s : ByteArray) (G : Nat → ByteArray) (J : Nat → World → Prop) (w : World)
  (hf : HasF F) (hn : n = l.length) (hn' : n ≤ 1000) (hm : m ≤ w.heap.size)
  (hC : ∀ k W, J k W → Kd.string.C W A n l)
  (hJ : ∀ k W W', J k W → Below w.heap.size W W' → J k W')
  (hF : ∀ k (h : k < (l ++ [s]).length) W, J k W → Calls Tryz.prog F (#[.string (l ++ [s])[k]] ++ caps) W fun e W' => e = .returned (.tuple #[.string (G k), .int .i64 0]) ∧ J (k + 1) W' ∧ Hi m W W')
  (h0 : J 0 w) :
  Calls Tryz.prog 112 #[.agg #[.slice A n c, .string s], .func (.func F) #[] caps] w fun e w' => ∃ X d, e = .returned (.tuple #[.agg #[.slice X n d, .string (G n)], .int .i64 0]) ∧ Kd.R Kd.string 23 w' w.heap.size (fun _ => True) (.slice X n d) ((List.range n).map G) ∧ J (n + 1) w' ∧ Hi m w w' := by
 have hu := Tryz.underlying25
 subst hn
 have hlen : (l ++ [s]).length = l.length + 1 := by simp
 have hFs : ∀ W, J l.length W → Calls Tryz.prog F (#[.string s] ++ caps) W fun e W' => e = .returned (.tuple #[.string (G l.length), .int .i64 0]) ∧ J (l.length + 1) W' ∧ Hi m W W' := fun W h => by
  have := hF l.length (by omega) W h
  rw [show (l ++ [s])[l.length]'(by omega) = s by simp] at this
  exact this
 go_enter Tryz.func112, Tryz.ntmps112
 go_upto_region 1 with (fail)
 refine al2 ?_
 intro W hb B0 B1
 have HJ := Z0.mk (hJ _ _ _ h0 hb)
 have hi : Hi m w W := (Hi.refl m w).step (Nat.le_refl _) hb
 have hs1 := hb.size
 have hs2 := blk_lt B0.out
 obtain ⟨p0, p1, -, -⟩ := b2 B0
 clear hb h0
 go_wp2_with (first
  | ((with_reducible refine gc_ 150 rfl ?_); refine gL 13 Tryz.func150 (mapped_ok F caps A l.length c m l G J _ hf rfl hn' (Nat.le_trans hm hs1) hC (fun k W1 W2 h hb => hJ k W1 W2 h (hb.mono hs1)) (fun k h W h1 => by
      have := hF k (by omega) W h1
      rw [List.getElem_append_left h] at this
      exact this) HJ.out) ?_; rintro _ w2 ⟨X, d, rfl, HO, HJ2, hi2⟩; refine ⟨_, rfl, ?_⟩; replace B0 := Z0.mk (hi2.blk hm B0.out); replace B1 := Z0.mk (hi2.blk (g := w.heap.size + 1) (by omega) B1.out); replace HJ := Z0.mk HJ2; replace HO := Z0.mk HO; replace hi := hi.trans hi2; clear hi2 HJ2 p0 p1; obtain ⟨p0, p1, -, -⟩ := b2 B0; obtain ⟨q0, q1, f0, f1⟩ := b2 B1)
  | ((with_reducible refine gv_ 21 rfl ?_); refine cV rfl hf (hFs _ HJ.out) ?_; rintro _ w3 ⟨rfl, HJ2, hi2⟩; refine ⟨_, rfl, ?_⟩; replace B1 := Z0.mk (hi2.blk (g := w.heap.size + 1) (by omega) B1.out); replace HO := Z0.mk (R_hi HO.out (Nat.le_trans hm hs1) hi2); replace HJ := Z0.mk HJ2; replace hi := hi.trans hi2; clear hi2 HJ2 p0 p1 q0 q1 f0 f1; obtain ⟨q0, q1, f0, f1⟩ := b2 B1))
 have hbs := ((Below.refl w.heap.size w3).setCell (p := ⟨w.heap.size + 1, 0, none⟩) (Nat.le_succ _) (.slice X l.length d)).setCell (p := ⟨w.heap.size + 1, 1, none⟩) (Nat.le_succ _) (.string (G l.length))
 refine bodyPost_ret (results_ct rfl _ _ (w.heap.size + 1) 25 #[.slice X l.length d, .string (G l.length)] (0, 0) _ rfl (blk_put (blk_put B1.out 0 _ rfl) 1 _ rfl) hu rfl (by kernel_rfl)) rfl ⟨X, d, rfl, ?_, hJ _ _ _ HJ.out hbs, hi.step (Nat.le_refl _) hbs⟩
 exact Kd.R_mono (Kd.R_far (p := ⟨w.heap.size + 1, 1, none⟩) (Kd.R_far (p := ⟨w.heap.size + 1, 0, none⟩) (Kd.R_types (Kd.R_lower HO.out hs1) B1.out (by decide)) (fun _ hk => hk.2) _) (fun _ hk => hk.2) _) (fun _ _ => trivial)
instance : Ctr 69 (type_of% @rAAdd.calls) := ⟨@rAAdd.calls, _, Tryz.func69, by kernel_rfl, rfl⟩
theorem Rstr_put {w : World} {base g : Nat} {X : Option Addr} {n d : Nat} {ts : List ByteArray} {cs : Array Value} (h : Kd.R Kd.string 23 w base (fun _ => True) (.slice X n d) ts) (hg : w.heap[g]? = some (.cells cs 25 (0, 0))) (x y : Value) :
  Kd.R Kd.string 23 ((w.setCell ⟨g, 0, none⟩ x).setCell ⟨g, 1, none⟩ y) base (fun _ => True) (.slice X n d) ts :=
 Kd.R_mono (Kd.R_far (p := ⟨g, 1, none⟩) (Kd.R_far (p := ⟨g, 0, none⟩) (Kd.R_types h hg (by decide)) (fun _ hk => hk.2) _) (fun _ hk => hk.2) _) (fun _ _ => trivial)
abbrev Ab (lo : Nat) (X : Option Addr) : Prop := ∀ ad, X = some ad → lo ≤ ad.block
theorem Ab.none {lo : Nat} : Ab lo none := fun _ e => nomatch e
theorem Ab.mono {lo lo' : Nat} {X : Option Addr} (h : Ab lo X) (hl : lo' ≤ lo) : Ab lo' X := fun ad e => Nat.le_trans hl (h ad e)
theorem Ab.of_R {α : Type} {d : Kd α} {e base n c : Nat} {w : World} {ok : Nat → Prop} {X : Option Addr} {xs : List α} (h : d.R e w base ok (.slice X n c) xs) : Ab base X := fun ad e => by subst e; exact Kd.R_base h _ rfl
theorem Cs_set {w : World} {A : Option Addr} {n g j : Nat} {xs : List ByteArray} (h : Kd.string.C w A n xs) (hA : ∀ ad, A = some ad → ad.block ≠ g) (v : Value) : Kd.string.C (w.setCell ⟨g, j, none⟩ v) A n xs := by
 obtain ⟨h1, h2, h3⟩ := Kd.reads_of_C (enc := Value.string) (d := ByteArray.empty) (h1 := fun _ => rfl) h
 refine Kd.C_of_reads (d := ByteArray.empty) ⟨h1, h2, fun hn => ?_⟩
 obtain ⟨ad, e, hc⟩ := h3 hn
 refine ⟨ad, e, fun j' hj => ?_⟩
 rw [World.cell?_setCell_other (h := fun e' => by have := congrArg Addr.block e'; rw [add_block] at this; exact hA ad e this.symm)]
 exact hc j' hj
theorem Cs_set2 {w : World} {A : Option Addr} {n g lo : Nat} {xs : List ByteArray} (h : Kd.string.C w A n xs) (hA : Ab lo A) (hg : g < lo) (x y : Value) : Kd.string.C ((w.setCell ⟨g, 0, none⟩ x).setCell ⟨g, 1, none⟩ y) A n xs :=
 Cs_set (Cs_set h (fun ad e => by have := hA ad e; omega) _) (fun ad e => by have := hA ad e; omega) _
def LinT (w : World) (n : Nat) (ts : List ByteArray) (t : ByteArray) (e : Ending) (w' : World) : Prop := ∃ X d, e = .returned (.tuple #[.agg #[.slice X n d, .string t], .int .i64 0]) ∧ n ≤ d ∧ Kd.string.C w' X n ts ∧ Ab w.heap.size X ∧ Below w.heap.size w w'
def LinR (w : World) (lo : Nat) (r : List ByteArray × ByteArray × Int) (e : Ending) (w' : World) : Prop := ∃ X d, e = .returned (.tuple #[.agg #[.slice X r.1.length d, .string r.2.1], .int .i64 r.2.2]) ∧ r.1.length ≤ d ∧ Kd.string.C w' X r.1.length r.1 ∧ Ab lo X ∧ Below w.heap.size w w'
theorem tm_ok (gc : Nat) (p r : Rat) (W : World) (hL : LaidW W) (hg : W.heap[gc]? = some (.cells #[.string (Sv.rtxt r)] 23 (0, 0))) (h : ndR p + ndR r + 1 ≤ 4096) :
  Calls Tryz.prog 113 #[.string (Sv.rtxt p), .pointer (some ⟨gc, 0, none⟩)] W fun e W' => e = .returned (.tuple #[.string (Sv.rtxt (p * r)), .int .i64 0]) ∧ Below W.heap.size W W' := by
 have HB := Z0.mk (Below.refl W.heap.size W)
 obtain ⟨k, A⟩ := (mulE p r h).as
 have p0 : W.cell? ⟨gc, 0, none⟩ = some (.string (Sv.rtxt r)) := (blk_cell hg 0).trans rfl
 go_enter Tryz.func113, Tryz.ntmps113
 go_wp2_with (refine cG rfl ?_; intro w' hb; replace HB := fB HB hb; clear hb)
 go_ret2
 exact ⟨rfl, HB.out⟩
theorem getD_snoc (qs : List Rat) (q : Rat) : (qs ++ [q]).getD qs.length 0 = q := by simp
theorem map_getD (qs : List Rat) (q : Rat) (f : Nat → Rat → ByteArray) : (List.range qs.length).map (fun k => f k ((qs ++ [q]).getD k 0)) = (List.range qs.length).map (fun k => f k (qs.getD k 0)) := by
 refine List.map_congr_left fun k hk => ?_
 rw [List.mem_range] at hk
 simp [List.getElem?_append_left hk]
theorem map_range (qs : List Rat) (f : Rat → ByteArray) : (List.range qs.length).map (fun k => f (qs.getD k 0)) = qs.map f := by
 apply List.ext_getElem
 · simp
 · intro i h1 h2
   simp at h1 h2 ⊢
   simp [h2]
theorem zip_range (qs rs : List Rat) (h : qs.length = rs.length) : (List.range qs.length).map (fun k => Sv.rtxt (qs.getD k 0 + rs.getD k 0)) = (List.zipWith (· + ·) qs rs).map Sv.rtxt := by
 apply List.ext_getElem
 · simp [h]
 · intro i h1 h2
   have h3 : i < qs.length := by simpa using h1
   have h4 : i < rs.length := by omega
   simp [h3, h4]
theorem texts_get (qs : List Rat) (q : Rat) (k : Nat) (h : k < (qs.map Sv.rtxt ++ [Sv.rtxt q]).length) : (qs.map Sv.rtxt ++ [Sv.rtxt q])[k] = Sv.rtxt ((qs ++ [q]).getD k 0) := by
 have e : qs.map Sv.rtxt ++ [Sv.rtxt q] = (qs ++ [q]).map Sv.rtxt := by simp
 have h2 : k < (qs ++ [q]).length := by rw [e] at h; simpa using h
 simp only [e, List.getElem_map]
 rw [List.getD_eq_getElem?_getD, List.getElem?_eq_getElem h2]
 rfl
theorem getD_mem (qs : List Rat) (q : Rat) (k : Nat) (h : k < qs.length + 1) : (qs ++ [q]).getD k 0 ∈ qs ++ [q] := by
 have h2 : k < (qs ++ [q]).length := by simpa using h
 rw [List.getD_eq_getElem?_getD, List.getElem?_eq_getElem h2]
 exact List.getElem_mem h2
theorem times_ok (A : Option Addr) (n c : Nat) (qs : List Rat) (q r : Rat) (w : World) (hL : LaidW w) (hC : Z0 (Kd.string.C w A n (qs.map Sv.rtxt))) (hn : n = qs.length) (hn' : n ≤ 1000) (hq : ∀ p ∈ qs ++ [q], ndR p + ndR r + 1 ≤ 4096) :
  Calls Tryz.prog 59 #[.agg #[.slice A n c, .string (Sv.rtxt q)], .string (Sv.rtxt r)] w (LinT w n (qs.map fun p => Sv.rtxt (p * r)) (Sv.rtxt (q * r))) := by
 subst hn
 have hu := Tryz.underlying25
 go_enter Tryz.func59, Tryz.ntmps59
 go_upto_region 1 with (fail)
 refine al3 ?_
 intro W hb B0 B1 B2
 obtain ⟨p0, p1, -, -⟩ := b2 B0
 have E := each_ok 113 #[.pointer (some ⟨w.heap.size + 1, 0, none⟩)] A qs.length c 0 (qs.map Sv.rtxt) (Sv.rtxt q) (fun k => Sv.rtxt ((qs ++ [q]).getD k 0 * r)) (fun _ W1 => Below W.heap.size W W1) W ⟨_, Tryz.func113, by kernel_rfl, rfl⟩ (by simp) hn' (Nat.zero_le _)
  (fun k W1 h => Kd.C_below (Kd.C_below hC.out hb) h) (fun k W1 W2 h h2 => h.trans h2) (fun k h W1 h1 => by
   rw [texts_get]
   refine (tm_ok (w.heap.size + 1) _ r W1 (hL.below (below_step hb h1)) (blk_below B1.out h1) (hq _ (getD_mem qs q k (by simpa using h)))).mono ?_
   rintro e W2 ⟨rfl, h2⟩
   exact ⟨rfl, below_step h1 h2, Hi.of_below h2⟩) (Below.refl _ _)
 rw [getD_snoc, map_getD qs q (fun _ p => Sv.rtxt (p * r)), map_range qs (fun p => Sv.rtxt (p * r))] at E
 replace E := Z0.mk E
 go_wp2_with ((with_reducible refine gc_ 112 rfl ?_); refine gL 8 Tryz.func112 E.out ?_; rintro _ w2 ⟨X, d, rfl, HO, hb2, -⟩; refine ⟨_, rfl, ?_⟩; have hlo := hb.size; replace HO := Z0.mk HO; replace B2 := Z0.mk (blk_below B2.out hb2); replace hb := Z0.mk (below_step hb hb2); obtain ⟨q0, q1, f0, f1⟩ := b2 B2; clear E hb2)
 have C := Kd.R_reads' (Rstr_put HO.out B2.out (.slice X qs.length d) (.string (Sv.rtxt (q * r))))
 rw [List.length_map] at C
 refine bodyPost_ret (results_ct rfl _ _ (w.heap.size + 1 + 1) 25 #[.slice X qs.length d, .string (Sv.rtxt (q * r))] (0, 0) _ rfl (blk_put (blk_put B2.out 0 _ rfl) 1 _ rfl) hu rfl (by kernel_rfl)) rfl ⟨X, d, rfl, C.2.1, C.2.2, (Ab.of_R HO.out).mono hlo, below_set (below_set hb.out (by omega)) (by omega)⟩
instance : Ctr 59 (type_of% @times_ok) := ⟨@times_ok, _, Tryz.func59, by kernel_rfl, rfl⟩
theorem pl_ok (gi gb n c k : Nat) (B : Option Addr) (l : List ByteArray) (s : ByteArray) (p r : Rat) (w W : World) (hL : LaidW w) (hbw : Below w.heap.size w W) (hgi : w.heap.size ≤ gi) (hi : W.heap[gi]? = some (.cells #[.int .i64 ((k : Int) - 1)] 3 (0, 0))) (hg : W.heap[gb]? = some (.cells #[.slice B n c, .string s] 25 (0, 0)))
  (hC : Kd.string.C w B n l) (hn : n = l.length) (hn' : n ≤ 1000) (hk : k ≤ 1000) (hr : (∃ h : k < l.length, l[k] = Sv.rtxt r) ∨ (l.length ≤ k ∧ s = Sv.rtxt r)) (h : ndR p + ndR r + 1 ≤ 4096) :
  Calls Tryz.prog 114 #[.string (Sv.rtxt p), .pointer (some ⟨gi, 0, none⟩), .pointer (some ⟨gb, 0, none⟩)] W fun e W' => e = .returned (.tuple #[.string (Sv.rtxt (p + r)), .int .i64 0]) ∧ Below (W.setCell ⟨gi, 0, none⟩ (.int .i64 k)).heap.size (W.setCell ⟨gi, 0, none⟩ (.int .i64 k)) W' := by
 subst hn
 have hne : gb ≠ gi := fun e => by rw [e, hi] at hg; cases hg
 obtain ⟨ka, A⟩ := (addE p r h).as
 have p0 : W.cell? ⟨gi, 0, none⟩ = some (.int .i64 ((k : Int) - 1)) := (blk_cell hi 0).trans rfl
 have p1 : W.frozen? ⟨gi, 0, none⟩ = false := blk_frozen hi 0
 have e1 : wrap64 ((k : Int) - 1 + 1) = k := w64n (by omega) (by omega)
 have e2 : wrap64 (k : Int) = k := w64n rfl (by omega)
 go_enter Tryz.func114, Tryz.ntmps114
 go_upto_region 2 with (fail)
 have hi2 : (W.setCell ⟨gi, 0, none⟩ (.int .i64 k)).heap[gi]? = some (.cells #[.int .i64 k] 3 (0, 0)) := blk_put hi 0 _ rfl
 have hg2 : (W.setCell ⟨gi, 0, none⟩ (.int .i64 k)).heap[gb]? = some (.cells #[.slice B l.length c, .string s] 25 (0, 0)) := blk_far (p := ⟨gi, 0, none⟩) hg hne _
 have hb2 : Below w.heap.size w (W.setCell ⟨gi, 0, none⟩ (.int .i64 k)) := below_set hbw hgi
 have hL2 := hL.below hb2
 have hC2 := Kd.C_below hC hb2
 clear p0 p1 hi hg hC hbw hb2
 generalize hW2 : W.setCell ⟨gi, 0, none⟩ (.int .i64 k) = W2 at *
 replace hW2 := Z0.mk hW2
 have HB := Z0.mk (Below.refl W2.heap.size W2)
 have p0 : W2.cell? ⟨gi, 0, none⟩ = some (.int .i64 k) := (blk_cell hi2 0).trans rfl
 obtain ⟨q0, q1, -, -⟩ := b2 ⟨hg2⟩
 rcases hr with ⟨h4, hr⟩ | ⟨h4, rfl⟩
 · obtain ⟨ad, rfl, hxx, x1, x2⟩ := asI hC2 (k : Int) (by omega) (by omega)
   rw [Int.toNat_natCast] at hxx
   have hs : rdOf ByteArray.empty l (k : Int) = Sv.rtxt r := by rw [← hr]; simp [rdOf, h4]
   rw [hs] at hxx
   clear hs
   have c4 : decide ((k : Int) < l.length) = true := decide_eq_true (by omega)
   go_wp2_with (refine cG rfl ?_; intro w' hb; replace HB := fB HB hb; clear hb)
   go_ret2
   exact ⟨rfl, by rw [hW2.out]; exact HB.out⟩
 · have c4 : decide ((k : Int) < l.length) = false := decide_eq_false (by omega)
   go_wp2_with (refine cG rfl ?_; intro w' hb; replace HB := fB HB hb; clear hb)
   go_ret2
   exact ⟨rfl, by rw [hW2.out]; exact HB.out⟩
theorem plus_ok (A B : Option Addr) (n c c' : Nat) (qs rs : List Rat) (q r : Rat) (w : World) (hL : LaidW w) (hC : Z0 (Kd.string.C w A n (qs.map Sv.rtxt))) (hC' : Z0 (Kd.string.C w B n (rs.map Sv.rtxt))) (hn : n = qs.length) (hn' : n = rs.length) (hm : n ≤ 900) (hq : ∀ p ∈ qs ++ [q], ndR p ≤ 2000) (hr : ∀ p ∈ rs ++ [r], ndR p ≤ 2000) :
  Calls Tryz.prog 61 #[.agg #[.slice A n c, .string (Sv.rtxt q)], .agg #[.slice B n c', .string (Sv.rtxt r)]] w (LinT w n ((List.zipWith (· + ·) qs rs).map Sv.rtxt) (Sv.rtxt (q + r))) := by
 have hu := Tryz.underlying25
 subst hn
 replace hn' := Z0.mk hn'
 go_enter Tryz.func61, Tryz.ntmps61
 go_upto_region 2 with (fail)
 refine al4 ?_
 intro W hb B0 B1 B2 B3
 obtain ⟨p0, p1, -, -⟩ := b2 B0
 have z3 := blk_lt B3.out
 have E := each_ok 114 #[.pointer (some ⟨w.heap.size + 1 + 1 + 1, 0, none⟩), .pointer (some ⟨w.heap.size + 1, 0, none⟩)] A qs.length c W.heap.size (qs.map Sv.rtxt) (Sv.rtxt q) (fun k => Sv.rtxt ((qs ++ [q]).getD k 0 + (rs ++ [r]).getD k 0))
  (fun k W1 => W1.heap[w.heap.size + 1 + 1 + 1]? = some (.cells #[.int .i64 ((k : Int) - 1)] 3 (0, 0)) ∧ W1.heap[w.heap.size + 1]? = some (.cells #[.slice B qs.length c', .string (Sv.rtxt r)] 25 (0, 0)) ∧ W1.heap[w.heap.size + 1 + 1]? = some (.cells #[.slice none 0 0, .string ⟨#[]⟩] 25 (0, 0)) ∧ Below w.heap.size w W1) W ⟨_, Tryz.func114, by kernel_rfl, rfl⟩ (by simp) (by omega) (Nat.le_refl _)
  (fun k W1 h => Kd.C_below hC.out h.2.2.2) (fun k W1 W2 h h2 => ⟨(h2.block _ z3).trans h.1, (h2.block _ (by omega)).trans h.2.1, (h2.block _ (by omega)).trans h.2.2.1, h.2.2.2.trans (h2.mono hb.size)⟩) (fun k h W1 h1 => by
   rw [texts_get]
   have hk : k < qs.length + 1 := by simpa using h
   have e1 := hq _ (getD_mem qs q k hk)
   have e2 := hr _ (getD_mem rs r k (by rw [← hn'.out]; exact hk))
   refine (pl_ok (w.heap.size + 1 + 1 + 1) (w.heap.size + 1) qs.length c' k B (rs.map Sv.rtxt) (Sv.rtxt r) _ ((rs ++ [r]).getD k 0) w W1 hL h1.2.2.2 (by omega) h1.1 h1.2.1 hC'.out (by simp [hn'.out]) (by omega) (by omega) ?_ (by omega)).mono ?_
   · rcases Nat.lt_or_ge k rs.length with h4 | h4
     · refine .inl ⟨by simpa using h4, ?_⟩
       simp [List.getD, List.getElem?_append_left h4, h4]
     · have h5 : k = rs.length := by have := hn'.out; omega
       refine .inr ⟨by simpa using h4, ?_⟩
       subst h5
       rw [getD_snoc]
   · rintro e W2 ⟨rfl, h2⟩
     have z1 := blk_lt h1.1
     have j1 : (W1.setCell ⟨w.heap.size + 1 + 1 + 1, 0, none⟩ (.int .i64 k)).heap[w.heap.size + 1 + 1 + 1]? = some (.cells #[.int .i64 k] 3 (0, 0)) := blk_put h1.1 0 _ rfl
     have j2 := blk_far (p := ⟨w.heap.size + 1 + 1 + 1, 0, none⟩) h1.2.1 (by show w.heap.size + 1 ≠ w.heap.size + 1 + 1 + 1; omega) (.int .i64 k)
     have j3 := blk_far (p := ⟨w.heap.size + 1 + 1 + 1, 0, none⟩) h1.2.2.1 (by show w.heap.size + 1 + 1 ≠ w.heap.size + 1 + 1 + 1; omega) (.int .i64 k)
     have j4 := below_set (g := w.heap.size + 1 + 1 + 1) (j := 0) (v := .int .i64 k) h1.2.2.2 (by omega)
     refine ⟨rfl, ⟨?_, blk_below j2 h2, blk_below j3 h2, below_step j4 h2⟩, ?_⟩
     · rw [show (((k + 1 : Nat) : Int) - 1) = k by omega]; exact blk_below j1 h2
     · have hs : (W1.setCell ⟨w.heap.size + 1 + 1 + 1, 0, none⟩ (.int .i64 k)).heap.size = W1.heap.size := by simp [World.setCell]
       refine ⟨by have := h2.size; omega, fun b hb1 hb2 => (h2.block b (by omega)).trans (Below.heap_setCell _ _ _ _ (by show b ≠ w.heap.size + 1 + 1 + 1; omega))⟩)
  ⟨by exact B3.out, B1.out, B2.out, hb⟩
 rw [getD_snoc, show (rs ++ [r]).getD qs.length 0 = r by rw [hn'.out]; exact getD_snoc rs r] at E
 have e3 : (List.range qs.length).map (fun k => Sv.rtxt ((qs ++ [q]).getD k 0 + (rs ++ [r]).getD k 0)) = (List.zipWith (· + ·) qs rs).map Sv.rtxt := by
  rw [map_getD qs q (fun k p => Sv.rtxt (p + (rs ++ [r]).getD k 0)), hn'.out, map_getD rs r (fun k p => Sv.rtxt (qs.getD k 0 + p)), ← hn'.out]
  exact zip_range qs rs hn'.out
 rw [e3] at E
 replace E := Z0.mk E
 clear hq hr
 go_wp2_with ((with_reducible refine gc_ 112 rfl ?_); refine gL 9 Tryz.func112 E.out ?_; rintro _ w2 ⟨X, d, rfl, HO, ⟨-, -, B2', hb2⟩, -⟩; refine ⟨_, rfl, ?_⟩; have hlo := hb.size; replace HO := Z0.mk HO; replace B2 := Z0.mk B2'; replace hb := Z0.mk hb2; obtain ⟨q0, q1, f0, f1⟩ := b2 B2; clear E hb2 B2' p0 p1)
 have C := Kd.R_reads' (Rstr_put HO.out B2.out (.slice X qs.length d) (.string (Sv.rtxt (q + r))))
 have e4 : ((List.zipWith (· + ·) qs rs).map Sv.rtxt).length = qs.length := by simp [hn'.out]
 rw [e4] at C
 refine bodyPost_ret (results_ct rfl _ _ (w.heap.size + 1 + 1) 25 #[.slice X qs.length d, .string (Sv.rtxt (q + r))] (0, 0) _ rfl (blk_put (blk_put B2.out 0 _ rfl) 1 _ rfl) hu rfl (by kernel_rfl)) rfl ⟨X, d, rfl, C.2.1, C.2.2, (Ab.of_R HO.out).mono hlo, below_set (below_set hb.out (by omega)) (by omega)⟩
instance : Ctr 61 (type_of% @plus_ok) := ⟨@plus_ok, _, Tryz.func61, by kernel_rfl, rfl⟩
theorem C_nilS {w : World} : Kd.string.C w none 0 [] := Kd.C_nil _ _
theorem okt_map {qs : List Rat} (h : ∀ q ∈ qs, ndR q ≤ 4096) : ∀ s ∈ qs.map Sv.rtxt, Okt s := fun s hs => by
 obtain ⟨q, hq, rfl⟩ := List.mem_map.1 hs
 exact Okt.q (h q hq)
theorem done_ok (A : Option Addr) (n c lo : Nat) (qs : List Rat) (q : Rat) (w : World) (hL : LaidW w) (hC : Z0 (Kd.string.C w A n (qs.map Sv.rtxt))) (hn : n = qs.length) (hm : n ≤ 1000) (hc : n ≤ c) (hA : Ab lo A) (hq : ∀ p ∈ qs, ndR p ≤ 4096) (hq1 : ndR q ≤ 4096) :
  Calls Tryz.prog 60 #[.agg #[.slice A n c, .string (Sv.rtxt q)], .int .i64 0] w (LinR w lo (fin qs q)) := by
 subst hn
 have HB := Z0.mk (Below.refl w.heap.size w)
 have hu := Tryz.underlying25
 have hO := okt_map hq
 have hO1 := Okt.q hq1
 obtain ⟨x, hx⟩ : ∃ x, Z0 (chkL (qs.map Sv.rtxt) (Sv.rtxt q) = x) := ⟨_, ⟨rfl⟩⟩
 have hlen : qs.length = (qs.map Sv.rtxt).length := by simp
 replace hlen := Z0.mk hlen
 go_enter Tryz.func60, Tryz.ntmps60
 go_upto_region 1 with (fail)
 refine al2 ?_
 intro W hb B0 B1
 replace HB := fB HB hb
 have C := Z0.mk (Kd.C_below hC.out hb)
 obtain ⟨p0, p1, -, -⟩ := b2 B0
 obtain ⟨q0, q1, f0, f1⟩ := b2 B1
 by_cases h0 : x = 0
 · subst h0
   have hf := (chkL_map qs q).1 hx.out
   clear hb
   go_wp2_with (go_at_call 38; refine (lCheck_ok A qs.length c (qs.map Sv.rtxt) (Sv.rtxt q) 0 _ (hL.below HB.out) C hlen.out hm hO hO1 hx).mono ?_; rintro _ w' ⟨rfl, hb⟩; replace B0 := fk B0 hb; replace B1 := fk B1 hb; replace HB := fB HB hb; clear hb p0 p1 q0 q1 f0 f1; obtain ⟨p0, p1, -, -⟩ := b2 B0; obtain ⟨q0, q1, f0, f1⟩ := b2 B1)
   have HB2 := below_set (below_set (g := w.heap.size + 1) (j := 0) (v := .slice A qs.length c) HB.out (by omega)) (g := w.heap.size + 1) (j := 1) (v := .string (Sv.rtxt q)) (by omega)
   refine bodyPost_ret (results_ct rfl _ _ (w.heap.size + 1) 25 #[.slice A qs.length c, .string (Sv.rtxt q)] (0, 0) _ rfl (blk_put (blk_put B1.out 0 _ rfl) 1 _ rfl) hu rfl (by kernel_rfl)) rfl ?_
   rw [fin_pos hf]
   refine ⟨A, c, by simp, by simpa using hc, ?_, hA, HB2⟩
   show Kd.string.C _ A (qs.map Sv.rtxt).length _
   rw [← hlen.out]; exact Kd.C_below hC.out HB2
 · have hf : ¬ fine qs q := fun h => h0 (by rw [← hx.out]; exact (chkL_map qs q).2 h)
   have h0' : (x != 0) = true := bne_iff_ne.mpr h0
   clear hb
   go_wp2_with (go_at_call 38; refine (lCheck_ok A qs.length c (qs.map Sv.rtxt) (Sv.rtxt q) x _ (hL.below HB.out) C hlen.out hm hO hO1 hx).mono ?_; rintro _ w' ⟨rfl, hb⟩; replace B0 := fk B0 hb; replace B1 := fk B1 hb; replace HB := fB HB hb; clear hb p0 p1 q0 q1 f0 f1; obtain ⟨p0, p1, -, -⟩ := b2 B0; obtain ⟨q0, q1, f0, f1⟩ := b2 B1)
   refine bodyPost_ret (results_ct rfl _ _ (w.heap.size + 1) 25 #[.slice none 0 0, .string ⟨#[]⟩] (0, 0) _ rfl (blk_put (blk_put B1.out 0 _ rfl) 1 _ rfl) hu rfl (by kernel_rfl)) rfl ?_
   rw [fin_neg hf]
   exact ⟨none, 0, rfl, Nat.le_refl _, C_nilS, Ab.none, below_set (below_set HB.out (by omega)) (by omega)⟩
instance : Ctr 60 (type_of% @done_ok) := ⟨@done_ok, _, Tryz.func60, by kernel_rfl, rfl⟩
theorem dims_ok (n x : Int) (w : World) (hx : Z0 ((if n < 0 ∨ 32 < n then 2 else 0) = x)) : Calls Tryz.prog 66 #[.int .i64 n] w fun e w' => e = .returned (.int .i64 x) ∧ Below w.heap.size w w' := by
 have HB := Z0.mk (Below.refl w.heap.size w)
 have h := hx.out
 clear hx
 go_enter Tryz.func66, Tryz.ntmps66
 by_cases h1 : n < 0
 · rw [if_pos (.inl h1)] at h
   subst h
   have c1 : decide (n < 0) = true := decide_eq_true h1
   go_wp2
   go_ret
   exact ⟨rfl, HB.out⟩
 have c1 : decide (n < 0) = false := decide_eq_false h1
 by_cases h2 : 32 < n
 · rw [if_pos (.inr h2)] at h
   subst h
   have c2 : decide (32 < n) = true := decide_eq_true h2
   go_wp2
   go_ret
   exact ⟨rfl, HB.out⟩
 have c2 : decide (32 < n) = false := decide_eq_false h2
 rw [if_neg (by omega)] at h
 subst h
 go_wp2
 go_ret
 exact ⟨rfl, HB.out⟩
instance : Ctr 66 (type_of% @dims_ok) := ⟨@dims_ok, _, Tryz.func66, by kernel_rfl, rfl⟩
noncomputable def chk2L (l : List ByteArray) (s : ByteArray) (m : List ByteArray) (t : ByteArray) : Int := if chkL l s = 0 then (if chkL m t = 0 then (if l.length = m.length then 0 else 22) else chkL m t) else chkL l s
theorem both_ok (A B : Option Addr) (n c n' c' : Nat) (l m : List ByteArray) (s t : ByteArray) (x : Int) (w : World) (hL : LaidW w) (hC : Z0 (Kd.string.C w A n l)) (hC' : Z0 (Kd.string.C w B n' m)) (hn : n = l.length) (hn' : n' = m.length) (hm : n ≤ 1000) (hm' : n' ≤ 1000) (hO : ∀ s ∈ l, Okt s) (hO' : ∀ s ∈ m, Okt s) (hs : Okt s) (ht : Okt t) (hx : Z0 (chk2L l s m t = x)) :
  Calls Tryz.prog 58 #[.agg #[.slice A n c, .string s], .agg #[.slice B n' c', .string t]] w fun e w' => e = .returned (.int .i64 x) ∧ Below w.heap.size w w' := by
 have HB := Z0.mk (Below.refl w.heap.size w)
 have hu := Tryz.underlying25
 obtain ⟨y, hy⟩ : ∃ x, Z0 (chkL l s = x) := ⟨_, ⟨rfl⟩⟩
 obtain ⟨z, hz⟩ : ∃ x, Z0 (chkL m t = x) := ⟨_, ⟨rfl⟩⟩
 have h := hx.out
 unfold chk2L at h
 rw [hy.out, hz.out, ← hn, ← hn'] at h
 clear hx
 replace hn := Z0.mk hn
 replace hn' := Z0.mk hn'
 go_enter Tryz.func58, Tryz.ntmps58
 go_upto_region 1 with (fail)
 refine al2 ?_
 intro W hb B0 B1
 replace HB := fB HB hb
 replace hC := Z0.mk (Kd.C_below hC.out hb)
 replace hC' := Z0.mk (Kd.C_below hC'.out hb)
 obtain ⟨p0, p1, -, -⟩ := b2 B0
 obtain ⟨q0, q1, -, -⟩ := b2 B1
 clear hb
 by_cases h0 : y = 0
 · subst h0
   rw [if_pos rfl] at h
   by_cases h1 : z = 0
   · subst h1
     rw [if_pos rfl] at h
     by_cases h2 : n = n'
     · rw [if_pos h2] at h
       subst h
       have c1 : ((n : Int) != n') = false := by rw [h2]; exact bne_self_eq_false _
       replace h2 := Z0.mk h2
       go_wp2_with (refine cG rfl ?_; intro w' hb; replace B0 := fk B0 hb; replace B1 := fk B1 hb; replace HB := fB HB hb; replace hC' := Z0.mk (Kd.C_below hC'.out hb); clear hb p0 p1 q0 q1; obtain ⟨p0, p1, -, -⟩ := b2 B0; obtain ⟨q0, q1, -, -⟩ := b2 B1)
       go_ret
       exact ⟨rfl, HB.out⟩
     · rw [if_neg h2] at h
       subst h
       have c1 : ((n : Int) != n') = true := bne_iff_ne.mpr (by omega)
       go_wp2_with (refine cG rfl ?_; intro w' hb; replace B0 := fk B0 hb; replace B1 := fk B1 hb; replace HB := fB HB hb; replace hC' := Z0.mk (Kd.C_below hC'.out hb); clear hb p0 p1 q0 q1; obtain ⟨p0, p1, -, -⟩ := b2 B0; obtain ⟨q0, q1, -, -⟩ := b2 B1)
       go_ret
       exact ⟨rfl, HB.out⟩
   · rw [if_neg h1] at h
     subst h
     have c1 : (z != 0) = true := bne_iff_ne.mpr h1
     go_wp2_with (refine cG rfl ?_; intro w' hb; replace B0 := fk B0 hb; replace B1 := fk B1 hb; replace HB := fB HB hb; replace hC' := Z0.mk (Kd.C_below hC'.out hb); clear hb p0 p1 q0 q1; obtain ⟨p0, p1, -, -⟩ := b2 B0; obtain ⟨q0, q1, -, -⟩ := b2 B1)
     go_ret
     exact ⟨rfl, HB.out⟩
 · rw [if_neg h0] at h
   subst h
   have c1 : (y != 0) = true := bne_iff_ne.mpr h0
   go_wp2_with (refine cG rfl ?_; intro w' hb; replace B0 := fk B0 hb; replace B1 := fk B1 hb; replace HB := fB HB hb; replace hC' := Z0.mk (Kd.C_below hC'.out hb); clear hb p0 p1 q0 q1; obtain ⟨p0, p1, -, -⟩ := b2 B0; obtain ⟨q0, q1, -, -⟩ := b2 B1)
   go_ret
   exact ⟨rfl, HB.out⟩
instance : Ctr 58 (type_of% @both_ok) := ⟨@both_ok, _, Tryz.func58, by kernel_rfl, rfl⟩
noncomputable def addS (l : List ByteArray) (s : ByteArray) (m : List ByteArray) (t : ByteArray) : List ByteArray × ByteArray × Int :=
 if chk2L l s m t = 0 then fin (List.zipWith (· + ·) (l.map rv) (m.map rv)) (rv s + rv t) else ([], ⟨#[]⟩, chk2L l s m t)
noncomputable def scaleS (l : List ByteArray) (s c : ByteArray) : List ByteArray × ByteArray × Int :=
 if chkL l s = 0 then (if numC c = 0 then fin ((l.map rv).map (· * rv c)) (rv s * rv c) else ([], ⟨#[]⟩, numC c)) else ([], ⟨#[]⟩, chkL l s)
theorem rv_map (qs : List Rat) : (qs.map Sv.rtxt).map rv = qs := by
 rw [List.map_map, show rv ∘ Sv.rtxt = id from funext fun q => rv_rtxt q, List.map_id]
theorem of_chk2L {l m : List ByteArray} {s t : ByteArray} (h : chk2L l s m t = 0) : ∃ (qs rs : List Rat) (q r : Rat), l = qs.map Sv.rtxt ∧ s = Sv.rtxt q ∧ m = rs.map Sv.rtxt ∧ t = Sv.rtxt r ∧ qs.length = rs.length ∧ qs.length ≤ 32 ∧ (∀ p ∈ qs ++ [q], ndR p ≤ 100) ∧ (∀ p ∈ rs ++ [r], ndR p ≤ 100) := by
 unfold chk2L at h
 by_cases h0 : chkL l s = 0
 · rw [if_pos h0] at h
   by_cases h1 : chkL m t = 0
   · rw [if_pos h1] at h
     by_cases h2 : l.length = m.length
     · obtain ⟨a1, qs, q, rfl, rfl, a2, a3⟩ := of_chkL h0
       obtain ⟨b1, rs, r, rfl, rfl, b2, b3⟩ := of_chkL h1
       simp only [List.length_map] at h2 a1
       refine ⟨qs, rs, q, r, rfl, rfl, rfl, rfl, h2, a1, ?_, ?_⟩
       · intro p hp; rcases List.mem_append.1 hp with hp | hp
         · exact a2 p hp
         · rw [List.mem_singleton.1 hp]; exact a3
       · intro p hp; rcases List.mem_append.1 hp with hp | hp
         · exact b2 p hp
         · rw [List.mem_singleton.1 hp]; exact b3
     · rw [if_neg h2] at h; cases h
   · rw [if_neg h1] at h; exact absurd h h1
 · rw [if_neg h0] at h; exact absurd h h0
theorem Add_ok (A B : Option Addr) (n c n' c' : Nat) (l m : List ByteArray) (s t : ByteArray) (w : World) (hL : LaidW w) (hC : Z0 (Kd.string.C w A n l)) (hC' : Z0 (Kd.string.C w B n' m)) (hn : n = l.length) (hn' : n' = m.length) (hm : n ≤ 1000) (hm' : n' ≤ 1000) (hO : ∀ s ∈ l, Okt s) (hO' : ∀ s ∈ m, Okt s) (hs : Okt s) (ht : Okt t) :
  Calls Tryz.prog 32 #[.agg #[.slice A n c, .string s], .agg #[.slice B n' c', .string t]] w (LinR w w.heap.size (addS l s m t)) := by
 have HB := Z0.mk (Below.refl w.heap.size w)
 have hu := Tryz.underlying25
 obtain ⟨y, hy⟩ : ∃ x, Z0 (chk2L l s m t = x) := ⟨_, ⟨rfl⟩⟩
 replace hn := Z0.mk hn
 replace hn' := Z0.mk hn'
 go_enter Tryz.func32, Tryz.ntmps32
 go_upto_region 1 with (fail)
 refine al3 ?_
 intro W hb B0 B1 B2
 replace HB := fB HB hb
 replace hC := Z0.mk (Kd.C_below hC.out hb)
 replace hC' := Z0.mk (Kd.C_below hC'.out hb)
 obtain ⟨p0, p1, -, -⟩ := b2 B0
 obtain ⟨q0, q1, -, -⟩ := b2 B1
 obtain ⟨r0, r1, f0, f1⟩ := b2 B2
 clear hb
 by_cases h0 : y = 0
 · subst h0
   have hs' : addS l s m t = fin (List.zipWith (· + ·) (l.map rv) (m.map rv)) (rv s + rv t) := if_pos hy.out
   obtain ⟨qs, rs, q, r, rfl, rfl, rfl, rfl, e1, e2, e3, e4⟩ := of_chk2L hy.out
   rw [rv_map, rv_map, rv_rtxt, rv_rtxt] at hs'
   replace hs' := Z0.mk hs'
   have e5 : n = qs.length := by rw [hn.out, List.length_map]
   have e6 : n' = rs.length := by rw [hn'.out, List.length_map]
   have e7 : n' = n := by omega
   replace e1 := Z0.mk e1
   subst e7
   have hm9 : n' ≤ 900 := by omega
   have e8 : n' = (List.zipWith (· + ·) qs rs).length := by rw [List.length_zipWith, ← e1.out]; omega
   have e9 : ∀ p ∈ List.zipWith (· + ·) qs rs, ndR p ≤ 4096 := fun p hp => by
    obtain ⟨i, hi, rfl⟩ := List.getElem_of_mem hp
    rw [List.getElem_zipWith]
    rw [List.length_zipWith] at hi
    have a := e3 qs[i] (List.mem_append_left _ (List.getElem_mem _))
    have b := e4 rs[i] (List.mem_append_left _ (List.getElem_mem _))
    have := ndR_add qs[i] rs[i]
    omega
   have e10 : ndR (q + r) ≤ 4096 := by
    have a := e3 q (by simp)
    have b := e4 r (by simp)
    have := ndR_add q r
    omega
   have e11 : ∀ p ∈ qs ++ [q], ndR p ≤ 2000 := fun p hp => Nat.le_trans (e3 p hp) (by omega)
   have e12 : ∀ p ∈ rs ++ [r], ndR p ≤ 2000 := fun p hp => Nat.le_trans (e4 p hp) (by omega)
   replace e5 := Z0.mk e5
   replace e6 := Z0.mk e6
   replace e8 := Z0.mk e8
   go_wp2_with (first
    | ((with_reducible refine gc_ 58 rfl ?_); refine cG rfl ?_; intro w' hb; replace B0 := fk B0 hb; replace B1 := fk B1 hb; replace B2 := fk B2 hb; replace HB := fB HB hb; replace hC := Z0.mk (Kd.C_below hC.out hb); replace hC' := Z0.mk (Kd.C_below hC'.out hb); clear hb p0 p1 q0 q1 r0 r1 f0 f1; obtain ⟨p0, p1, -, -⟩ := b2 B0; obtain ⟨q0, q1, -, -⟩ := b2 B1; obtain ⟨r0, r1, f0, f1⟩ := b2 B2)
    | ((with_reducible refine gc_ 61 rfl ?_); refine cX rfl ?_; rintro _ w2 ⟨X, d, rfl, hd, CX, hX, hb⟩; refine ⟨_, rfl, ?_⟩; replace hX := Z0.mk hX; replace CX := Z0.mk CX; have z2 := Z0.mk (blk_lt B2.out); replace B2 := fk B2 hb; replace HB := fB HB hb; clear hb p0 p1 q0 q1 r0 r1 f0 f1; obtain ⟨r0, r1, f0, f1⟩ := b2 B2)
    | ((with_reducible refine gc_ 60 rfl ?_); refine cX rfl ?_; rintro _ w3 ⟨Y, d', rfl, hd', CY, hY, hb⟩; refine ⟨_, rfl, ?_⟩; replace hY := Z0.mk hY; replace CY := Z0.mk CY; replace B2 := fk B2 hb; replace HB := fB HB hb; clear hb r0 r1 f0 f1; obtain ⟨r0, r1, f0, f1⟩ := b2 B2))
   refine bodyPost_ret (results_ct rfl _ _ (w.heap.size + 1 + 1) 25 #[.slice Y _ d', .string _] (0, 0) _ rfl (blk_put (blk_put B2.out 0 _ rfl) 1 _ rfl) hu rfl (by kernel_rfl)) rfl ?_
   rw [hs'.out]
   exact ⟨Y, d', rfl, hd', Cs_set2 CY.out hY.out z2.out _ _, hY.out.mono (by have := z2.out; omega), below_set (below_set HB.out (by omega)) (by omega)⟩
 · have hs' : addS l s m t = ([], ⟨#[]⟩, y) := by unfold addS; rw [hy.out, if_neg h0]
   replace hs' := Z0.mk hs'
   have h0' : (y != 0) = true := bne_iff_ne.mpr h0
   go_wp2_with ((with_reducible refine gc_ 58 rfl ?_); refine cG rfl ?_; intro w' hb; replace B2 := fk B2 hb; replace HB := fB HB hb; clear hb p0 p1 q0 q1 r0 r1 f0 f1; obtain ⟨r0, r1, f0, f1⟩ := b2 B2)
   refine bodyPost_ret (results_ct rfl _ _ (w.heap.size + 1 + 1) 25 #[.slice none 0 0, .string ⟨#[]⟩] (0, 0) _ rfl (blk_put (blk_put B2.out 0 _ rfl) 1 _ rfl) hu rfl (by kernel_rfl)) rfl ?_
   rw [hs'.out]
   exact ⟨none, 0, rfl, Nat.le_refl _, C_nilS, Ab.none, below_set (below_set HB.out (by omega)) (by omega)⟩
theorem Rstr_put1 {w : World} {base g : Nat} {X : Option Addr} {n d j : Nat} {ts : List ByteArray} {cs : Array Value} (h : Kd.R Kd.string 23 w base (fun _ => True) (.slice X n d) ts) (hg : w.heap[g]? = some (.cells cs 25 (0, 0))) (x : Value) :
  Kd.R Kd.string 23 (w.setCell ⟨g, j, none⟩ x) base (fun _ => True) (.slice X n d) ts :=
 Kd.R_mono (Kd.R_far (p := ⟨g, j, none⟩) (Kd.R_types h hg (by decide)) (fun _ hk => hk.2) _) (fun _ _ => trivial)
theorem R_cut {α : Type} {d : Kd α} {e : Nat} {w : World} {base m : Nat} {ok : Nat → Prop} {v : Value} {xs : List α} (h : Z0 (d.R e w base ok v xs)) (hm : xs.length = m) : ∃ X c, v = .slice X m c ∧ Z0 (d.R e w base ok (.slice X m c) xs) := by
 obtain ⟨X, c, rfl⟩ := Kd.R_slice h.out
 subst hm
 exact ⟨X, c, rfl, h⟩
abbrev zeros (n : Nat) : List ByteArray := List.replicate n ⟨#[48]⟩
theorem flat_ok (n : Nat) (N : Int) (c : ByteArray) (w : World) (hN : Z0 (N = n)) (hn : n ≤ 1000) :
  Calls Tryz.prog 67 #[.int .i64 N, .string c] w fun e w' => ∃ X d, e = .returned (.agg #[.slice X n d, .string c]) ∧ Kd.R Kd.string 23 w' w.heap.size (fun _ => True) (.slice X n d) (zeros n) ∧ Below w.heap.size w w' := by
 obtain rfl := hN.out
 clear hN
 have hu := Tryz.underlying25
 have ht := Tryz.underlying22
 go_enter Tryz.func67, Tryz.ntmps67
 go_upto_region 2 with (fail)
 refine al2 ?_
 intro W hb B0 B1
 replace hb := Z0.mk hb
 go_wp2
 go_loopw [9] (fun i wr => ∃ (j : Nat) (X : Option Addr) (d : Nat), j ≤ n ∧ i = .int .i64 j ∧ Z0 (Kd.R Kd.string 23 wr w.heap.size (fun _ => True) (.slice X j d) (zeros j)) ∧ Z0 (wr.heap[w.heap.size]? = some (.cells #[.slice none 0 0, .string ⟨#[]⟩] 25 (0, 0))) ∧ Z0 (wr.heap[w.heap.size + 1]? = some (.cells #[.slice X j d, .string c] 25 (0, 0))) ∧ Z0 (Below w.heap.size w wr))
  (fun i _ => n - (Go.RowKit.intOf i).toNat)
 case atStart => exact ⟨0, none, 0, by omega, rfl, ⟨Kd.R_nil _ _ _ _ _⟩, B0, B1, hb⟩
 clear B0 B1 hb
 obtain ⟨j, X, d, hj, rfl, HO, B0, B1, HB⟩ := hrel
 obtain ⟨q0, q1, f0, f1⟩ := b2 B1
 rcases Nat.lt_or_ge j n with h4 | h4
 · have c4 : decide ((j : Int) < n) = true := decide_eq_true (by omega)
   go_wp2_with ((with_reducible refine gate_builtin (b := .append) rfl ?_); refine apL (⟨#[48]⟩ : ByteArray) HO (below_size HB.out) (by simp; omega) rfl ht infoRat ?_; intro v1 w1 HO1 hb hg; replace B0 := Z0.mk ((hg.block _ (blk_lt B0.out) (Kd.R_ne HO.out B0.out (by decide))).trans B0.out); replace B1 := Z0.mk ((hg.block _ (blk_lt B1.out) (Kd.R_ne HO.out B1.out (by decide))).trans B1.out); replace HB := Z0.mk (HB.out.trans hb); obtain ⟨X1, d1, rfl, HO2⟩ := R_cut (m := j + 1) HO1 (by simp); clear q0 q1 f0 f1 HO HO1 hb hg; obtain ⟨q0, q1, f0, f1⟩ := b2 B1)
   exact ⟨⟨j + 1, X1, d1, by omega, by simp, ⟨Rstr_put1 (by rw [show zeros (j + 1) = zeros j ++ [⟨#[48]⟩] from List.replicate_succ']; exact HO2.out) B1.out _⟩, ⟨blk_far (p := ⟨w.heap.size + 1, 0, none⟩) B0.out (by show w.heap.size ≠ w.heap.size + 1; omega) _⟩, ⟨blk_put B1.out 0 _ rfl⟩, ⟨below_set HB.out (Nat.le_succ _)⟩⟩, by simp [Go.RowKit.intOf]; omega⟩
 obtain rfl : j = n := by omega
 obtain ⟨r0, r1, g0, g1⟩ := b2 B0
 go_wp2
 refine bodyPost_ret (results_cell_row rfl _ _ w.heap.size 25 #[.slice X j d, .string c] (0, 0) _ rfl (blk_put (blk_put B0.out 0 _ rfl) 1 _ rfl) hu rfl (by kernel_rfl)) rfl ?_
 exact ⟨X, d, rfl, Rstr_put HO.out B0.out _ _, below_set (below_set HB.out (Nat.le_refl _)) (Nat.le_refl _)⟩
instance : Ctr 67 (type_of% @flat_ok) := ⟨@flat_ok, _, Tryz.func67, by kernel_rfl, rfl⟩
section
variable {ops : Array Oper} {Q : Exit → Act → World → Prop} {rest : List Oper} {o : Oper} {a : Act} {W : World}
theorem gs_ (p : Tmp) {t : TypeId} {v : Operand} (_ho : o.op = .store t (.tmp p) v) (h : wpList Tryz.prog ops Q (o :: rest) a W) : wpList Tryz.prog ops Q (o :: rest) a W := h
theorem stS {base g n cap : Nat} {xs : List ByteArray} {t : TypeId} {p : Tmp} {vo : Operand} (i : Int) (x : ByteArray) (HO : Z0 (Kd.R Kd.string 23 W base (fun _ => True) (.slice (some ⟨g, 0, none⟩) n cap) xs)) (hop : o.op = .store t (.tmp p) vo)
  (K : ∀ w', Z0 (Kd.R Kd.string 23 w' base (fun _ => True) (.slice (some ⟨g, 0, none⟩) n cap) (xs.set i.toNat x)) → W.grownBy w' (some g) → Below base W w' → wpList Tryz.prog ops Q rest a w')
  (hN : o.dst = none := by rfl) (hg : o.guard = none := by rfl)
  (hr : (execOp a.eval o).run Tryz.prog W = .ok .skip (W.setCell ⟨g, i.toNat, none⟩ (.string x)) := by first | (go_simp; done) | (go_simp; rfl)) : wpList Tryz.prog ops Q (o :: rest) a W := by
  refine store_event hg hop hN hr fun w' e => ?_
  subst e
  have h := Kd.R_putg HO.out i x
  exact K _ ⟨h.1⟩ h.2 ((Below.refl base W).setCell (p := ⟨g, i.toNat, none⟩) (Kd.R_base HO.out g rfl) _)
end
theorem ownS {w : World} {base n cap : Nat} {ok : Nat → Prop} {xs : List ByteArray} {A : Option Addr} (HO : Z0 (Kd.R Kd.string 23 w base ok (.slice A n cap) xs)) (i : Int) (p : 0 ≤ i) (q : i < n) :
  ∃ g, A = some ⟨g, 0, none⟩ ∧ w.cell? ⟨g, i.toNat, none⟩ = some (.string (rdOf ByteArray.empty xs i)) ∧ w.frozen? ⟨g, i.toNat, none⟩ = false ∧ (0 ≤ i) = True ∧ (i < n) = True := by
  obtain ⟨hn, -, -⟩ := Kd.R_reads' HO.out
  obtain ⟨g, c, e, -⟩ := Kd.R_form HO.out (by omega)
  injection e with e _ _
  subst e
  obtain ⟨h1, h2⟩ := Kd.R_celln ByteArray.empty HO.out i p q
  exact ⟨g, rfl, h1, h2, eq_true p, eq_true q⟩
theorem Scale_ok (A : Option Addr) (n c' : Nat) (l : List ByteArray) (s c : ByteArray) (w : World) (hL : LaidW w) (hC : Z0 (Kd.string.C w A n l)) (hn : n = l.length) (hm : n ≤ 1000) (hO : ∀ s ∈ l, Okt s) (hs : Okt s) (hc : Okt c) :
  Calls Tryz.prog 29 #[.agg #[.slice A n c', .string s], .string c] w (LinR w w.heap.size (scaleS l s c)) := by
 have HB := Z0.mk (Below.refl w.heap.size w)
 have hu := Tryz.underlying25
 obtain ⟨y, hy⟩ : ∃ x, Z0 (chkL l s = x) := ⟨_, ⟨rfl⟩⟩
 obtain ⟨z, hz⟩ : ∃ x, Z0 (numC c = x) := ⟨_, ⟨rfl⟩⟩
 replace hn := Z0.mk hn
 go_enter Tryz.func29, Tryz.ntmps29
 go_upto_region 1 with (fail)
 refine al2 ?_
 intro W hb B0 B2
 replace HB := fB HB hb
 replace hC := Z0.mk (Kd.C_below hC.out hb)
 obtain ⟨p0, p1, -, -⟩ := b2 B0
 obtain ⟨r0, r1, f0, f1⟩ := b2 B2
 clear hb
 by_cases h0 : y = 0
 · subst h0
   by_cases h1 : z = 0
   · subst h1
     have hs' : Z0 (scaleS l s c = fin ((l.map rv).map (· * rv c)) (rv s * rv c)) := ⟨by unfold scaleS; rw [hy.out, hz.out, if_pos rfl, if_pos rfl]⟩
     obtain ⟨a1, qs, q, rfl, rfl, a2, a3⟩ := of_chkL hy.out
     obtain ⟨r, rfl, hr⟩ := of_numC hz.out
     rw [rv_map, rv_rtxt, rv_rtxt] at hs'
     have e5 : Z0 (n = qs.length) := ⟨by rw [hn.out, List.length_map]⟩
     have hm9 : n ≤ 900 := by have := hn.out; omega
     have e8 : Z0 (n = (qs.map (· * r)).length) := ⟨by rw [List.length_map]; exact e5.out⟩
     have e9 : ∀ p ∈ qs.map (· * r), ndR p ≤ 4096 := fun p hp => by
      obtain ⟨x, hx, rfl⟩ := List.mem_map.1 hp
      have := ndR_mul x r
      have := a2 x hx
      omega
     have e10 : ndR (q * r) ≤ 4096 := by have := ndR_mul q r; omega
     have e11 : ∀ p ∈ qs ++ [q], ndR p + ndR r + 1 ≤ 4096 := fun p hp => by
      rcases List.mem_append.1 hp with hp | hp
      · have := a2 p hp; omega
      · rw [List.mem_singleton.1 hp]; omega
     have e12 : qs.map (fun p => Sv.rtxt (p * r)) = (qs.map (· * r)).map Sv.rtxt := by rw [List.map_map]; rfl
     have T := fun (w : World) (hL : LaidW w) (hC : Z0 (Kd.string.C w A n (qs.map Sv.rtxt))) => times_ok A n c' qs q r w hL hC e5.out hm e11
     rw [e12] at T
     go_wp2_with (first
      | ((with_reducible refine gc_ 59 rfl ?_); refine gL 22 Tryz.func59 (T _ (hL.below HB.out) hC) ?_; rintro _ w2 ⟨X, d, rfl, hd, CX, hX, hb⟩; refine ⟨_, rfl, ?_⟩; replace hX := Z0.mk hX; replace CX := Z0.mk CX; have z2 := Z0.mk (blk_lt B2.out); replace B2 := fk B2 hb; replace HB := fB HB hb; clear hb p0 p1 r0 r1 f0 f1; obtain ⟨r0, r1, f0, f1⟩ := b2 B2)
      | ((with_reducible refine gc_ 60 rfl ?_); refine cX rfl ?_; rintro _ w3 ⟨Y, d', rfl, hd', CY, hY, hb⟩; refine ⟨_, rfl, ?_⟩; replace hY := Z0.mk hY; replace CY := Z0.mk CY; replace B2 := fk B2 hb; replace HB := fB HB hb; clear hb r0 r1 f0 f1; obtain ⟨r0, r1, f0, f1⟩ := b2 B2)
      | (refine cG rfl ?_; intro w' hb; replace B0 := fk B0 hb; replace B2 := fk B2 hb; replace HB := fB HB hb; replace hC := Z0.mk (Kd.C_below hC.out hb); clear hb p0 p1 r0 r1 f0 f1; obtain ⟨p0, p1, -, -⟩ := b2 B0; obtain ⟨r0, r1, f0, f1⟩ := b2 B2))
     refine bodyPost_ret (results_ct rfl _ _ (w.heap.size + 1) 25 #[.slice Y _ d', .string _] (0, 0) _ rfl (blk_put (blk_put B2.out 0 _ rfl) 1 _ rfl) hu rfl (by kernel_rfl)) rfl ?_
     rw [hs'.out]
     exact ⟨Y, d', rfl, hd', Cs_set2 CY.out hY.out z2.out _ _, hY.out.mono (by have := z2.out; omega), below_set (below_set HB.out (by omega)) (by omega)⟩
   · have hs' : Z0 (scaleS l s c = ([], ⟨#[]⟩, z)) := ⟨by unfold scaleS; rw [hy.out, hz.out, if_pos rfl, if_neg h1]⟩
     have h0' : (z != 0) = true := bne_iff_ne.mpr h1
     go_wp2_with (refine cG rfl ?_; intro w' hb; replace B2 := fk B2 hb; replace HB := fB HB hb; clear hb; (try clear p0 p1); clear r0 r1 f0 f1; obtain ⟨r0, r1, f0, f1⟩ := b2 B2)
     refine bodyPost_ret (results_ct rfl _ _ (w.heap.size + 1) 25 #[.slice none 0 0, .string ⟨#[]⟩] (0, 0) _ rfl (blk_put (blk_put B2.out 0 _ rfl) 1 _ rfl) hu rfl (by kernel_rfl)) rfl ?_
     rw [hs'.out]
     exact ⟨none, 0, rfl, Nat.le_refl _, C_nilS, Ab.none, below_set (below_set HB.out (by omega)) (by omega)⟩
 · have hs' : Z0 (scaleS l s c = ([], ⟨#[]⟩, y)) := ⟨by unfold scaleS; rw [hy.out, if_neg h0]⟩
   have h0' : (y != 0) = true := bne_iff_ne.mpr h0
   go_wp2_with (refine cG rfl ?_; intro w' hb; replace B2 := fk B2 hb; replace HB := fB HB hb; clear hb p0 p1 r0 r1 f0 f1; obtain ⟨r0, r1, f0, f1⟩ := b2 B2)
   refine bodyPost_ret (results_ct rfl _ _ (w.heap.size + 1) 25 #[.slice none 0 0, .string ⟨#[]⟩] (0, 0) _ rfl (blk_put (blk_put B2.out 0 _ rfl) 1 _ rfl) hu rfl (by kernel_rfl)) rfl ?_
   rw [hs'.out]
   exact ⟨none, 0, rfl, Nat.le_refl _, C_nilS, Ab.none, below_set (below_set HB.out (by omega)) (by omega)⟩
instance : Ctr 29 (type_of% @Scale_ok) := ⟨@Scale_ok, _, Tryz.func29, by kernel_rfl, rfl⟩
set_option linter.unusedVariables false
set_option linter.unusedSimpArgs false
open Go.RowKit Go.Shelf Go.Proofs.WWords Go.Proofs.WLast Go.Proofs.WMore
attribute [local go_sem] Oper.semAt_some
abbrev Ix (l : List ByteArray) := { i : Nat // i < l.length }
def tmL (l : List ByteArray) : Nat → List (Ix l)
 | 0 => []
 | k + 1 => if h : k < l.length then (if l[k] = ⟨#[48]⟩ then tmL l k else tmL l k ++ [⟨k, h⟩]) else tmL l k
theorem tmL_length (l : List ByteArray) (k : Nat) : (tmL l k).length ≤ k := by
 induction k with
 | zero => exact Nat.le_refl _
 | succ k ih =>
  unfold tmL
  split
  · split
    · omega
    · simp; omega
  · omega
theorem tmL_zero {l : List ByteArray} {k : Nat} (h : k < l.length) (e : l[k] = ⟨#[48]⟩) : tmL l (k + 1) = tmL l k := by
 conv => lhs; unfold tmL
 rw [dif_pos h, if_pos e]
theorem tmL_succ {l : List ByteArray} {k : Nat} (h : k < l.length) (e : l[k] ≠ ⟨#[48]⟩) : tmL l (k + 1) = tmL l k ++ [⟨k, h⟩] := by
 conv => lhs; unfold tmL
 rw [dif_pos h, if_neg e]
def encT (l : List ByteArray) (x : Ix l) : Array Value := #[.int .i64 (x.1 : Int), .string (l[x.1]'x.2)]
theorem terms1_in (n : Nat) (hn : 1 ≤ n) (lp Bs n₀ c : Nat) (A : Option Addr) (l : List ByteArray) (s : ByteArray) (hm : l.length ≤ 1000) (J Jx : List (Ix l) → World → Prop)
  (hY : ∀ pre x W, J pre W → pre.length < l.length → YieldAt Fence.wide (n - 1) Tryz.prog lp (encT l x) W fun e W' =>
   (e = .returned (.bool true) ∧ J (pre ++ [x]) W' ∧ KB n₀ Bs W W') ∨ (e = .returned (.bool false) ∧ Jx (pre ++ [x]) W'))
  (W : World) (hBs : W.heap[Bs]? = some (.cells #[.slice A l.length c, .string s] 25 (0, 0))) (hc : ∀ W', Below n₀ W W' → Kd.string.C W' A l.length l) (h0 : J [] W) :
  CallsIn Fence.wide n Tryz.prog 115 #[.func (.yield lp) #[] #[], .pointer (some ⟨Bs, 0, none⟩)] W fun e W' => (∃ v, e = .returned v) ∧
   ((∃ ys, ys = tmL l l.length ∧ J ys W') ∨ (∃ pre, (∃ k, k < l.length ∧ pre = tmL l (k + 1)) ∧ Jx pre W')) := by
 obtain ⟨p0, p1, -, -⟩ := b2 ⟨hBs⟩
 refine callsIn_of_wp Tryz.func115 rfl trivial ?_ rfl
 simp only [Tryz.ntmps115, List.size_toArray, List.length_cons, List.length_nil, Nat.reduceAdd, Nat.reduceSub, Array.replicate_succ, Array.replicate_zero, List.push_toArray, List.append_toArray, List.nil_append, List.cons_append]
 gi_wp2
 gi_loopw [8] (fun i wr => ∃ k : Nat, k ≤ l.length ∧ i = .int .i64 (k : Int) ∧ J (tmL l k) wr ∧ KB n₀ Bs W wr)
  (fun i _ => l.length - (Go.RowKit.intOf i).toNat)
 case atStart => exact ⟨0, Nat.zero_le _, rfl, h0, KB.refl _ _ _⟩
 case round =>
  obtain ⟨k, hk, rfl, hJs, hnx⟩ := hrel
  clear p0 p1
  by_cases hlt : k < l.length
  · obtain ⟨ad, rfl, hxx, x1, x2⟩ := asI (hc wr hnx.1) (k : Int) (by omega) (by omega)
    rw [Int.toNat_natCast] at hxx
    have hs : rdOf ByteArray.empty l (k : Int) = l[k] := by simp [rdOf, hlt]
    rw [hs] at hxx
    clear hs x1 x2
    by_cases hz : l[k] = ⟨#[48]⟩
    · have e1 : (l[k].toList != ([48] : List UInt8)) = false := by rw [ba_list _ _ hz]; rfl
      gi_wp2
      refine ⟨fun _ h => (by cases h), ?_⟩
      gi_wp2
      go_roundw
      case rel => exact ⟨k + 1, by omega, by simp, by rw [tmL_zero hlt hz]; exact hJs, hnx⟩
      case measure => simp [Go.RowKit.intOf]; omega
    · have e1 : (l[k].toList != ([48] : List UInt8)) = true := bne_iff_ne.mpr fun e => hz (ba_ext (by rw [← ByteArray.toList_eq, e]))
      have e2 : (l[k].toList == ([48] : List UInt8)) = false := by simpa [bne] using e1
      obtain ⟨fn, tmps, assign, body, hy, hR⟩ := hY _ ⟨k, hlt⟩ wr hJs (by have := tmL_length l k; omega)
      dsimp only [encT] at hy
      gi_wp2
      refine hR.mono ?_
      rintro e W3 (⟨rfl, hJ3, hk3⟩ | ⟨rfl, hJx3⟩)
      · gi_wp2
        go_roundw
        case rel => exact ⟨k + 1, by omega, by simp, by rw [tmL_succ hlt hz]; exact hJ3, hnx.trans hk3⟩
        case measure => simp [Go.RowKit.intOf]; omega
      · gi_wp2
        refine bodyPost_ret (results_none rfl _ _ _) rfl ?_
        exact ⟨⟨_, rfl⟩, .inr ⟨_, ⟨k, hlt, rfl⟩, by rw [tmL_succ hlt hz]; exact hJx3⟩⟩
  · obtain rfl : k = l.length := by omega
    gi_wp2
    go_end0
    exact ⟨⟨_, rfl⟩, .inl ⟨_, rfl, hJs⟩⟩
theorem terms_stops (n : Nat) (hn : 1 ≤ n) (Bs n₀ c : Nat) (A : Option Addr) (l : List ByteArray) (s : ByteArray) (hm : l.length ≤ 1000) (w : World)
  (hBs : w.heap[Bs]? = some (.cells #[.slice A l.length c, .string s] 25 (0, 0))) (hn₀ : n₀ ≤ w.heap.size) (hc : ∀ W', Below n₀ w W' → Kd.string.C W' A l.length l) :
  SeqStopsK Fence.wide n Tryz.prog 115 #[.pointer (some ⟨Bs, 0, none⟩)] (encT l) (KB n₀ Bs) (fun ys => ys = tmL l l.length) (fun pre => ∃ k, k < l.length ∧ pre = tmL l (k + 1)) l.length w := fun lp J Jx W hW _ _ hY h0 =>
 terms1_in n hn lp Bs n₀ c A l s hm J Jx hY W ((hW.block Bs (blk_lt hBs)).trans hBs) (fun W' hb => hc W' ((hW.mono hn₀).trans hb)) h0
set_option linter.unusedVariables false
set_option linter.unusedSimpArgs false
theorem terms_ok (A : Option Addr) (n c : Nat) (s : ByteArray) (w : World) :
  Calls Tryz.prog 68 #[.agg #[.slice A n c, .string s]] w fun e w' => e = .returned (.func (.func 115) #[] #[.pointer (some ⟨w.heap.size, 0, none⟩)]) ∧ w' = w.alloc (.cells #[.slice A n c, .string s] 25) := by
 have hu := Tryz.underlying25
 go_enter Tryz.func68, Tryz.ntmps68
 go_wp2
 go_ret
 exact ⟨rfl, rfl⟩
theorem own_cells {β : Type} (g t : Nat) (fr : Nat × Nat) (f : β → Array Value) : Own fun (s : β) W => W.heap[g]? = some (.cells (f s) t fr) := fun s A B row hs hg hr => by
 refine (hg.block _ (Array.getElem?_eq_some_iff.1 hs).1 (fun e => ?_)).trans hs
 obtain ⟨o, ho, hc⟩ := hr _ e.symm
 rw [hs] at ho
 cases ho
 cases hc
attribute [local go_sem] Oper.semAt_some
end Go.Proofs.YtihbebbabjklkaaGreatDoor.PA
