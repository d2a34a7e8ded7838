import Derived.Test.YtgihllbgjpcapaaGreatDoorAG12
set_option maxHeartbeats 8000000
set_option maxRecDepth 100000
set_option linter.unusedVariables false
set_option linter.unusedVariables false
set_option linter.unusedSimpArgs false
namespace Go.Proofs.YtgihllbgjpcapaaGreatDoor.PA
open Go.RowKit Go.Shelf Go.Proofs.WWords Go.Proofs.WLast Go.Proofs.WMore
theorem LinSums_true (A0 : Option Addr) (c0 : Nat) (l0 : List ByteArray) (s0 : ByteArray) (A2 : Option Addr) (c2 : Nat) (l2 : List ByteArray) (s2 : ByteArray) (w : World) (hL : LaidW w) (w0 : l0.length ≤ c0) (C0 : Z0 (Kd.string.C w A0 l0.length l0)) (w2 : l2.length ≤ c2) (C2 : Z0 (Kd.string.C w A2 l2.length l2)) :
  Calls Tryz.prog 6 #[.agg #[.slice A0 l0.length c0, .string s0], .agg #[.slice A2 l2.length c2, .string s2]] w fun e w' => e = .returned (.bool true) ∧ Below w.heap.size w w' := by
 have HB := Z0.mk (Below.refl w.heap.size w)
 have hu := Tryz.underlying25
 obtain ⟨b0, hb0⟩ : ∃ b, Z0 (fewB l0 s0 = b) := ⟨_, ⟨rfl⟩⟩
 obtain ⟨b2', hb2⟩ : ∃ b, Z0 (fewB l2 s2 = b) := ⟨_, ⟨rfl⟩⟩
 go_enter Tryz.func6, Tryz.ntmps6
 go_upto_region 1 with (fail)
 refine al2 ?_
 intro W hb B0 B2
 replace C0 := Z0.mk (Kd.C_below C0.out hb)
 replace C2 := Z0.mk (Kd.C_below C2.out hb)
 replace HB := fB HB hb
 clear hb
 obtain ⟨p0, p1, -, -⟩ := b2 B0
 obtain ⟨q0, q1, -, -⟩ := b2 B2
 cases b0 with
 | false =>
  go_wp2_with (refine cG rfl ?_; intro w' hb; replace HB := fB HB hb; clear hb)
  go_ret
  exact ⟨rfl, HB.out⟩
 | true =>
 cases b2' with
 | false =>
  go_wp2_with (first
   | (go_at_call 8; refine (Few_ok A2 l2.length c2 l2 s2 _ _ C2 rfl hb2).mono ?_; rintro _ w' ⟨rfl, hb⟩; replace B2 := fk B2 hb; replace C2 := Z0.mk (Kd.C_below C2.out hb); replace HB := fB HB hb; clear hb)
   | (refine cG rfl ?_; intro w' hb; replace B2 := fk B2 hb; replace C2 := Z0.mk (Kd.C_below C2.out hb); replace HB := fB HB hb; (try clear q0 q1); obtain ⟨q0, q1, -, -⟩ := b2 B2; clear hb))
  go_ret
  exact ⟨rfl, HB.out⟩
 | true =>
  obtain ⟨a1, a2, a3⟩ := of_fewB hb0.out
  obtain ⟨a4, a5, a6⟩ := of_fewB hb2.out
  have o1 : ∀ x ∈ l0, Okt x := fun x hx => Okt.of (by have := a3 x hx; omega)
  have o2 : ∀ x ∈ l2, Okt x := fun x hx => Okt.of (by have := a6 x hx; omega)
  have o3 : Okt s0 := Okt.of (by omega)
  have o4 : Okt s2 := Okt.of (by omega)
  have r1 : ∀ x ∈ l0, x.size ≤ 10000000000 := fun x hx => by have := a3 x hx; omega
  have r2 : ∀ x ∈ l2, x.size ≤ 10000000000 := fun x hx => by have := a6 x hx; omega
  have r3 : s0.size ≤ 10000000000 := by omega
  have r4 : s2.size ≤ 10000000000 := by omega
  have m1 : l0.length ≤ 1000 := by omega
  have m2 : l2.length ≤ 1000 := by omega
  obtain ⟨l, s, z, h1⟩ := trip3 (addS l0 s0 l2 s2)
  have e1 := addS_len l0 s0 l2 s2
  rw [h1] at e1
  have e1 : l.length ≤ 32 := e1
  obtain ⟨lj, sj, tj, zj, h2⟩ : ∃ l s t z, intS l0 s0 = (l, s, t, z) := ⟨_, _, _, _, rfl⟩
  have e2 := intS_len l0 s0
  rw [h2] at e2
  have e2 : lj.length ≤ 32 := e2
  obtain ⟨vm, vz, h3⟩ : ∃ a b, varsM l0 s0 = (a, b) := ⟨_, _, rfl⟩
  obtain ⟨x, hx⟩ : ∃ x, Z0 (chkL l0 s0 = x) := ⟨_, ⟨rfl⟩⟩
  replace h1 := Z0.mk h1
  replace h2 := Z0.mk h2
  replace h3 := Z0.mk h3
  clear a1 a2 a3 a4 a5 a6
  go_upto_region 3 with (first
   | (go_at_call 8; refine (Few_ok A2 l2.length c2 l2 s2 _ _ C2 rfl hb2).mono ?_; rintro _ w' ⟨rfl, hb⟩; replace B0 := fk B0 hb; replace C0 := Z0.mk (Kd.C_below C0.out hb); replace B2 := fk B2 hb; replace C2 := Z0.mk (Kd.C_below C2.out hb); replace HB := fB HB hb; clear hb p0 p1 q0 q1; obtain ⟨p0, p1, -, -⟩ := b2 B0; obtain ⟨q0, q1, -, -⟩ := b2 B2)
   | (refine cG rfl ?_; intro w' hb; replace B0 := fk B0 hb; replace C0 := Z0.mk (Kd.C_below C0.out hb); replace B2 := fk B2 hb; replace C2 := Z0.mk (Kd.C_below C2.out hb); replace HB := fB HB hb; clear hb p0 p1 q0 q1; obtain ⟨p0, p1, -, -⟩ := b2 B0; obtain ⟨q0, q1, -, -⟩ := b2 B2))
  go_upto_region 4 with (first
   | ((with_reducible refine gc_ 21 rfl ?_); refine gL 33 Tryz.func21 ((Add_ok A0 A2 l0.length c0 l2.length c2 l0 l2 s0 s2 _ (hL.below HB.out) C0 C2 rfl rfl m1 m2 o1 o2 o3 o4).mono fun e w' h => h.v h1.out rfl) ?_; rintro _ w5 ⟨X5, d5, rfl, hd5, C5, hb⟩; refine ⟨_, rfl, ?_⟩; replace C5 := Z0.mk C5; replace B0 := fk B0 hb; replace B2 := fk B2 hb; replace C0 := Z0.mk (Kd.C_below C0.out hb); replace C2 := Z0.mk (Kd.C_below C2.out hb); replace HB := fB HB hb; clear hb p0 p1 q0 q1)
   | ((with_reducible refine gd_ 5 rfl ?_); refine newL (.slice none 0 0) (.string ⟨#[]⟩) (.slice X5 l.length d5) (.string s) ?_; intro g5 w5b hg5 B5 hb; replace B5 := Z0.mk B5; replace B0 := fk B0 hb; replace B2 := fk B2 hb; replace C0 := Z0.mk (Kd.C_below C0.out hb); replace C2 := Z0.mk (Kd.C_below C2.out hb); replace C5 := Z0.mk (Kd.C_below C5.out hb); replace HB := fB HB hb; clear hb hg5))
  obtain ⟨p0, p1, -, -⟩ := b2 B0
  obtain ⟨q0, q1, -, -⟩ := b2 B2
  go_upto_region 5 with (first
   | ((with_reducible refine gc_ 22 rfl ?_); refine gL 39 Tryz.func22 ((refAdd_ok A0 A2 l0.length c0 l2.length c2 l0 l2 s0 s2 _ C0 C2 rfl rfl r1 r2 r3 r4).mono fun e w' h => h.v h1.out rfl) ?_; rintro _ w7 ⟨X7, d7, rfl, hd7, C7, hb⟩; refine ⟨_, rfl, ?_⟩; replace C7 := Z0.mk C7; replace B0 := fk B0 hb; replace B2 := fk B2 hb; replace B5 := fk B5 hb; replace C0 := Z0.mk (Kd.C_below C0.out hb); replace C2 := Z0.mk (Kd.C_below C2.out hb); replace C5 := Z0.mk (Kd.C_below C5.out hb); replace HB := fB HB hb; clear hb p0 p1 q0 q1)
   | ((with_reducible refine gd_ 7 rfl ?_); refine newL (.slice none 0 0) (.string ⟨#[]⟩) (.slice X7 l.length d7) (.string s) ?_; intro g7 w7b hg7 B7 hb; replace B7 := Z0.mk B7; replace B0 := fk B0 hb; replace B2 := fk B2 hb; replace B5 := fk B5 hb; replace C0 := Z0.mk (Kd.C_below C0.out hb); replace C2 := Z0.mk (Kd.C_below C2.out hb); replace C5 := Z0.mk (Kd.C_below C5.out hb); replace C7 := Z0.mk (Kd.C_below C7.out hb); replace HB := fB HB hb; clear hb hg7))
  clear B2 C2
  obtain ⟨p0, p1, -, -⟩ := b2 B0
  go_upto_region 6 with ((with_reducible refine gc_ 23 rfl ?_); refine gL 44 Tryz.func23 ((Integral_ok A0 l0.length c0 l0 s0 _ (hL.below HB.out) C0 rfl m1 w0 o1 o3).mono fun e w' h => h.v h2.out rfl) ?_; rintro _ w9 ⟨X9, d9, rfl, hd9, C9, hb⟩; refine ⟨_, rfl, ?_⟩; replace C9 := Z0.mk C9; replace B0 := fk B0 hb; replace B5 := fk B5 hb; replace B7 := fk B7 hb; replace C0 := Z0.mk (Kd.C_below C0.out hb); replace C5 := Z0.mk (Kd.C_below C5.out hb); replace C7 := Z0.mk (Kd.C_below C7.out hb); replace HB := fB HB hb; clear hb p0 p1)
  obtain ⟨p0, p1, -, -⟩ := b2 B0
  go_upto_region 7 with ((with_reducible refine gc_ 24 rfl ?_); refine gL 51 Tryz.func24 ((refIntegral_ok A0 l0.length c0 l0 s0 _ C0 rfl r1 r3).mono fun e w' h => h.v h2.out rfl) ?_; rintro _ w10 ⟨X13, d13, rfl, hd13, C13, hb⟩; refine ⟨_, rfl, ?_⟩; replace C13 := Z0.mk C13; replace B0 := fk B0 hb; replace B5 := fk B5 hb; replace B7 := fk B7 hb; replace C0 := Z0.mk (Kd.C_below C0.out hb); replace C5 := Z0.mk (Kd.C_below C5.out hb); replace C7 := Z0.mk (Kd.C_below C7.out hb); replace C9 := Z0.mk (Kd.C_below C9.out hb); replace HB := fB HB hb; clear hb p0 p1)
  obtain ⟨p0, p1, -, -⟩ := b2 B0
  go_upto_region 8 with ((with_reducible refine gc_ 25 rfl ?_); refine gL 58 Tryz.func25 (Vars_ok A0 l0.length c0 l0 s0 _ (hL.below HB.out) C0 rfl m1 o1 o3) ?_; rw [h3.out]; rintro _ w11 ⟨rfl, hb⟩; refine ⟨_, rfl, ?_⟩; replace B0 := fk B0 hb; replace B5 := fk B5 hb; replace B7 := fk B7 hb; replace C0 := Z0.mk (Kd.C_below C0.out hb); replace C5 := Z0.mk (Kd.C_below C5.out hb); replace C7 := Z0.mk (Kd.C_below C7.out hb); replace C9 := Z0.mk (Kd.C_below C9.out hb); replace C13 := Z0.mk (Kd.C_below C13.out hb); replace HB := fB HB hb; clear hb p0 p1)
  obtain ⟨p0, p1, -, -⟩ := b2 B0
  go_upto_region 9 with ((with_reducible refine gc_ 26 rfl ?_); refine gL 63 Tryz.func26 (refVars_ok A0 l0.length c0 l0 s0 _ C0 rfl r1 r3) ?_; rw [h3.out]; rintro _ w12 ⟨rfl, hb⟩; refine ⟨_, rfl, ?_⟩; replace B0 := fk B0 hb; replace B5 := fk B5 hb; replace B7 := fk B7 hb; replace C0 := Z0.mk (Kd.C_below C0.out hb); replace C5 := Z0.mk (Kd.C_below C5.out hb); replace C7 := Z0.mk (Kd.C_below C7.out hb); replace C9 := Z0.mk (Kd.C_below C9.out hb); replace C13 := Z0.mk (Kd.C_below C13.out hb); replace HB := fB HB hb; clear hb p0 p1)
  obtain ⟨NN, hNN⟩ : ∃ NN : World → Prop, Z0 (NN = fun u => Below w.heap.size w u ∧ u.heap[w.heap.size]? = some (.cells #[.slice A0 l0.length c0, .string s0] 25 (0, 0)) ∧ u.heap[g5]? = some (.cells #[.slice X5 l.length d5, .string s] 25 (0, 0)) ∧ u.heap[g7]? = some (.cells #[.slice X7 l.length d7, .string s] 25 (0, 0)) ∧ Kd.string.C u A0 l0.length l0 ∧ Kd.string.C u X5 l.length l ∧ Kd.string.C u X7 l.length l ∧ Kd.string.C u X9 lj.length lj ∧ Kd.string.C u X13 lj.length lj) := ⟨_, ⟨rfl⟩⟩
  have hN0 : NN w12 := by rw [hNN.out]; exact ⟨HB.out, B0.out, B5.out, B7.out, C0.out, C5.out, C7.out, C9.out, C13.out⟩
  have hNon : ∀ u u', NN u → Below u.heap.size u u' → NN u' := fun u u' h hb => by
   rw [hNN.out] at h ⊢
   obtain ⟨h1, h2, h3, h4, h6, h7, h8, h9, h10⟩ := h
   exact ⟨below_step h1 hb, blk_below h2 hb, blk_below h3 hb, blk_below h4 hb, Kd.C_below h6 hb, Kd.C_below h7 hb, Kd.C_below h8 hb, Kd.C_below h9 hb, Kd.C_below h10 hb⟩
  have hNw : ∀ u, NN u → Below w.heap.size w u := fun u h => by rw [hNN.out] at h; exact h.1
  clear B0 B5 B7 C0 C5 C7 C9 C13 HB
  obtain ⟨S_, hS_⟩ : ∃ S_ : World → Prop, Z0 (S_ = fun u => u.cell? ⟨w.heap.size, 0, none⟩ = some (.slice A0 l0.length c0) ∧ u.cell? ⟨w.heap.size, 1, none⟩ = some (.string s0) ∧ u.cell? ⟨g5, 0, none⟩ = some (.slice X5 l.length d5) ∧ u.cell? ⟨g5, 1, none⟩ = some (.string s) ∧ u.cell? ⟨g7, 0, none⟩ = some (.slice X7 l.length d7) ∧ u.cell? ⟨g7, 1, none⟩ = some (.string s)) := ⟨_, ⟨rfl⟩⟩
  have hNS : ∀ u, NN u → S_ u := fun u h => by
   rw [hNN.out] at h
   obtain ⟨h1, h2, h3, h4, h6, h7, h8, h9, h10⟩ := h
   rw [hS_.out]
   exact ⟨(b2 ⟨h2⟩).1, (b2 ⟨h2⟩).2.1, (b2 ⟨h3⟩).1, (b2 ⟨h3⟩).2.1, (b2 ⟨h4⟩).1, (b2 ⟨h4⟩).2.1⟩
  have z11 : (x != x) = false := bne_self_eq_false _
  have z12 : (z != z) = false := bne_self_eq_false _
  have z13 : (vm != vm) = false := bne_self_eq_false _
  have z14 : (vz != vz) = false := bne_self_eq_false _
  have hN0' := hNon _ _ hN0 (Below.refl _ _).drew
  refine start_ (n := 26) (S := S_) (ds := []) _ (by kernel_rfl) rfl rfl (hNS _ hN0') (fun _ => ?_)
  replace hN0 := hN0'
  clear hN0'
  generalize w12.drew = V0 at *
  refine tk 0 66 (v := .agg #[.slice A0 l0.length c0, .string s0]) (hNS _ hN0) ?_ (hy := by refine Or.inl ⟨by rfl, ?_⟩; intro w' hs; rw [hS_.out] at hs; obtain ⟨h0, h1, h2, h3, h4, h5⟩ := hs; go_simp; try with_reducible rfl)
  refine tk 2 68 (v := .agg #[.slice A0 l0.length c0, .string s0]) (hNS _ hN0) ?_ (hy := by refine Or.inl ⟨by rfl, ?_⟩; intro w' hs; rw [hS_.out] at hs; obtain ⟨h0, h1, h2, h3, h4, h5⟩ := hs; go_simp; try with_reducible rfl)
  refine cl 1 67 ⟨_, Tryz.func27, by kernel_rfl, rfl⟩ (lCheck_ok A0 l0.length c0 l0 s0 x _ (hL.below (hNw _ hN0)) ⟨(by rw [hNN.out] at hN0; exact hN0.2.2.2.2.1)⟩ rfl m1 o1 o3 hx) ?_ (hd := by simp)
  rintro _ V1 ⟨rfl, hb⟩
  replace hN0 := hNon _ _ hN0 hb
  refine ⟨_, rfl, hNS _ hN0, _, (by (simp only [Act.put, List.setIfInBounds_toArray, List.set_cons_zero, List.set_cons_succ]); rfl), ?_⟩
  clear hb
  refine cl 3 69 ⟨_, Tryz.func28, by kernel_rfl, rfl⟩ (refCheck_ok A0 l0.length c0 l0 s0 x _ ⟨(by rw [hNN.out] at hN0; exact hN0.2.2.2.2.1)⟩ rfl r1 r3 hx) ?_ (hd := by simp)
  rintro _ V2 ⟨rfl, hb⟩
  replace hN0 := hNon _ _ hN0 hb
  refine ⟨_, rfl, hNS _ hN0, _, (by (simp only [Act.put, List.setIfInBounds_toArray, List.set_cons_zero, List.set_cons_succ]); rfl), ?_⟩
  clear hb
  refine tp 4 70 ?_
  refine tp 5 71 ?_
  refine tk 6 72 (v := .agg #[.slice X5 l.length d5, .string s]) (hNS _ hN0) ?_ (hy := by refine Or.inl ⟨by rfl, ?_⟩; intro w' hs; rw [hS_.out] at hs; obtain ⟨h0, h1, h2, h3, h4, h5⟩ := hs; go_simp; try with_reducible rfl)
  refine tk 7 73 (v := .agg #[.slice X7 l.length d7, .string s]) (hNS _ hN0) ?_ (hy := by refine Or.inl ⟨by rfl, ?_⟩; intro w' hs; rw [hS_.out] at hs; obtain ⟨h0, h1, h2, h3, h4, h5⟩ := hs; go_simp; try with_reducible rfl)
  refine cl 8 74 ⟨_, Tryz.func12, by kernel_rfl, rfl⟩ (Same_ok X5 X7 l.length l.length d5 d7 l s _ ⟨(by rw [hNN.out] at hN0; exact hN0.2.2.2.2.2.1)⟩ ⟨(by rw [hNN.out] at hN0; exact hN0.2.2.2.2.2.2.1)⟩ rfl rfl (by omega)) ?_ (hd := by simp)
  rintro _ V3 ⟨rfl, hb⟩
  replace hN0 := hNon _ _ hN0 hb
  refine ⟨_, rfl, hNS _ hN0, _, (by (simp only [Act.put, List.setIfInBounds_toArray, List.set_cons_zero, List.set_cons_succ]); rfl), ?_⟩
  clear hb
  refine tp 9 75 ?_
  refine tp 10 76 ?_
  refine tp 11 77 ?_
  refine tp 12 78 ?_
  refine tp 13 79 ?_
  refine tp 14 80 ?_
  refine tp 15 81 ?_
  refine tp 16 82 ?_
  refine tp 17 83 ?_
  refine tp 18 84 ?_
  refine tp 19 85 ?_
  refine tp 20 86 ?_
  refine tp 21 87 ?_
  refine tp 22 88 ?_
  refine tp 23 89 ?_
  refine tp 24 90 ?_
  refine tp 25 91 ?_
  refine done_ (by kernel_rfl) ?_
  rw [hNN.out] at hN0
  replace HB := Z0.mk hN0.1
  have C9 := Z0.mk hN0.2.2.2.2.2.2.2.1
  have C13 := Z0.mk hN0.2.2.2.2.2.2.2.2
  clear hNS hNon hN0 hNw
  have z15 : (zj == zj) = true := beq_self_eq_true _
  have z16 : (sj.toList == sj.toList) = true := beq_self_eq_true _
  have z17 : (tj.toList == tj.toList) = true := beq_self_eq_true _
  go_wp2_with (first
   | ((with_reducible refine gd_ 94 rfl ?_); refine gL 94 Tryz.func29 (SameInts_ok X9 X13 lj.length lj.length d9 d13 lj _ C9 C13 rfl rfl (by omega)) ?_; rintro _ w' ⟨rfl, hb⟩; refine ⟨_, rfl, ?_⟩; replace HB := fB HB hb; clear hb)
   | (go_at_call 9; refine (lawake_ok _ (hL.below HB.out)).mono ?_; rintro _ w' ⟨rfl, hb⟩; replace HB := fB HB hb; clear hb))
  go_ret
  exact ⟨rfl, HB.out⟩
end Go.Proofs.YtgihllbgjpcapaaGreatDoor.PA
