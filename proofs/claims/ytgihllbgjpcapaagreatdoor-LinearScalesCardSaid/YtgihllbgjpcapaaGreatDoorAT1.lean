import Derived.Test.YtgihllbgjpcapaaGreatDoorAG12
set_option maxHeartbeats 8000000
set_option maxRecDepth 100000
set_option linter.unusedVariables false
set_option linter.unusedVariables false
set_option linter.unusedSimpArgs false
namespace Go.Proofs.YtgihllbgjpcapaaGreatDoor.PA
open Go.RowKit Go.Shelf Go.Proofs.WWords Go.Proofs.WLast Go.Proofs.WMore
theorem LinScales_true (A0 : Option Addr) (c0 : Nat) (l0 : List ByteArray) (s0 s1 : ByteArray) (A2 : Option Addr) (c2 : Nat) (l2 : List ByteArray) (w : World) (hL : LaidW w) (w0 : l0.length ≤ c0) (C0 : Z0 (Kd.string.C w A0 l0.length l0)) (w2 : l2.length ≤ c2) (C2 : Z0 (Kd.string.C w A2 l2.length l2)) :
  Calls Tryz.prog 5 #[.agg #[.slice A0 l0.length c0, .string s0], .string s1, .slice A2 l2.length c2] w fun e w' => e = .returned (.bool true) ∧ Below w.heap.size w w' := by
 have HB := Z0.mk (Below.refl w.heap.size w)
 have hu := Tryz.underlying25
 obtain ⟨b0, hb0⟩ : ∃ b, Z0 (fewB l0 s0 = b) := ⟨_, ⟨rfl⟩⟩
 obtain ⟨b1, hb1⟩ : ∃ b, Z0 (decide (s1.size ≤ 450) = b) := ⟨_, ⟨rfl⟩⟩
 obtain ⟨b2', hb2⟩ : ∃ b, Z0 (fewB l2 ⟨#[]⟩ = b) := ⟨_, ⟨rfl⟩⟩
 go_enter Tryz.func5, Tryz.ntmps5
 go_upto_region 1 with (fail)
 refine al1 ?_
 intro W hb B0
 replace C0 := Z0.mk (Kd.C_below C0.out hb)
 replace C2 := Z0.mk (Kd.C_below C2.out hb)
 replace HB := fB HB hb
 clear hb
 obtain ⟨p0, p1, -, -⟩ := b2 B0
 cases b0 with
 | false =>
  go_wp2_with (refine cG rfl ?_; intro w' hb; replace HB := fB HB hb; clear hb)
  go_ret
  exact ⟨rfl, HB.out⟩
 | true =>
 cases b1 with
 | false =>
  go_wp2_with (first
   | (go_at_call 15; refine (FewText_ok s1 _ _ hb1).mono ?_; rintro _ w' ⟨rfl, hb⟩; replace HB := fB HB hb; clear hb)
   | (refine cG rfl ?_; intro w' hb; replace HB := fB HB hb; clear hb))
  go_ret
  exact ⟨rfl, HB.out⟩
 | true =>
 cases b2' with
 | false =>
  go_wp2_with (first
   | (go_at_call 15; refine (FewText_ok s1 _ _ hb1).mono ?_; rintro _ w' ⟨rfl, hb⟩; replace C2 := Z0.mk (Kd.C_below C2.out hb); replace HB := fB HB hb; clear hb)
   | (go_at_call 16; refine (FewRats_ok A2 l2.length c2 l2 _ _ C2 rfl hb2).mono ?_; rintro _ w' ⟨rfl, hb⟩; replace C2 := Z0.mk (Kd.C_below C2.out hb); replace HB := fB HB hb; clear hb)
   | (refine cG rfl ?_; intro w' hb; replace C2 := Z0.mk (Kd.C_below C2.out hb); replace HB := fB HB hb; clear hb))
  go_ret
  exact ⟨rfl, HB.out⟩
 | true =>
  obtain ⟨a1, a2, a3⟩ := of_fewB hb0.out
  obtain ⟨a4, a5, a6⟩ := of_fewB hb2.out
  have a7 := of_decide_eq_true hb1.out
  have o1 : ∀ x ∈ l0, Okt x := fun x hx => Okt.of (by have := a3 x hx; omega)
  have o2 : ∀ x ∈ l2, Okt x := fun x hx => Okt.of (by have := a6 x hx; omega)
  have o3 : Okt s0 := Okt.of (by omega)
  have o4 : Okt s1 := Okt.of (by omega)
  have r1 : ∀ x ∈ l0, x.size ≤ 10000000000 := fun x hx => by have := a3 x hx; omega
  have r2 : ∀ x ∈ l2, x.size ≤ 10000000000 := fun x hx => by have := a6 x hx; omega
  have r3 : s0.size ≤ 10000000000 := by omega
  have r4 : s1.size ≤ 10000000000 := by omega
  have m1 : l0.length ≤ 1000 := by omega
  have m2 : l2.length ≤ 1000 := by omega
  obtain ⟨l, s, z, h1⟩ := trip3 (scaleS l0 s0 s1)
  have e1 := scaleS_len l0 s0 s1
  rw [h1] at e1
  have e1 : l.length ≤ 32 := e1
  obtain ⟨v, y, h2⟩ : ∃ v y, evalS l0 s0 l2 = (v, y) := ⟨_, _, rfl⟩
  replace h1 := Z0.mk h1
  replace h2 := Z0.mk h2
  clear a1 a2 a3 a4 a5 a6 a7
  go_upto_region 3 with (first
   | (go_at_call 15; refine (FewText_ok s1 _ _ hb1).mono ?_; rintro _ w' ⟨rfl, hb⟩; replace B0 := fk B0 hb; replace C0 := Z0.mk (Kd.C_below C0.out hb); replace C2 := Z0.mk (Kd.C_below C2.out hb); replace HB := fB HB hb; clear hb p0 p1; obtain ⟨p0, p1, -, -⟩ := b2 B0)
   | (go_at_call 16; refine (FewRats_ok A2 l2.length c2 l2 _ _ C2 rfl hb2).mono ?_; rintro _ w' ⟨rfl, hb⟩; replace B0 := fk B0 hb; replace C0 := Z0.mk (Kd.C_below C0.out hb); replace C2 := Z0.mk (Kd.C_below C2.out hb); replace HB := fB HB hb; clear hb p0 p1; obtain ⟨p0, p1, -, -⟩ := b2 B0)
   | (refine cG rfl ?_; intro w' hb; replace B0 := fk B0 hb; replace C0 := Z0.mk (Kd.C_below C0.out hb); replace C2 := Z0.mk (Kd.C_below C2.out hb); replace HB := fB HB hb; clear hb p0 p1; obtain ⟨p0, p1, -, -⟩ := b2 B0))
  go_upto_region 4 with (first
   | ((with_reducible refine gc_ 17 rfl ?_); refine gL 32 Tryz.func17 ((Scale_ok A0 l0.length c0 l0 s0 s1 _ (hL.below HB.out) C0 rfl m1 o1 o3 o4).mono fun e w' h => h.v h1.out rfl) ?_; rintro _ w7 ⟨X7, d7, rfl, hd7, C7, hb⟩; refine ⟨_, rfl, ?_⟩; replace C7 := Z0.mk C7; replace B0 := fk B0 hb; replace C0 := Z0.mk (Kd.C_below C0.out hb); replace C2 := Z0.mk (Kd.C_below C2.out hb); replace HB := fB HB hb; clear hb p0 p1)
   | ((with_reducible refine gd_ 7 rfl ?_); refine newL (.slice none 0 0) (.string ⟨#[]⟩) (.slice X7 l.length d7) (.string s) ?_; intro g7 w7b hg7 B7 hb; replace B7 := Z0.mk B7; replace B0 := fk B0 hb; replace C0 := Z0.mk (Kd.C_below C0.out hb); replace C2 := Z0.mk (Kd.C_below C2.out hb); replace C7 := Z0.mk (Kd.C_below C7.out hb); replace HB := fB HB hb; clear hb hg7))
  obtain ⟨p0, p1, -, -⟩ := b2 B0
  go_upto_region 5 with (first
   | ((with_reducible refine gc_ 18 rfl ?_); refine gL 38 Tryz.func18 ((refScale_ok A0 l0.length c0 l0 s0 s1 _ C0 rfl r1 r3 r4).mono fun e w' h => h.v h1.out rfl) ?_; rintro _ w9 ⟨X9, d9, rfl, hd9, C9, hb⟩; refine ⟨_, rfl, ?_⟩; replace C9 := Z0.mk C9; replace B0 := fk B0 hb; replace B7 := fk B7 hb; replace C0 := Z0.mk (Kd.C_below C0.out hb); replace C2 := Z0.mk (Kd.C_below C2.out hb); replace C7 := Z0.mk (Kd.C_below C7.out hb); replace HB := fB HB hb; clear hb p0 p1)
   | ((with_reducible refine gd_ 9 rfl ?_); refine newL (.slice none 0 0) (.string ⟨#[]⟩) (.slice X9 l.length d9) (.string s) ?_; intro g9 w9b hg9 B9 hb; replace B9 := Z0.mk B9; replace B0 := fk B0 hb; replace B7 := fk B7 hb; replace C0 := Z0.mk (Kd.C_below C0.out hb); replace C2 := Z0.mk (Kd.C_below C2.out hb); replace C7 := Z0.mk (Kd.C_below C7.out hb); replace C9 := Z0.mk (Kd.C_below C9.out hb); replace HB := fB HB hb; clear hb hg9))
  obtain ⟨p0, p1, -, -⟩ := b2 B0
  go_upto_region 6 with ((with_reducible refine gc_ 19 rfl ?_); refine gL 44 Tryz.func19 (Eval_ok A0 A2 l0.length c0 l2.length c2 l0 l2 s0 _ (hL.below HB.out) C0 C2 rfl rfl m1 m2 o1 o2 o3) ?_; rw [h2.out]; rintro _ w' ⟨rfl, hb⟩; refine ⟨_, rfl, ?_⟩; replace B0 := fk B0 hb; replace B7 := fk B7 hb; replace B9 := fk B9 hb; replace C0 := Z0.mk (Kd.C_below C0.out hb); replace C2 := Z0.mk (Kd.C_below C2.out hb); replace C7 := Z0.mk (Kd.C_below C7.out hb); replace C9 := Z0.mk (Kd.C_below C9.out hb); replace HB := fB HB hb; clear hb p0 p1)
  obtain ⟨p0, p1, -, -⟩ := b2 B0
  go_upto_region 7 with ((with_reducible refine gc_ 20 rfl ?_); refine gL 50 Tryz.func20 (refEval_ok A0 A2 l0.length c0 l2.length c2 l0 l2 s0 _ C0 C2 rfl rfl r1 r3 r2) ?_; rw [h2.out]; rintro _ w' ⟨rfl, hb⟩; refine ⟨_, rfl, ?_⟩; replace B0 := fk B0 hb; replace B7 := fk B7 hb; replace B9 := fk B9 hb; replace C0 := Z0.mk (Kd.C_below C0.out hb); replace C2 := Z0.mk (Kd.C_below C2.out hb); replace C7 := Z0.mk (Kd.C_below C7.out hb); replace C9 := Z0.mk (Kd.C_below C9.out hb); replace HB := fB HB hb; clear hb p0 p1)
  obtain ⟨p0, p1, -, -⟩ := b2 B7
  obtain ⟨q0, q1, -, -⟩ := b2 B9
  have z11 : (z == z) = true := beq_self_eq_true _
  have z22 : (y == y) = true := beq_self_eq_true _
  go_wp2_with (first
   | ((with_reducible refine gd_ 55 rfl ?_); refine gL 55 Tryz.func12 (Same_ok X7 X9 l.length l.length d7 d9 l s _ C7 C9 rfl rfl (by omega)) ?_; rintro _ w' ⟨rfl, hb⟩; refine ⟨_, rfl, ?_⟩; replace HB := fB HB hb; clear hb p0 p1 q0 q1)
   | (go_at_call 9; refine (lawake_ok _ (hL.below HB.out)).mono ?_; rintro _ w' ⟨rfl, hb⟩; replace HB := fB HB hb; clear hb))
  go_ret
  exact ⟨rfl, HB.out⟩
end Go.Proofs.YtgihllbgjpcapaaGreatDoor.PA
