import Derived.Test.YtgihllbgjpcapaaGreatDoorAG12
set_option maxHeartbeats 8000000
set_option maxRecDepth 100000
set_option linter.unusedVariables false
set_option linter.unusedVariables false
set_option linter.unusedSimpArgs false
namespace Go.Proofs.YtgihllbgjpcapaaGreatDoor.PA
open Go.RowKit Go.Shelf Go.Proofs.WWords Go.Proofs.WLast Go.Proofs.WMore
theorem LinMakes_true (n i : Int) (c : ByteArray) (w : World) (hL : LaidW w) :
  Calls Tryz.prog 7 #[.int .i64 n, .int .i64 i, .string c] w fun e w' => e = .returned (.bool true) ∧ Below w.heap.size w w' := by
 have HB := Z0.mk (Below.refl w.heap.size w)
 have hu := Tryz.underlying25
 obtain ⟨b, hb⟩ : ∃ b, Z0 (decide (c.size ≤ 450) = b) := ⟨_, ⟨rfl⟩⟩
 go_enter Tryz.func7, Tryz.ntmps7
 cases b with
 | false =>
  go_wp2_with (refine cG rfl ?_; intro w' hb; replace HB := fB HB hb; clear hb)
  go_ret
  exact ⟨rfl, HB.out⟩
 | true =>
  have hs := of_decide_eq_true hb.out
  have hO : Okt c := Okt.of (by omega)
  obtain ⟨l1, s1, z1, h1⟩ := trip3 (constS n c)
  obtain ⟨l2, s2, z2, h2⟩ := trip3 (varS n i)
  have e1 := constS_len n c
  have e2 := varS_len n i
  rw [h1] at e1
  rw [h2] at e2
  have e1 : l1.length ≤ 32 := e1
  have e2 : l2.length ≤ 32 := e2
  replace h1 := Z0.mk h1
  replace h2 := Z0.mk h2
  have hc : c.size ≤ 10000000000 := by omega
  clear hs
  go_upto_region 4 with (first
   | ((with_reducible refine gc_ 30 rfl ?_); refine gL 22 Tryz.func30 ((Constant_ok n c _ (hL.below HB.out) hO).mono fun e w' h => h.v h1.out rfl) ?_; rintro _ w1 ⟨X1, d1, rfl, hd1, C1, hb⟩; refine ⟨_, rfl, ?_⟩; replace C1 := Z0.mk C1; replace HB := fB HB hb; clear hb)
   | ((with_reducible refine gd_ 7 rfl ?_); refine newL (.slice none 0 0) (.string ⟨#[]⟩) (.slice X1 l1.length d1) (.string s1) ?_; intro g1 w2 hg1 B1 hb; replace B1 := Z0.mk B1; replace C1 := Z0.mk (Kd.C_below C1.out hb); replace HB := fB HB hb; clear hb hg1)
   | (refine cG rfl ?_; intro w' hb; replace HB := fB HB hb; clear hb))
  go_upto_region 5 with (first
   | ((with_reducible refine gc_ 31 rfl ?_); refine gL 28 Tryz.func31 ((refConstant_ok n c _ hc).mono fun e w' h => h.v h1.out rfl) ?_; rintro _ w3 ⟨X2, d2, rfl, hd2, C2, hb⟩; refine ⟨_, rfl, ?_⟩; replace C2 := Z0.mk C2; replace B1 := fk B1 hb; replace C1 := Z0.mk (Kd.C_below C1.out hb); replace HB := fB HB hb; clear hb)
   | ((with_reducible refine gd_ 9 rfl ?_); refine newL (.slice none 0 0) (.string ⟨#[]⟩) (.slice X2 l1.length d2) (.string s1) ?_; intro g2 w4 hg2 B2 hb; replace B2 := Z0.mk B2; replace B1 := fk B1 hb; replace C1 := Z0.mk (Kd.C_below C1.out hb); replace C2 := Z0.mk (Kd.C_below C2.out hb); replace HB := fB HB hb; clear hb hg2))
  go_upto_region 6 with (first
   | ((with_reducible refine gc_ 32 rfl ?_); refine gL 34 Tryz.func32 ((Variable_ok n i _).mono fun e w' h => h.v h2.out rfl) ?_; rintro _ w5 ⟨X3, d3, rfl, hd3, C3, hb⟩; refine ⟨_, rfl, ?_⟩; replace C3 := Z0.mk C3; replace B1 := fk B1 hb; replace B2 := fk B2 hb; replace C1 := Z0.mk (Kd.C_below C1.out hb); replace C2 := Z0.mk (Kd.C_below C2.out hb); replace HB := fB HB hb; clear hb)
   | ((with_reducible refine gd_ 11 rfl ?_); refine newL (.slice none 0 0) (.string ⟨#[]⟩) (.slice X3 l2.length d3) (.string s2) ?_; intro g3 w6 hg3 B3 hb; replace B3 := Z0.mk B3; replace B1 := fk B1 hb; replace B2 := fk B2 hb; replace C1 := Z0.mk (Kd.C_below C1.out hb); replace C2 := Z0.mk (Kd.C_below C2.out hb); replace C3 := Z0.mk (Kd.C_below C3.out hb); replace HB := fB HB hb; clear hb hg3))
  go_upto_region 7 with (first
   | ((with_reducible refine gc_ 33 rfl ?_); refine gL 40 Tryz.func33 ((refVariable_ok n i _).mono fun e w' h => h.v h2.out rfl) ?_; rintro _ w7 ⟨X4, d4, rfl, hd4, C4, hb⟩; refine ⟨_, rfl, ?_⟩; replace C4 := Z0.mk C4; replace B1 := fk B1 hb; replace B2 := fk B2 hb; replace B3 := fk B3 hb; replace C1 := Z0.mk (Kd.C_below C1.out hb); replace C2 := Z0.mk (Kd.C_below C2.out hb); replace C3 := Z0.mk (Kd.C_below C3.out hb); replace HB := fB HB hb; clear hb)
   | ((with_reducible refine gd_ 13 rfl ?_); refine newL (.slice none 0 0) (.string ⟨#[]⟩) (.slice X4 l2.length d4) (.string s2) ?_; intro g4 w8 hg4 B4 hb; replace B4 := Z0.mk B4; replace B1 := fk B1 hb; replace B2 := fk B2 hb; replace B3 := fk B3 hb; replace C1 := Z0.mk (Kd.C_below C1.out hb); replace C2 := Z0.mk (Kd.C_below C2.out hb); replace C3 := Z0.mk (Kd.C_below C3.out hb); replace C4 := Z0.mk (Kd.C_below C4.out hb); replace HB := fB HB hb; clear hb hg4))
  obtain ⟨p0, p1, -, -⟩ := b2 B1
  obtain ⟨q0, q1, -, -⟩ := b2 B2
  have z11 : (z1 == z1) = true := beq_self_eq_true _
  have z22 : (z2 == z2) = true := beq_self_eq_true _
  go_wp2_with (first
   | ((with_reducible refine gd_ 45 rfl ?_); refine gL 45 Tryz.func12 (Same_ok X1 X2 l1.length l1.length d1 d2 l1 s1 _ C1 C2 rfl rfl (by omega)) ?_; rintro _ w9 ⟨rfl, hb⟩; refine ⟨_, rfl, ?_⟩; replace B3 := fk B3 hb; replace B4 := fk B4 hb; replace C3 := Z0.mk (Kd.C_below C3.out hb); replace C4 := Z0.mk (Kd.C_below C4.out hb); replace HB := fB HB hb; clear hb p0 p1 q0 q1 B1 B2 C1 C2; obtain ⟨p0, p1, -, -⟩ := b2 B3; obtain ⟨q0, q1, -, -⟩ := b2 B4)
   | (go_at_call 12; refine (Same_ok X3 X4 l2.length l2.length d3 d4 l2 s2 _ C3 C4 rfl rfl (by omega)).mono ?_; rintro _ w10 ⟨rfl, hb⟩; replace HB := fB HB hb; clear hb p0 p1 q0 q1 B3 B4 C3 C4)
   | (go_at_call 9; refine (lawake_ok _ (hL.below HB.out)).mono ?_; rintro _ w11 ⟨rfl, hb⟩; replace HB := fB HB hb; clear hb))
  go_ret
  exact ⟨rfl, HB.out⟩
end Go.Proofs.YtgihllbgjpcapaaGreatDoor.PA
