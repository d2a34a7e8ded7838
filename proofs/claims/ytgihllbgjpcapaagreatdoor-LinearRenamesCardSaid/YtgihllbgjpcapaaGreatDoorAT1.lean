import Derived.Test.YtgihllbgjpcapaaGreatDoorAG12
set_option maxHeartbeats 8000000
set_option maxRecDepth 100000
set_option linter.unusedVariables false
set_option linter.unusedVariables false
set_option linter.unusedSimpArgs false
namespace Go.Proofs.YtgihllbgjpcapaaGreatDoor.PA
open Go.RowKit Go.Shelf Go.Proofs.WWords Go.Proofs.WLast Go.Proofs.WMore
theorem LinRenames_true (A0 : Option Addr) (c0 : Nat) (l0 : List ByteArray) (s0 : ByteArray) (A1 : Option Addr) (c1 : Nat) (l1 : List Int) (i2 : Int) (w : World) (hL : LaidW w) (w0 : l0.length ≤ c0) (C0 : Z0 (Kd.string.C w A0 l0.length l0)) (w1 : l1.length ≤ c1) (C1 : Z0 (Kd.C (Kd.int .i64) w A1 l1.length l1)) :
  Calls Tryz.prog 4 #[.agg #[.slice A0 l0.length c0, .string s0], .slice A1 l1.length c1, .int .i64 i2] w fun e w' => e = .returned (.bool true) ∧ Below w.heap.size w w' := by
 have HB := Z0.mk (Below.refl w.heap.size w)
 have hu := Tryz.underlying25
 obtain ⟨b0, hb0⟩ : ∃ b, Z0 (fewB l0 s0 = b) := ⟨_, ⟨rfl⟩⟩
 go_enter Tryz.func4, Tryz.ntmps4
 go_upto_region 1 with (fail)
 refine al1 ?_
 intro W hb B0
 replace C0 := Z0.mk (Kd.C_below C0.out hb)
 replace C1 := Z0.mk (Kd.C_below C1.out hb)
 replace HB := fB HB hb
 clear hb
 obtain ⟨p0, p1, -, -⟩ := b2 B0
 cases b0 with
 | false =>
  go_wp2_with (refine cG rfl ?_; intro w' hb; replace HB := fB HB hb; clear hb)
  go_ret
  exact ⟨rfl, HB.out⟩
 | true =>
 by_cases hlong : 40 < l1.length
 · have cl : decide (40 < (l1.length : Int)) = true := decide_eq_true (by omega)
   clear hlong
   go_wp2_with (refine cG rfl ?_; intro w' hb; replace HB := fB HB hb; clear hb)
   go_ret
   exact ⟨rfl, HB.out⟩
 · have cl : decide (40 < (l1.length : Int)) = false := decide_eq_false (by omega)
   obtain ⟨a1, a2, a3⟩ := of_fewB hb0.out
   have o1 : ∀ x ∈ l0, Okt x := fun x hx => Okt.of (by have := a3 x hx; omega)
   have o3 : Okt s0 := Okt.of (by omega)
   have r1 : ∀ x ∈ l0, x.size ≤ 10000000000 := fun x hx => by have := a3 x hx; omega
   have r3 : s0.size ≤ 10000000000 := by omega
   have m1 : l0.length ≤ 1000 := by omega
   have m2 : l1.length ≤ 1000 := by omega
   obtain ⟨l, s, z, h1⟩ := trip3 (renS l0 s0 l1 i2)
   have e1 := renS_len l0 s0 l1 i2
   rw [h1] at e1
   have e1 : l.length ≤ 32 := e1
   replace h1 := Z0.mk h1
   clear a1 a2 a3 hlong
   go_upto_region 3 with (refine cG rfl ?_; intro w' hb; replace B0 := fk B0 hb; replace C0 := Z0.mk (Kd.C_below C0.out hb); replace C1 := Z0.mk (Kd.C_below C1.out hb); replace HB := fB HB hb; clear hb p0 p1; obtain ⟨p0, p1, -, -⟩ := b2 B0)
   go_upto_region 4 with (first
    | ((with_reducible refine gc_ 13 rfl ?_); refine gL 24 Tryz.func13 ((Rename_ok A0 A1 l0.length c0 l1.length c1 l0 s0 l1 i2 _ (hL.below HB.out) C0 C1 rfl rfl m1 m2 o1 o3).mono fun e w' h => h.v h1.out rfl) ?_; rintro _ w7 ⟨X7, d7, rfl, hd7, C7, hb⟩; refine ⟨_, rfl, ?_⟩; replace C7 := Z0.mk C7; replace B0 := fk B0 hb; replace C0 := Z0.mk (Kd.C_below C0.out hb); replace C1 := Z0.mk (Kd.C_below C1.out hb); replace HB := fB HB hb; clear hb p0 p1)
    | ((with_reducible refine gd_ 7 rfl ?_); refine newL (.slice none 0 0) (.string ⟨#[]⟩) (.slice X7 l.length d7) (.string s) ?_; intro g7 w7b hg7 B7 hb; replace B7 := Z0.mk B7; replace B0 := fk B0 hb; replace C0 := Z0.mk (Kd.C_below C0.out hb); replace C1 := Z0.mk (Kd.C_below C1.out hb); replace C7 := Z0.mk (Kd.C_below C7.out hb); replace HB := fB HB hb; clear hb hg7))
   obtain ⟨p0, p1, -, -⟩ := b2 B0
   go_upto_region 5 with (first
    | ((with_reducible refine gc_ 14 rfl ?_); refine gL 31 Tryz.func14 ((refRename_ok A0 A1 l0.length c0 l1.length c1 l0 s0 l1 i2 _ C0 C1 rfl rfl r1 r3).mono fun e w' h => h.v h1.out rfl) ?_; rintro _ w9 ⟨X9, d9, rfl, hd9, C9, hb⟩; refine ⟨_, rfl, ?_⟩; replace C9 := Z0.mk C9; replace B0 := fk B0 hb; replace B7 := fk B7 hb; replace C0 := Z0.mk (Kd.C_below C0.out hb); replace C1 := Z0.mk (Kd.C_below C1.out hb); replace C7 := Z0.mk (Kd.C_below C7.out hb); replace HB := fB HB hb; clear hb p0 p1)
    | ((with_reducible refine gd_ 9 rfl ?_); refine newL (.slice none 0 0) (.string ⟨#[]⟩) (.slice X9 l.length d9) (.string s) ?_; intro g9 w9b hg9 B9 hb; replace B9 := Z0.mk B9; replace B0 := fk B0 hb; replace B7 := fk B7 hb; replace C0 := Z0.mk (Kd.C_below C0.out hb); replace C1 := Z0.mk (Kd.C_below C1.out hb); replace C7 := Z0.mk (Kd.C_below C7.out hb); replace C9 := Z0.mk (Kd.C_below C9.out hb); replace HB := fB HB hb; clear hb hg9))
   obtain ⟨p0, p1, -, -⟩ := b2 B7
   obtain ⟨q0, q1, -, -⟩ := b2 B9
   have z11 : (z == z) = true := beq_self_eq_true _
   go_wp2_with (first
    | ((with_reducible refine gd_ 36 rfl ?_); refine gL 36 Tryz.func12 (Same_ok X7 X9 l.length l.length d7 d9 l s _ C7 C9 rfl rfl (by omega)) ?_; rintro _ w' ⟨rfl, hb⟩; refine ⟨_, rfl, ?_⟩; replace HB := fB HB hb; clear hb p0 p1 q0 q1)
    | (go_at_call 9; refine (lawake_ok _ (hL.below HB.out)).mono ?_; rintro _ w' ⟨rfl, hb⟩; replace HB := fB HB hb; clear hb))
   go_ret
   exact ⟨rfl, HB.out⟩
end Go.Proofs.YtgihllbgjpcapaaGreatDoor.PA
