import Derived.Test.YtinpcbjjnlpblaaGreatDoorAG1
import Derived.Test.YtinpcbjjnlpblaaGreatDoorAP2
import Derived.Test.YtinpcbjjnlpblaaGreatDoorAG9
import Derived.Test.YtinpcbjjnlpblaaGreatDoorAG4
import Derived.Test.YtinpcbjjnlpblaaGreatDoorAG8
import Derived.Test.YtinpcbjjnlpblaaGreatDoorAG10
import Derived.Test.YtinpcbjjnlpblaaGreatDoorAG11
set_option maxHeartbeats 8000000
set_option maxRecDepth 100000
set_option linter.unusedVariables false
set_option linter.unusedVariables false
set_option linter.unusedSimpArgs false
namespace Go.Proofs.YtinpcbjjnlpblaaGreatDoor.PA
open Go.RowKit Go.Proofs.WWords Go.Proofs.WLast Go.Proofs.WMore
theorem text_ok (z a : Int) (n : Nat) (hn : n = z % 4098) (h0 : 0 ≤ z) (h1 : z < 65536) (h2 : 0 ≤ a) (h3 : a < 256) (w : World) :
  Calls Tryz.prog 5 #[.agg #[.int .u16 z, .int .u8 a]] w fun e w' => e = .returned (.string (strOfNums (longL n (a % 9)))) ∧ Below w.heap.size w w' := by
 have HB := Z0.mk (Below.refl w.heap.size w)
 have e1 : IntKind.i64.wrap z = z := (i64_w z).trans (by unfold wrap64; omega)
 have e2 : Int.tmod z 4098 = (n : Int) := by rw [Int.tmod_eq_emod_of_nonneg h0]; omega
 have e3 : Int.tmod a 9 = a % 9 := Int.tmod_eq_emod_of_nonneg h2
 have hn' : n < 4098 := by omega
 clear hn
 go_enter Tryz.func5, Tryz.ntmps5
 go_wp2_with (first
  | ((with_reducible refine gd_ 1 rfl ?_); refine bxE 1 #[.int .u16 z, .int .u8 a] 24 ?_; intro g hg w1 hbox hb; have B1 := Z0.mk hbox; replace HB := fB HB hb; clear hb hbox hg)
  | ((with_reducible refine gd_ 4 rfl ?_); refine litR (Kd.int .u8) [49] [.int .u8 49] (Kd.reps_scalar [49]) ?_; intro v w2 hb HO; have HB2 := Z0.mk hb; have BB := fk B1 hb; clear hb; obtain ⟨p0, p1, -, -⟩ := b2 BB))
 go_loopw [3, 9] (fun v3 v9 wr => ∃ j : Nat, j ≤ n ∧ v9 = .int .i64 j ∧ Z0 (Kd.R (Kd.int .u8) 5 wr w1.heap.size (fun _ => True) v3 (49 :: List.replicate j 48)) ∧ Z0 (Below w1.heap.size w1 wr))
  (fun _ v9 _ => n - (Go.RowKit.intOf v9).toNat)
 case atStart => exact ⟨0, by omega, rfl, HO, HB2⟩
 clear HO HB2 BB p0 p1
 obtain ⟨j, hj, rfl, HO, HB2⟩ := hrel
 rcases Nat.lt_or_ge j n with h4 | h4
 · have c4 : decide ((j : Int) < n) = true := decide_eq_true (by omega)
   go_wp2_with (first | (at_builtin; refine apS (Kd.int .u8) 48 HO HB2 rfl Tryz.underlying55 info5 rfl (by simp; omega) ?_; intro v1 w3 h5 h6; clear HO HB2))
   refine ⟨⟨j + 1, by omega, by simp, ?_, h6⟩, by simp [Go.RowKit.intOf]; omega⟩
   rw [List.replicate_succ']; exact h5
 obtain rfl : j = n := by omega
 clear e2
 have B2 := fk B1 HB2.out
 obtain ⟨p0, p1, -, -⟩ := b2 B2
 obtain ⟨g3, cap, rfl, hg3, -⟩ := Kd.R_form HO.out (by simp)
 obtain ⟨hx, hf⟩ := Kd.R_celln 0 HO.out (j : Int) (by omega) (by simp; omega)
 have HP := Kd.R_putg HO.out (j : Int) (49 + a % 9)
 rw [Int.toNat_natCast] at hx hf HP
 have e4 : IntKind.u8.wrap (49 + a % 9) = 49 + a % 9 := by show (49 + a % 9) % 256 = _; omega
 have hcv := own_string (P := Tryz.prog) Tryz.underlying55 Tryz.underlying5 Tryz.underlying26 (Kd.own_of_R HP.1)
 simp only [List.length_cons, List.length_replicate] at hcv
 go_wp2
 go_ret
 exact ⟨rfl, below_set (below_step HB.out HB2.out) (by have := below_size HB.out; omega)⟩
set_option linter.unusedVariables false
set_option linter.unusedSimpArgs false
instance : Ctr 52 (type_of% @rECheck.calls) := ⟨@rECheck.calls, _, Tryz.func52, by kernel_rfl, rfl⟩
instance : Ctr 53 (type_of% @bIMul.calls) := ⟨@bIMul.calls, _, Tryz.func53, by kernel_rfl, rfl⟩
instance : Ctr 66 (type_of% @bIAdd.calls) := ⟨@bIAdd.calls, _, Tryz.func66, by kernel_rfl, rfl⟩
instance : Ctr 114 (type_of% @bISub.calls) := ⟨@bISub.calls, _, Tryz.func114, by kernel_rfl, rfl⟩
instance : Ctr 24 (type_of% @bIQuo.calls) := ⟨@bIQuo.calls, _, Tryz.func24, by kernel_rfl, rfl⟩
instance : Ctr 8 (type_of% @rAAdd.calls) := ⟨@rAAdd.calls, _, Tryz.func8, by kernel_rfl, rfl⟩
instance : Ctr 69 (type_of% @bIdivided.calls) := ⟨@bIdivided.calls, _, Tryz.func69, by kernel_rfl, rfl⟩
theorem Ev.as {α : Type} {f : Nat → Option α} {x : α} (h : Ev f x) : ∃ k, Z0 (f k = some x) := let ⟨k, h⟩ := h.ex; ⟨k, ⟨h⟩⟩
theorem setCell_self {w : World} {g t : Nat} {v : Value} (h : w.heap[g]? = some (.cells #[v] t (0, 0))) : w.setCell ⟨g, 0, none⟩ v = w := by
  obtain ⟨hg, hv⟩ := Array.getElem?_eq_some_iff.1 h
  have e : (w.setCell ⟨g, 0, none⟩ v).heap = w.heap := by
    apply Array.ext_getElem?
    intro i
    simp only [World.setCell, Array.getElem?_modify]
    split
    · subst_vars
      rw [h]; rfl
    · rfl
  unfold World.setCell at e ⊢
  simp only at e
  rw [e]
theorem b1 {w : World} {g t : Nat} {c : Value} (h : Z0 (w.heap[g]? = some (.cells #[c] t (0, 0)))) : w.cell? ⟨g, 0, none⟩ = some c := (blk_cell h.out 0).trans rfl
abbrev St (w : World) (g t : Nat) : Prop := w.heap[g]? = some (.cells #[.bool true] t (0, 0))
theorem of_ok (g : Nat) (a : ByteArray) (w : World) (h : St w g 44) :
  Calls Tryz.prog 18 #[.pointer (some ⟨g, 0, none⟩), .string a, .int .i64 0] w fun e w' => e = .returned (.string a) ∧ Below w.heap.size w w' := by
 have hc : w.cell? ⟨g, 0, none⟩ = some (.bool true) := (blk_cell h 0).trans rfl
 have hf : w.frozen? ⟨g, 0, none⟩ = false := blk_frozen h 0
 have hs := setCell_self h
 go_enter Tryz.func18, Tryz.ntmps18
 go_wp2
 go_ret
 exact ⟨rfl, by first | exact Below.refl _ _ | (rw [hs]; exact Below.refl _ _)⟩
instance : Ctr 18 (type_of% @of_ok) := ⟨@of_ok, _, Tryz.func18, by kernel_rfl, rfl⟩
section
variable (g : Nat) (s t : ByteArray) (m n : Int) (w : World) (hL : LaidW w) (h : St w g 44) (hs : s = Sv.txt m) (ht : t = Sv.txt n) (hm : Sv.nd m ≤ 4096) (hn : Sv.nd n ≤ 4096)
include hL h hs ht hm hn
theorem add_ok (hr : Sv.nd (m + n) ≤ 4096) : Calls Tryz.prog 21 #[.pointer (some ⟨g, 0, none⟩), .string s, .string t] w fun e w' => e = .returned (.string (Sv.txt (m + n))) ∧ Below w.heap.size w w' := by
 subst hs ht
 have HB := Z0.mk (Below.refl w.heap.size w)
 have B1 := Z0.mk h
 have A := bi_Add m n hm hn
 unfold lim at A
 rw [if_pos hr] at A
 obtain ⟨k, A⟩ := A.as
 go_enter Tryz.func21, Tryz.ntmps21
 go_wp2_with (refine cG rfl ?_; intro w' hb; replace B1 := fk B1 hb; replace HB := fB HB hb; clear hb)
 go_ret
 exact ⟨rfl, HB.out⟩
theorem mul_ok (hr : Sv.nd (m * n) ≤ 4096) : Calls Tryz.prog 22 #[.pointer (some ⟨g, 0, none⟩), .string s, .string t] w fun e w' => e = .returned (.string (Sv.txt (m * n))) ∧ Below w.heap.size w w' := by
 subst hs ht
 have HB := Z0.mk (Below.refl w.heap.size w)
 have B1 := Z0.mk h
 have A := bi_Mul m n hm hn
 unfold lim at A
 rw [if_pos hr] at A
 obtain ⟨k, A⟩ := A.as
 go_enter Tryz.func22, Tryz.ntmps22
 go_wp2_with (refine cG rfl ?_; intro w' hb; replace B1 := fk B1 hb; replace HB := fB HB hb; clear hb)
 go_ret
 exact ⟨rfl, HB.out⟩
end
instance : Ctr 21 (type_of% @add_ok) := ⟨@add_ok, _, Tryz.func21, by kernel_rfl, rfl⟩
instance : Ctr 22 (type_of% @mul_ok) := ⟨@mul_ok, _, Tryz.func22, by kernel_rfl, rfl⟩
theorem rem_ok (m n : Int) (w : World) (hL : LaidW w) (h0 : n ≠ 0) (hm : Sv.nd m ≤ 4096) (hn : Sv.nd n ≤ 4096) :
  Calls Tryz.prog 25 #[.string (Sv.txt m), .string (Sv.txt n)] w fun e w' => e = .returned (.tuple #[.string (Sv.txt (m.fmod n)), .int .i64 0]) ∧ Below w.heap.size w w' := by
 have HB := Z0.mk (Below.refl w.heap.size w)
 obtain ⟨k, A⟩ := (bi_divided m n h0 hm hn).as
 go_enter Tryz.func25, Tryz.ntmps25
 go_wp2_with (refine cG rfl ?_; intro w' hb; replace HB := fB HB hb; clear hb)
 go_ret2
 exact ⟨rfl, HB.out⟩
theorem numbers_ok (w : World) (hL : LaidW w) : Calls Tryz.prog 16 #[] w fun e w' => e = .returned (.bool true) ∧ Below w.heap.size w w' := by
 have HB := Z0.mk (Below.refl w.heap.size w)
 have d : ∀ n : Int, n.natAbs < 100 → Sv.nd n ≤ 2 := fun n h => Sv.nd_le (by omega) (by omega)
 have t7 : Sv.txt 7 = ⟨#[55]⟩ := by simp [Sv.txt, Sv.txtL, Sv.txtN, Sv.dg, Sv.dch]
 have t3 : Sv.txt 3 = ⟨#[51]⟩ := by simp [Sv.txt, Sv.txtL, Sv.txtN, Sv.dg, Sv.dch]
 have t4 : Sv.txt 4 = ⟨#[52]⟩ := by simp [Sv.txt, Sv.txtL, Sv.txtN, Sv.dg, Sv.dch]
 have t6 : Sv.txt (-6) = ⟨#[45, 54]⟩ := by simp [Sv.txt, Sv.txtL, Sv.txtN, Sv.dg, Sv.dch]
 have t21 : Sv.txt (-21) = ⟨#[45, 50, 49]⟩ := by simp [Sv.txt, Sv.txtL, Sv.txtN, Sv.dg, Sv.dch]
 have A := bi_Mul 7 (-3) (by have := d 7 (by decide); omega) (by have := d (-3) (by decide); omega)
 unfold lim at A
 rw [show (7 : Int) * (-3) = -21 from rfl, if_pos (by have := d (-21) (by decide); omega), t7, tm3, t21] at A
 obtain ⟨k1, A1⟩ := A.as
 have A := bi_Quo (-21) 4 (by decide) (by have := d (-21) (by decide); omega) (by have := d 4 (by decide); omega)
 rw [show (-21 : Int).fdiv 4 = -6 from rfl, t21, t4, t6] at A
 obtain ⟨k2, A2⟩ := A.as
 have A := bi_divided (-21) 4 (by decide) (by have := d (-21) (by decide); omega) (by have := d 4 (by decide); omega)
 have C := fun w hL => rem_ok (-21) 4 w hL (by decide) (by have := d (-21) (by decide); omega) (by have := d 4 (by decide); omega)
 rw [show (-21 : Int).fmod 4 = 3 from rfl, t21, t4, t3] at C
 have A := addE q12 q13 (by have := ndR_lit 1 2 (by decide) (by decide) (by decide) (by decide); have := ndR_lit 1 3 (by decide) (by decide) (by decide) (by decide); unfold q12 q13; omega)
 rw [e_add, r12, r13, r56] at A
 obtain ⟨k4, A4⟩ := A.as
 have I : Ctr 25 (type_of% C) := ⟨C, _, Tryz.func25, by kernel_rfl, rfl⟩
 go_enter Tryz.func16, Tryz.ntmps16
 go_wp2_with (refine cG rfl ?_; intro w' hb; replace HB := fB HB hb; clear hb)
 go_ret
 exact ⟨rfl, HB.out⟩
instance : Ctr 16 (type_of% @numbers_ok) := ⟨@numbers_ok, _, Tryz.func16, by kernel_rfl, rfl⟩
noncomputable def whB (l : List ByteArray) : Bool := l.all fun s => decide (s.size ≤ 400) && decide (chkI s = 0)
theorem whole_ok (A : Option Addr) (c : Nat) (l : List ByteArray) (w : World) (hC : Z0 (Kd.string.C w A l.length l)) (hm : l.length ≤ 1000) :
  Calls Tryz.prog 15 #[.slice A l.length c] w fun e w' => e = .returned (.bool (whB l)) ∧ Below w.heap.size w w' := by
 have HB := Z0.mk (Below.refl w.heap.size w)
 go_enter Tryz.func15, Tryz.ntmps15
 go_wp2
 go_loopw [7] (fun i wr => ∃ j : Nat, j ≤ l.length ∧ i = .int .i64 j ∧ (∀ t, (h : t < j) → (h' : t < l.length) → l[t].size ≤ 400 ∧ chkI l[t] = 0) ∧ Z0 (Kd.string.C wr A l.length l) ∧ Z0 (Below w.heap.size w wr))
  (fun i _ => l.length - (Go.RowKit.intOf i).toNat)
 case atStart => exact ⟨0, by omega, rfl, fun t h => absurd h (by omega), hC, HB⟩
 clear hC HB
 obtain ⟨j, hj, rfl, hok, HC, HB⟩ := hrel
 rcases Nat.lt_or_ge j l.length with h4 | h4
 · obtain ⟨ad, rfl, hx, p, q⟩ := asI HC.out (j : Int) (by omega) (by omega)
   rw [Int.toNat_natCast] at hx
   have hs : rdOf ByteArray.empty l (j : Int) = l[j] := by simp [rdOf, h4]
   rw [hs] at hx
   clear hs
   have c4 : decide ((j : Int) < l.length) = true := decide_eq_true (by omega)
   by_cases hz : 400 < (l[j].size : Int)
   · have cz : decide (400 < (l[j].size : Int)) = true := decide_eq_true hz
     have e : whB l = false := by
      refine Bool.eq_false_iff.mpr fun e => ?_
      have := List.all_eq_true.1 e l[j] (List.getElem_mem h4)
      simp at this
      omega
     go_wp2
     go_ret
     exact ⟨by rw [e]; rfl, HB.out⟩
   have cz : decide (400 < (l[j].size : Int)) = false := decide_eq_false hz
   obtain ⟨kC, hC⟩ := (ref_Check l[j] (by omega)).as
   by_cases h0 : chkI l[j] = 0
   · rw [h0] at hC
     go_wp2_with (refine cC ?_; intro w' hb; replace HC := Z0.mk (Kd.C_below HC.out hb); replace HB := fB HB hb; clear hb)
     refine ⟨⟨j + 1, by omega, by simp, fun t ht ht' => ?_, HC, HB⟩, by simp [Go.RowKit.intOf]; omega⟩
     rcases Nat.lt_or_ge t j with h | h
     · exact hok t h ht'
     · obtain rfl : t = j := by omega
       exact ⟨by omega, h0⟩
   have h0' : (chkI l[j] != 0) = true := bne_iff_ne.mpr h0
   have e : whB l = false := by
    refine Bool.eq_false_iff.mpr fun e => ?_
    have := List.all_eq_true.1 e l[j] (List.getElem_mem h4)
    simp at this
    exact h0 this.2
   go_wp2_with (refine cC ?_; intro w' hb; replace HB := fB HB hb; clear hb)
   go_ret
   exact ⟨by rw [e]; rfl, HB.out⟩
 obtain rfl : j = l.length := by omega
 have e : whB l = true := by
  refine List.all_eq_true.2 fun s hs => ?_
  obtain ⟨t, ht, rfl⟩ := List.getElem_of_mem hs
  have := hok t ht ht
  simp [this.1, this.2]
 go_wp2
 go_ret
 exact ⟨by rw [e]; rfl, HB.out⟩
theorem whole_ok' (A : Option Addr) (n c : Nat) (l : List ByteArray) (w : World) (hC : Z0 (Kd.string.C w A n l)) (hn : n = l.length) (hm : n ≤ 1000) :
  Calls Tryz.prog 15 #[.slice A n c] w fun e w' => e = .returned (.bool (whB l)) ∧ Below w.heap.size w w' := by
 subst hn
 exact whole_ok A c l w hC hm
instance : Ctr 15 (type_of% @whole_ok') := ⟨@whole_ok', _, Tryz.func15, by kernel_rfl, rfl⟩
set_option linter.unusedVariables false
set_option linter.unusedSimpArgs false
instance : Ctr 6 (type_of% @rAMul.calls) := ⟨@rAMul.calls, _, Tryz.func6, by kernel_rfl, rfl⟩
instance : Ctr 44 (type_of% @rADiv.calls) := ⟨@rADiv.calls, _, Tryz.func44, by kernel_rfl, rfl⟩
instance : Ctr 10 (type_of% @rACompare.calls) := ⟨@rACompare.calls, _, Tryz.func10, by kernel_rfl, rfl⟩
instance : Ctr 14 (type_of% @rFCheck.calls) := ⟨@rFCheck.calls, _, Tryz.func14, by kernel_rfl, rfl⟩
section
end
set_option linter.unusedVariables false
set_option linter.unusedSimpArgs false
structure TextIs (z a : Int) (s : ByteArray) : Prop where
  z0 : 0 ≤ z
  z1 : z < 65536
  a0 : 0 ≤ a
  a1 : a < 256
  e : strOfNums (longL (z % 4098).toNat (a % 9)) = s
theorem text_is (z a : Int) (s : ByteArray) (w : World) (h : TextIs z a s) :
  Calls Tryz.prog 5 #[.agg #[.int .u16 z, .int .u8 a]] w fun e w' => e = .returned (.string s) ∧ Below w.heap.size w w' :=
  h.e ▸ text_ok z a _ (by have := Int.emod_nonneg z (show (4098 : Int) ≠ 0 by decide); omega) h.z0 h.z1 h.a0 h.a1 w
instance : Ctr 5 (type_of% @text_is) := ⟨@text_is, _, Tryz.func5, by kernel_rfl, rfl⟩
instance : Ctr 7 (type_of% @rFMul.calls) := ⟨@rFMul.calls, _, Tryz.func7, by kernel_rfl, rfl⟩
instance : Ctr 9 (type_of% @rFAdd.calls) := ⟨@rFAdd.calls, _, Tryz.func9, by kernel_rfl, rfl⟩
instance : Ctr 11 (type_of% @rFCompare.calls) := ⟨@rFCompare.calls, _, Tryz.func11, by kernel_rfl, rfl⟩
instance : Ctr 13 (type_of% @rACheck.calls) := ⟨@rACheck.calls, _, Tryz.func13, by kernel_rfl, rfl⟩
instance : Ctr 12 (type_of% @lWawake.calls) := ⟨@lWawake.calls, _, Tryz.func12, by kernel_rfl, rfl⟩
theorem Limits_true (z0 a0 z1 a1 : Int) (h0 : 0 ≤ z0 ∧ z0 < 65536 ∧ 0 ≤ a0 ∧ a0 < 256) (h1 : 0 ≤ z1 ∧ z1 < 65536 ∧ 0 ≤ a1 ∧ a1 < 256) (w : World) (hL : LaidW w) :
  Calls Tryz.prog 3 #[.agg #[.int .u16 z0, .int .u8 a0], .agg #[.int .u16 z1, .int .u8 a1]] w fun e w' => e = .returned (.bool true) ∧ Below w.heap.size w w' := by
 have HB := Z0.mk (Below.refl w.heap.size w)
 obtain ⟨m, mp, mt, mn, _⟩ := long_txt (z0 % 4098).toNat (a0 % 9) (by omega) (by omega)
 obtain ⟨n, np, nt, nn, c, l, nb, nc, _, nd⟩ := long_txt (z1 % 4098).toNat (a1 % 9) (by omega) (by omega)
 have T0 : TextIs z0 a0 (Sv.txt m) := ⟨h0.1, h0.2.1, h0.2.2.1, h0.2.2.2, mt⟩
 have T1 : TextIs z1 a1 (Sv.txt n) := ⟨h1.1, h1.2.1, h1.2.2.1, h1.2.2.2, nt⟩
 have km : Sv.nd m ≤ 4900 := by omega
 have kn : Sv.nd n ≤ 4900 := by omega
 have s2 : 2 + (Sv.txt n).size ≤ 9223372036854775807 := by rw [Sv.txt_size]; split <;> omega
 have s3 : (9223372036854775807 < 2 + (Sv.txt n).size) = False := eq_false (by omega)
 have oa := okt_int m km
 have o3 := Okt.of (s := ⟨#[51]⟩) (by decide)
 have o1 := Okt.of (s := ⟨#[49]⟩) (by decide)
 obtain ⟨kA, A⟩ := awake_ev.as
 obtain ⟨⟨r1, r2⟩, A1, A2⟩ := same_Mul oa o3
 obtain ⟨k1, A1⟩ := A1.as
 obtain ⟨k2, A2⟩ := A2.as
 obtain ⟨k3, A3⟩ := oa.rat.as
 obtain ⟨k4, A4⟩ := oa.ref.as
 obtain ⟨bt, bs, ob, bf, be⟩ : ∃ (bt : ByteArray) (b : Bool), Okt bt ∧ ((Sv.txt n).toList == ([49] : List UInt8)) = b ∧ (if b then ⟨#[49]⟩ else (⟨#[49, 47]⟩ : ByteArray) ++ Sv.txt n) = bt := by
  by_cases hn : n = 1
  · exact ⟨_, true, o1, by rw [hn, beq_iff_eq]; exact ba_list _ _ txt1, rfl⟩
  · refine ⟨_, false, ?_, beq_eq_false_iff_ne.mpr fun e => hn (Sv.txt_inj.1 (ba_ext (a := Sv.txt n) (b := Sv.txt 1) (by rw [← ByteArray.toList_eq, ← ByteArray.toList_eq, e]; exact (ba_list _ _ txt1).symm))), rfl⟩
    have hne : n.toNat ≠ 0 := by omega
    have hq := okt_inv n (by omega) kn (Rat.mk' 1 n.toNat hne (by simp [Nat.Coprime])) rfl (by show ((n.toNat : Nat) : Int) = n; omega) c l nb nc nd
    have e : Sv.rtxt (Rat.mk' 1 n.toNat hne (by simp [Nat.Coprime])) = (⟨#[49, 47]⟩ : ByteArray) ++ Sv.txt n := by
     unfold Sv.rtxt
     rw [if_neg (by show ¬ n.toNat = 1; omega)]
     show Sv.txt 1 ++ (⟨#[47]⟩ : ByteArray) ++ Sv.txt ((n.toNat : Nat) : Int) = _
     rw [txt1, show ((n.toNat : Nat) : Int) = n by omega]
     rfl
    rw [← e]; exact hq
 obtain ⟨⟨r3, r4⟩, A5, A6⟩ := same_Add ob o1
 obtain ⟨k5, A5⟩ := A5.as
 obtain ⟨k6, A6⟩ := A6.as
 obtain ⟨⟨r5, r6⟩, A7, A8⟩ := same_Compare oa ob
 obtain ⟨k7, A7⟩ := A7.as
 obtain ⟨k8, A8⟩ := A8.as
 obtain ⟨k9, A9⟩ := ob.rat.as
 obtain ⟨k10, A10⟩ := ob.ref.as
 generalize chkR (Sv.txt m) = cm at *
 generalize chkR bt = cb at *
 clear mt nt mn nn nb nc nd km kn oa o3 o1 ob h0 h1
 go_enter Tryz.func3, Tryz.ntmps3
 go_wp2_with (first
  | ((with_reducible refine gd_ 2 rfl ?_); refine bxE 2 #[.int .u16 z0, .int .u8 a0] 24 ?_; intro g1 hg w1 hbox hb; have B1 := Z0.mk hbox; replace HB := fB HB hb; clear hb hbox hg)
  | ((with_reducible refine gd_ 3 rfl ?_); refine bxE 3 #[.int .u16 z1, .int .u8 a1] 24 ?_; intro g2 hg w2 hbox hb; have B2 := Z0.mk hbox; replace B1 := fk B1 hb; replace HB := fB HB hb; clear hb hbox hg))
 replace B1 := fk B1 ((Below.refl _ w2).drew)
 replace B2 := fk B2 ((Below.refl _ w2).drew)
 replace HB := Z0.mk (below_drew HB.out)
 obtain ⟨p0, p1, -, -⟩ := b2 B1
 obtain ⟨q0, q1, -, -⟩ := b2 B2
 go_region_held3 (fun w' => w'.cell? ⟨g1, 0, none⟩ = some (.int .u16 z0) ∧ w'.cell? ⟨g1, 1, none⟩ = some (.int .u8 a0) ∧ w'.cell? ⟨g2, 0, none⟩ = some (.int .u16 z1) ∧ w'.cell? ⟨g2, 1, none⟩ = some (.int .u8 a1))
  (exact ⟨p0, p1, q0, q1⟩)
  (first | ((with_reducible refine atC ?_); refine cC ?_; intro w' hb; replace B1 := fk B1 hb; replace B2 := fk B2 hb; replace HB := fB HB hb; clear hb; obtain ⟨p0, p1, -, -⟩ := b2 B1; obtain ⟨q0, q1, -, -⟩ := b2 B2))
 cases bs
 · rw [if_neg (by simp)] at be
   go_wp2_with (first | (refine cG rfl ?_; intro w' hb; replace B1 := fk B1 hb; replace B2 := fk B2 hb; replace HB := fB HB hb; clear hb; obtain ⟨p0, p1, -, -⟩ := b2 B1; obtain ⟨q0, q1, -, -⟩ := b2 B2) | ((with_reducible refine atC ?_); refine cC ?_; intro w' hb; replace B1 := fk B1 hb; replace B2 := fk B2 hb; replace HB := fB HB hb; clear hb; obtain ⟨p0, p1, -, -⟩ := b2 B1; obtain ⟨q0, q1, -, -⟩ := b2 B2))
   go_ret
   exact ⟨rfl, HB.out⟩
 · rw [if_pos rfl] at be
   subst be
   go_wp2_with (first | (refine cG rfl ?_; intro w' hb; replace B1 := fk B1 hb; replace B2 := fk B2 hb; replace HB := fB HB hb; clear hb; obtain ⟨p0, p1, -, -⟩ := b2 B1; obtain ⟨q0, q1, -, -⟩ := b2 B2) | ((with_reducible refine atC ?_); refine cC ?_; intro w' hb; replace B1 := fk B1 hb; replace B2 := fk B2 hb; replace HB := fB HB hb; clear hb; obtain ⟨p0, p1, -, -⟩ := b2 B1; obtain ⟨q0, q1, -, -⟩ := b2 B2))
   go_ret
   exact ⟨rfl, HB.out⟩
end Go.Proofs.YtinpcbjjnlpblaaGreatDoor.PA
