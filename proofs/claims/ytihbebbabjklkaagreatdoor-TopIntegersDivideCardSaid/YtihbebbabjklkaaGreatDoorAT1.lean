import Derived.Test.YtihbebbabjklkaaGreatDoorAG1
import Derived.Test.YtihbebbabjklkaaGreatDoorAP2
import Derived.Test.YtihbebbabjklkaaGreatDoorAG5
import Derived.Test.YtihbebbabjklkaaGreatDoorAG3
import Derived.Test.YtihbebbabjklkaaGreatDoorAG4
set_option maxHeartbeats 8000000
set_option maxRecDepth 100000
set_option linter.unusedVariables false
set_option linter.unusedVariables false
set_option linter.unusedSimpArgs false
namespace Go.Proofs.YtihbebbabjklkaaGreatDoor.PA
open Go.RowKit Go.Proofs.WWords Go.Proofs.WLast Go.Proofs.WMore
instance : Ctr 94 (type_of% @rECheck.calls) := ⟨@rECheck.calls, _, Tryz.func94, by kernel_rfl, rfl⟩
instance : Ctr 95 (type_of% @bIMul.calls) := ⟨@bIMul.calls, _, Tryz.func95, by kernel_rfl, rfl⟩
instance : Ctr 108 (type_of% @bIAdd.calls) := ⟨@bIAdd.calls, _, Tryz.func108, by kernel_rfl, rfl⟩
instance : Ctr 159 (type_of% @bISub.calls) := ⟨@bISub.calls, _, Tryz.func159, by kernel_rfl, rfl⟩
instance : Ctr 53 (type_of% @bIQuo.calls) := ⟨@bIQuo.calls, _, Tryz.func53, by kernel_rfl, rfl⟩
instance : Ctr 69 (type_of% @rAAdd.calls) := ⟨@rAAdd.calls, _, Tryz.func69, by kernel_rfl, rfl⟩
instance : Ctr 111 (type_of% @bIdivided.calls) := ⟨@bIdivided.calls, _, Tryz.func111, by kernel_rfl, rfl⟩
theorem ba_ne {s t : ByteArray} (h : s ≠ t) : (s.toList == t.toList) = false := beq_eq_false_iff_ne.mpr fun e => h (ba_ext (by rw [ByteArray.toList_eq, ByteArray.toList_eq] at e; exact e))
theorem setCell_self {w : World} {g t : Nat} {v : Value} (h : w.heap[g]? = some (.cells #[v] t (0, 0))) : w.setCell ⟨g, 0, none⟩ v = w := by
  obtain ⟨hg, hv⟩ := Array.getElem?_eq_some_iff.1 h
  have e : (w.setCell ⟨g, 0, none⟩ v).heap = w.heap := by
    apply Array.ext_getElem?
    intro i
    simp only [World.setCell, Array.getElem?_modify]
    split
    · subst_vars
      rw [h]; rfl
    · rfl
  unfold World.setCell at e ⊢
  simp only at e
  rw [e]
theorem b1 {w : World} {g t : Nat} {c : Value} (h : Z0 (w.heap[g]? = some (.cells #[c] t (0, 0)))) : w.cell? ⟨g, 0, none⟩ = some c := (blk_cell h.out 0).trans rfl
abbrev St (w : World) (g t : Nat) : Prop := w.heap[g]? = some (.cells #[.bool true] t (0, 0))
theorem of_ok (g : Nat) (a : ByteArray) (w : World) (h : St w g 78) :
  Calls Tryz.prog 47 #[.pointer (some ⟨g, 0, none⟩), .string a, .int .i64 0] w fun e w' => e = .returned (.string a) ∧ Below w.heap.size w w' := by
 have hc : w.cell? ⟨g, 0, none⟩ = some (.bool true) := (blk_cell h 0).trans rfl
 have hf : w.frozen? ⟨g, 0, none⟩ = false := blk_frozen h 0
 have hs := setCell_self h
 go_enter Tryz.func47, Tryz.ntmps47
 go_wp2
 go_ret
 exact ⟨rfl, by first | exact Below.refl _ _ | (rw [hs]; exact Below.refl _ _)⟩
instance : Ctr 47 (type_of% @of_ok) := ⟨@of_ok, _, Tryz.func47, by kernel_rfl, rfl⟩
section
variable (g : Nat) (s t : ByteArray) (m n : Int) (w : World) (hL : LaidW w) (h : St w g 78) (hs : s = Sv.txt m) (ht : t = Sv.txt n) (hm : Sv.nd m ≤ 4096) (hn : Sv.nd n ≤ 4096)
include hL h hs ht hm hn
theorem add_ok (hr : Sv.nd (m + n) ≤ 4096) : Calls Tryz.prog 50 #[.pointer (some ⟨g, 0, none⟩), .string s, .string t] w fun e w' => e = .returned (.string (Sv.txt (m + n))) ∧ Below w.heap.size w w' := by
 subst hs ht
 have HB := Z0.mk (Below.refl w.heap.size w)
 have B1 := Z0.mk h
 have A := bi_Add m n hm hn
 unfold lim at A
 rw [if_pos hr] at A
 obtain ⟨k, A⟩ := A.as
 go_enter Tryz.func50, Tryz.ntmps50
 go_wp2_with (refine cG rfl ?_; intro w' hb; replace B1 := fk B1 hb; replace HB := fB HB hb; clear hb)
 go_ret
 exact ⟨rfl, HB.out⟩
theorem mul_ok (hr : Sv.nd (m * n) ≤ 4096) : Calls Tryz.prog 51 #[.pointer (some ⟨g, 0, none⟩), .string s, .string t] w fun e w' => e = .returned (.string (Sv.txt (m * n))) ∧ Below w.heap.size w w' := by
 subst hs ht
 have HB := Z0.mk (Below.refl w.heap.size w)
 have B1 := Z0.mk h
 have A := bi_Mul m n hm hn
 unfold lim at A
 rw [if_pos hr] at A
 obtain ⟨k, A⟩ := A.as
 go_enter Tryz.func51, Tryz.ntmps51
 go_wp2_with (refine cG rfl ?_; intro w' hb; replace B1 := fk B1 hb; replace HB := fB HB hb; clear hb)
 go_ret
 exact ⟨rfl, HB.out⟩
end
instance : Ctr 50 (type_of% @add_ok) := ⟨@add_ok, _, Tryz.func50, by kernel_rfl, rfl⟩
instance : Ctr 51 (type_of% @mul_ok) := ⟨@mul_ok, _, Tryz.func51, by kernel_rfl, rfl⟩
theorem rem_ok (m n : Int) (w : World) (hL : LaidW w) (h0 : n ≠ 0) (hm : Sv.nd m ≤ 4096) (hn : Sv.nd n ≤ 4096) :
  Calls Tryz.prog 54 #[.string (Sv.txt m), .string (Sv.txt n)] w fun e w' => e = .returned (.tuple #[.string (Sv.txt (m.fmod n)), .int .i64 0]) ∧ Below w.heap.size w w' := by
 have HB := Z0.mk (Below.refl w.heap.size w)
 obtain ⟨k, A⟩ := (bi_divided m n h0 hm hn).as
 go_enter Tryz.func54, Tryz.ntmps54
 go_wp2_with (refine cG rfl ?_; intro w' hb; replace HB := fB HB hb; clear hb)
 go_ret2
 exact ⟨rfl, HB.out⟩
theorem numbers_ok (w : World) (hL : LaidW w) : Calls Tryz.prog 45 #[] w fun e w' => e = .returned (.bool true) ∧ Below w.heap.size w w' := by
 have HB := Z0.mk (Below.refl w.heap.size w)
 have d : ∀ n : Int, n.natAbs < 100 → Sv.nd n ≤ 2 := fun n h => Sv.nd_le (by omega) (by omega)
 have t7 : Sv.txt 7 = ⟨#[55]⟩ := by simp [Sv.txt, Sv.txtL, Sv.txtN, Sv.dg, Sv.dch]
 have t3 : Sv.txt 3 = ⟨#[51]⟩ := by simp [Sv.txt, Sv.txtL, Sv.txtN, Sv.dg, Sv.dch]
 have t4 : Sv.txt 4 = ⟨#[52]⟩ := by simp [Sv.txt, Sv.txtL, Sv.txtN, Sv.dg, Sv.dch]
 have t6 : Sv.txt (-6) = ⟨#[45, 54]⟩ := by simp [Sv.txt, Sv.txtL, Sv.txtN, Sv.dg, Sv.dch]
 have t21 : Sv.txt (-21) = ⟨#[45, 50, 49]⟩ := by simp [Sv.txt, Sv.txtL, Sv.txtN, Sv.dg, Sv.dch]
 have A := bi_Mul 7 (-3) (by have := d 7 (by decide); omega) (by have := d (-3) (by decide); omega)
 unfold lim at A
 rw [show (7 : Int) * (-3) = -21 from rfl, if_pos (by have := d (-21) (by decide); omega), t7, tm3, t21] at A
 obtain ⟨k1, A1⟩ := A.as
 have A := bi_Quo (-21) 4 (by decide) (by have := d (-21) (by decide); omega) (by have := d 4 (by decide); omega)
 rw [show (-21 : Int).fdiv 4 = -6 from rfl, t21, t4, t6] at A
 obtain ⟨k2, A2⟩ := A.as
 have A := bi_divided (-21) 4 (by decide) (by have := d (-21) (by decide); omega) (by have := d 4 (by decide); omega)
 have C := fun w hL => rem_ok (-21) 4 w hL (by decide) (by have := d (-21) (by decide); omega) (by have := d 4 (by decide); omega)
 rw [show (-21 : Int).fmod 4 = 3 from rfl, t21, t4, t3] at C
 have A := addE q12 q13 (by have := ndR_lit 1 2 (by decide) (by decide) (by decide) (by decide); have := ndR_lit 1 3 (by decide) (by decide) (by decide) (by decide); unfold q12 q13; omega)
 rw [e_add, r12, r13, r56] at A
 obtain ⟨k4, A4⟩ := A.as
 have I : Ctr 54 (type_of% C) := ⟨C, _, Tryz.func54, by kernel_rfl, rfl⟩
 go_enter Tryz.func45, Tryz.ntmps45
 go_wp2_with (refine cG rfl ?_; intro w' hb; replace HB := fB HB hb; clear hb)
 go_ret
 exact ⟨rfl, HB.out⟩
instance : Ctr 45 (type_of% @numbers_ok) := ⟨@numbers_ok, _, Tryz.func45, by kernel_rfl, rfl⟩
noncomputable def whB (l : List ByteArray) : Bool := l.all fun s => decide (s.size ≤ 400) && decide (chkI s = 0)
theorem whole_ok (A : Option Addr) (c : Nat) (l : List ByteArray) (w : World) (hC : Z0 (Kd.string.C w A l.length l)) (hm : l.length ≤ 1000) :
  Calls Tryz.prog 44 #[.slice A l.length c] w fun e w' => e = .returned (.bool (whB l)) ∧ Below w.heap.size w w' := by
 have HB := Z0.mk (Below.refl w.heap.size w)
 go_enter Tryz.func44, Tryz.ntmps44
 go_wp2
 go_loopw [7] (fun i wr => ∃ j : Nat, j ≤ l.length ∧ i = .int .i64 j ∧ (∀ t, (h : t < j) → (h' : t < l.length) → l[t].size ≤ 400 ∧ chkI l[t] = 0) ∧ Z0 (Kd.string.C wr A l.length l) ∧ Z0 (Below w.heap.size w wr))
  (fun i _ => l.length - (Go.RowKit.intOf i).toNat)
 case atStart => exact ⟨0, by omega, rfl, fun t h => absurd h (by omega), hC, HB⟩
 clear hC HB
 obtain ⟨j, hj, rfl, hok, HC, HB⟩ := hrel
 rcases Nat.lt_or_ge j l.length with h4 | h4
 · obtain ⟨ad, rfl, hx, p, q⟩ := asI HC.out (j : Int) (by omega) (by omega)
   rw [Int.toNat_natCast] at hx
   have hs : rdOf ByteArray.empty l (j : Int) = l[j] := by simp [rdOf, h4]
   rw [hs] at hx
   clear hs
   have c4 : decide ((j : Int) < l.length) = true := decide_eq_true (by omega)
   by_cases hz : 400 < (l[j].size : Int)
   · have cz : decide (400 < (l[j].size : Int)) = true := decide_eq_true hz
     have e : whB l = false := by
      refine Bool.eq_false_iff.mpr fun e => ?_
      have := List.all_eq_true.1 e l[j] (List.getElem_mem h4)
      simp at this
      omega
     go_wp2
     go_ret
     exact ⟨by rw [e]; rfl, HB.out⟩
   have cz : decide (400 < (l[j].size : Int)) = false := decide_eq_false hz
   obtain ⟨kC, hC⟩ := (ref_Check l[j] (by omega)).as
   by_cases h0 : chkI l[j] = 0
   · rw [h0] at hC
     go_wp2_with (refine cC ?_; intro w' hb; replace HC := Z0.mk (Kd.C_below HC.out hb); replace HB := fB HB hb; clear hb)
     refine ⟨⟨j + 1, by omega, by simp, fun t ht ht' => ?_, HC, HB⟩, by simp [Go.RowKit.intOf]; omega⟩
     rcases Nat.lt_or_ge t j with h | h
     · exact hok t h ht'
     · obtain rfl : t = j := by omega
       exact ⟨by omega, h0⟩
   have h0' : (chkI l[j] != 0) = true := bne_iff_ne.mpr h0
   have e : whB l = false := by
    refine Bool.eq_false_iff.mpr fun e => ?_
    have := List.all_eq_true.1 e l[j] (List.getElem_mem h4)
    simp at this
    exact h0 this.2
   go_wp2_with (refine cC ?_; intro w' hb; replace HB := fB HB hb; clear hb)
   go_ret
   exact ⟨by rw [e]; rfl, HB.out⟩
 obtain rfl : j = l.length := by omega
 have e : whB l = true := by
  refine List.all_eq_true.2 fun s hs => ?_
  obtain ⟨t, ht, rfl⟩ := List.getElem_of_mem hs
  have := hok t ht ht
  simp [this.1, this.2]
 go_wp2
 go_ret
 exact ⟨by rw [e]; rfl, HB.out⟩
theorem whole_ok' (A : Option Addr) (n c : Nat) (l : List ByteArray) (w : World) (hC : Z0 (Kd.string.C w A n l)) (hn : n = l.length) (hm : n ≤ 1000) :
  Calls Tryz.prog 44 #[.slice A n c] w fun e w' => e = .returned (.bool (whB l)) ∧ Below w.heap.size w w' := by
 subst hn
 exact whole_ok A c l w hC hm
instance : Ctr 44 (type_of% @whole_ok') := ⟨@whole_ok', _, Tryz.func44, by kernel_rfl, rfl⟩
theorem of_whB {l : List ByteArray} (h : whB l = true) : ∀ s ∈ l, ∃ n, s = Sv.txt n ∧ Sv.nd n ≤ 400 := by
 intro s hs
 have := List.all_eq_true.1 h s hs
 simp at this
 obtain ⟨n, rfl, _⟩ := of_chkI this.2
 exact ⟨n, rfl, by have := nd_size n; omega⟩
set_option linter.unusedVariables false
set_option linter.unusedSimpArgs false
instance : Ctr 56 (type_of% @bICompare.calls) := ⟨@bICompare.calls, _, Tryz.func56, by kernel_rfl, rfl⟩
instance : Ctr 55 (type_of% @bISign.calls) := ⟨@bISign.calls, _, Tryz.func55, by kernel_rfl, rfl⟩
instance : Ctr 48 (type_of% @bIGcd.calls) := ⟨@bIGcd.calls, _, Tryz.func48, by kernel_rfl, rfl⟩
instance : Ctr 49 (type_of% @lcm_ok) := ⟨@lcm_ok, _, Tryz.func49, by kernel_rfl, rfl⟩
theorem bezD (m n d : Int) (w : World) (hL : LaidW w) (hm : Sv.nd m ≤ 400) (hn : Sv.nd n ≤ 400) (hd : Z0 (d = Int.gcd m n)) :
  Calls Tryz.prog 46 #[.string (Sv.txt m), .string (Sv.txt n)] w fun e w' => ∃ u v : Int, e = .returned (.tuple #[.string (Sv.txt d), .string (Sv.txt u), .string (Sv.txt v), .int .i64 0]) ∧ u * m + v * n = d ∧ Sv.nd u ≤ 400 ∧ Sv.nd v ≤ 1300 ∧ Below w.heap.size w w' := by
 rw [hd.out]; exact bez_ok m n w hL hm hn
instance : Ctr 46 (type_of% @bezD) := ⟨@bezD, _, Tryz.func46, by kernel_rfl, rfl⟩
theorem remD (m n r : Int) (w : World) (hL : LaidW w) (h0 : n ≠ 0) (hm : Sv.nd m ≤ 4096) (hn : Sv.nd n ≤ 4096) (hr : Z0 (r = m.fmod n)) :
  Calls Tryz.prog 54 #[.string (Sv.txt m), .string (Sv.txt n)] w fun e w' => e = .returned (.tuple #[.string (Sv.txt r), .int .i64 0]) ∧ Below w.heap.size w w' := by
 rw [hr.out]; exact rem_ok m n w hL h0 hm hn
instance : Ctr 54 (type_of% @remD) := ⟨@remD, _, Tryz.func54, by kernel_rfl, rfl⟩
theorem Divide_true (s0 s1 : ByteArray) (w : World) (hL : LaidW w) :
  Calls Tryz.prog 12 #[.string s0, .string s1] w fun e w' => e = .returned (.bool true) ∧ Below w.heap.size w w' := by
 have HB := Z0.mk (Below.refl w.heap.size w)
 go_enter Tryz.func12, Tryz.ntmps12
 cases hw : whB [s0, s1]
 · go_wp2_with (first
    | ((with_reducible refine gd_ 25 rfl ?_); refine litS [s0, s1] ?_; intro A c w3 hb hc HC; replace HC := Z0.mk HC; replace HB := fB HB hb; clear hb)
    | (refine cG rfl ?_; intro w' hb; replace HB := fB HB hb; clear hb))
   go_ret
   exact ⟨rfl, HB.out⟩
 obtain ⟨a, rfl, ha⟩ := of_whB hw s0 (by simp)
 obtain ⟨b, rfl, hb⟩ := of_whB hw s1 (by simp)
 have na := mag_mono (Nat.le_refl 0)
 clear na
 obtain ⟨d, hd⟩ : ∃ d : Int, Z0 (d = Int.gcd a b) := ⟨_, ⟨rfl⟩⟩
 obtain ⟨L, hLc⟩ : ∃ L : Int, Z0 (L = (Nat.lcm a.natAbs b.natAbs : Nat)) := ⟨_, ⟨rfl⟩⟩
 obtain ⟨z, hz⟩ : ∃ z : Int, Z0 (z = (a * b).natAbs) := ⟨_, ⟨rfl⟩⟩
 have nd_ : Sv.nd d ≤ 401 := by
  have h : Sv.nd d ≤ Sv.nd ((a.natAbs : Int) + b.natAbs) := by
   refine nd_mono ?_
   rw [hd.out]
   by_cases hb0 : b = 0
   · subst hb0; rw [Int.gcd_zero_right]; omega
   · have : Int.gcd a b ≤ b.natAbs := Nat.gcd_le_right _ (by omega)
     omega
  have h1 := nd_add (a.natAbs : Int) (b.natAbs : Int)
  rw [Sv.nd_natAbs, Sv.nd_natAbs] at h1
  omega
 have nab := nd_mul a b
 have nL : Sv.nd L ≤ 800 := by
  have h : Sv.nd L ≤ Sv.nd (a * b) := by
   refine nd_mono ?_
   rw [hLc.out, Int.natAbs_mul, Int.natAbs_natCast]
   by_cases h0 : 0 < a.natAbs * b.natAbs
   · exact Nat.le_of_dvd h0 (Nat.lcm_dvd (Nat.dvd_mul_right ..) (Nat.dvd_mul_left ..))
   · rcases Nat.eq_zero_or_pos a.natAbs with h | h
     · rw [h, Nat.lcm_zero_left]; omega
     · rcases Nat.eq_zero_or_pos b.natAbs with h' | h'
       · rw [h', Nat.lcm_zero_right]; omega
       · exact absurd (Nat.mul_pos h h') h0
  omega
 have hs : (Sv.txt L, (0 : Int)) = lim ((Nat.lcm a.natAbs b.natAbs : Nat) : Int) := by rw [← hLc.out, lim_small (by omega)]
 have hmd : L * d = z := by
  rw [hLc.out, hd.out, hz.out, ← Int.natCast_mul, Nat.mul_comm, Int.natAbs_mul]
  exact congrArg _ (Nat.gcd_mul_lcm _ _)
 have nLd := nd_mul L d
 have nz : Sv.nd z ≤ 800 := by rw [hz.out, Sv.nd_natAbs]; omega
 obtain ⟨kg, Ag⟩ := (bi_Gcd a b (by omega) (by omega)).as
 rw [← hd.out] at Ag
 have Az := Z0.mk (bi_Abs (a * b) (by omega))
 rw [← hz.out] at Az
 have mz : ∀ u, Sv.nd (u * a) ≤ Sv.nd u + Sv.nd a := fun u => nd_mul u a
 have mv : ∀ v, Sv.nd (v * b) ≤ Sv.nd v + Sv.nd b := fun v => nd_mul v b
 go_upto_region 5 with (first
    | ((with_reducible refine gc_ 46 rfl ?_); refine cX rfl ?_; rintro _ w2 ⟨u, v, rfl, huv, hu, hv, hb'⟩; refine ⟨_, rfl, ?_⟩; replace B1 := fk B1 hb'; replace HB := fB HB hb'; clear hb')
    | ((with_reducible refine gd_ 25 rfl ?_); refine litS [Sv.txt a, Sv.txt b] ?_; intro A c w3 hb hc HC; replace HC := Z0.mk HC; replace HB := fB HB hb; clear hb)
    | ((with_reducible refine gd_ 30 rfl ?_); refine bxE 30 #[.bool true] 78 ?_; intro g hg w1 hbox hb; have B1 := Z0.mk hbox; replace HB := fB HB hb; clear hb hbox hg)
    | (refine cG rfl ?_; intro w' hb; replace HB := fB HB hb; clear hb))
 replace mz := mz u
 replace mv := mv v
 have ms := nd_add (u * a) (v * b)
 have p0 := b1 B1
 go_upto_region 9 with (first
    | (refine cG rfl ?_; intro w' hb; replace B1 := fk B1 hb; (try clear p0); have p0 := b1 B1; replace HB := fB HB hb; clear hb)
    | (go_at_call 51; refine cC ?_; intro w' hb; replace B1 := fk B1 hb; (try clear p0); have p0 := b1 B1; replace HB := fB HB hb; clear hb)
    | (go_at_call 50; refine cC ?_; intro w' hb; replace B1 := fk B1 hb; (try clear p0); have p0 := b1 B1; replace HB := fB HB hb; clear hb)
    | (go_at_call 52; refine cC ?_; intro w' hb; replace B1 := fk B1 hb; (try clear p0); have p0 := b1 B1; replace HB := fB HB hb; clear hb)
    | (go_at_call 47; refine cC ?_; intro w' hb; replace B1 := fk B1 hb; (try clear p0); have p0 := b1 B1; replace HB := fB HB hb; clear hb)
    | (go_at_call 45; refine cC ?_; intro w' hb; replace B1 := fk B1 hb; replace HB := fB HB hb; clear hb))
 have e6 : (Sv.txt 0).toList = ([48] : List UInt8) := ba_list _ _ r0
 by_cases hb0 : b = 0
 · obtain ⟨ko, Ao⟩ := (bi_Quo0 a (by omega)).as
   have Aa := Z0.mk (bi_Abs a (by omega))
   rw [show (a.natAbs : Int) = d by rw [hd.out, hb0, Int.gcd_zero_right]] at Aa
   have e7 : ((Sv.txt b).toList == ([48] : List UInt8)) = true := by rw [← e6, hb0]; exact beq_self_eq_true _
   have e8 : (Sv.txt b).toList = ([48] : List UInt8) := by rw [← e6, hb0]
   rw [← hb0] at Ao
   clear hb0 e6
   go_wp2_with (first
    | (refine cG rfl ?_; intro w' hb; replace B1 := fk B1 hb; (try clear p0); have p0 := b1 B1; replace HB := fB HB hb; clear hb)
    | (go_at_call 51; refine cC ?_; intro w' hb; replace B1 := fk B1 hb; (try clear p0); have p0 := b1 B1; replace HB := fB HB hb; clear hb)
    | (go_at_call 50; refine cC ?_; intro w' hb; replace B1 := fk B1 hb; (try clear p0); have p0 := b1 B1; replace HB := fB HB hb; clear hb)
    | (go_at_call 52; refine cC ?_; intro w' hb; replace B1 := fk B1 hb; (try clear p0); have p0 := b1 B1; replace HB := fB HB hb; clear hb)
    | (go_at_call 47; refine cC ?_; intro w' hb; replace B1 := fk B1 hb; (try clear p0); have p0 := b1 B1; replace HB := fB HB hb; clear hb)
    | (go_at_call 45; refine cC ?_; intro w' hb; replace B1 := fk B1 hb; replace HB := fB HB hb; clear hb))
   go_ret
   exact ⟨rfl, HB.out⟩
 have e7 : ((Sv.txt b).toList == ([48] : List UInt8)) = false := by rw [← e6]; exact ba_ne fun e => hb0 (Sv.txt_inj.1 e)
 have hd0 : d ≠ 0 := by rw [hd.out]; have := Int.gcd_pos_of_ne_zero_right a hb0; omega
 obtain ⟨q, hq⟩ : ∃ q : Int, Z0 (q = a.fdiv b) := ⟨_, ⟨rfl⟩⟩
 obtain ⟨r, hr⟩ : ∃ r : Int, Z0 (r = a.fmod b) := ⟨_, ⟨rfl⟩⟩
 have hqr : q * b + r = a := by rw [hq.out, hr.out, Int.mul_comm]; exact Int.mul_fdiv_add_fmod a b
 have hbd := mul_fdiv_bound a b hb0
 rw [← hr.out, ← hq.out] at hbd
 have nq : Sv.nd q ≤ 401 := by rw [hq.out]; have := nd_fdiv a b hb0; omega
 have nr : Sv.nd r ≤ 400 := Nat.le_trans (nd_mono (by omega)) hb
 have nqb := nd_mul q b
 have nqs := nd_add (q * b) r
 obtain ⟨ko, Ao⟩ := (bi_Quo a b hb0 (by omega) (by omega)).as
 rw [← hq.out] at Ao
 have hx : Z0 ((0 : Int) = a.fmod d) := ⟨by rw [hd.out]; exact (Int.fmod_eq_zero_of_dvd (Int.gcd_dvd_left ..)).symm⟩
 have hy : Z0 ((0 : Int) = b.fmod d) := ⟨by rw [hd.out]; exact (Int.fmod_eq_zero_of_dvd (Int.gcd_dvd_right ..)).symm⟩
 obtain ⟨zr, hzr⟩ : ∃ z : Int, Z0 (z = r.natAbs) := ⟨_, ⟨rfl⟩⟩
 obtain ⟨zb, hzb⟩ : ∃ z : Int, Z0 (z = b.natAbs) := ⟨_, ⟨rfl⟩⟩
 have nzr : Sv.nd zr ≤ 400 := by rw [hzr.out, Sv.nd_natAbs]; exact nr
 have nzb : Sv.nd zb ≤ 400 := by rw [hzb.out, Sv.nd_natAbs]; exact hb
 have Ar := Z0.mk (bi_Abs r (by omega))
 rw [← hzr.out] at Ar
 have Ab := Z0.mk (bi_Abs b (by omega))
 rw [← hzb.out] at Ab
 obtain ⟨kc, Ac⟩ := (bi_Compare zr zb (by omega) (by omega)).as
 rw [Int.sign_eq_neg_one_of_neg (by rw [hzr.out, hzb.out]; omega)] at Ac
 obtain ⟨sr, hsr⟩ : ∃ s, Z0 (s = r.sign) := ⟨_, ⟨rfl⟩⟩
 obtain ⟨sb, hsb⟩ : ∃ s, Z0 (s = b.sign) := ⟨_, ⟨rfl⟩⟩
 obtain ⟨k1, A1⟩ := (bi_Sign r (by omega)).as
 obtain ⟨k2, A2⟩ := (bi_Sign b (by omega)).as
 rw [← hsr.out] at A1
 rw [← hsb.out] at A2
 have hss : sr = 0 ∨ (sr = sb ∧ (sb == 0) = false) := by
  by_cases h0 : r = 0
  · left; rw [hsr.out, h0]; rfl
  · right
    have hbs : b.sign ≠ 0 := fun e => hb0 (Int.sign_eq_zero_iff_zero.1 e)
    refine ⟨?_, by rw [hsb.out]; exact beq_eq_false_iff_ne.mpr hbs⟩
    rw [hsr.out, hsb.out]
    rcases Int.lt_trichotomy b 0 with h | h | h
    · have e : (-a).fmod (-b) = -(a.fmod b) := Int.neg_fmod_neg a b
      have := Int.fmod_nonneg_of_pos (-a) (show 0 < -b by omega)
      rw [Int.sign_eq_neg_one_of_neg h, Int.sign_eq_neg_one_of_neg (by have := hr.out; omega)]
    · exact absurd h hb0
    · have := Int.fmod_nonneg_of_pos a h
      rw [Int.sign_eq_one_of_pos h, Int.sign_eq_one_of_pos (by have := hr.out; omega)]
 clear hbd nab nL hs hmd nLd nz Ag Az mz mv ms huv hu hv
 go_upto_region 17 with (first
    | (refine cG rfl ?_; intro w' hb; replace B1 := fk B1 hb; (try clear p0); have p0 := b1 B1; replace HB := fB HB hb; clear hb)
    | (go_at_call 51; refine cC ?_; intro w' hb; replace B1 := fk B1 hb; (try clear p0); have p0 := b1 B1; replace HB := fB HB hb; clear hb)
    | (go_at_call 50; refine cC ?_; intro w' hb; replace B1 := fk B1 hb; (try clear p0); have p0 := b1 B1; replace HB := fB HB hb; clear hb)
    | (go_at_call 52; refine cC ?_; intro w' hb; replace B1 := fk B1 hb; (try clear p0); have p0 := b1 B1; replace HB := fB HB hb; clear hb)
    | (go_at_call 47; refine cC ?_; intro w' hb; replace B1 := fk B1 hb; (try clear p0); have p0 := b1 B1; replace HB := fB HB hb; clear hb)
    | (go_at_call 45; refine cC ?_; intro w' hb; replace B1 := fk B1 hb; replace HB := fB HB hb; clear hb))
 rcases hss with rfl | ⟨rfl, hss⟩
 · go_wp2_with (first
    | (refine cG rfl ?_; intro w' hb; replace B1 := fk B1 hb; (try clear p0); have p0 := b1 B1; replace HB := fB HB hb; clear hb)
    | (go_at_call 51; refine cC ?_; intro w' hb; replace B1 := fk B1 hb; (try clear p0); have p0 := b1 B1; replace HB := fB HB hb; clear hb)
    | (go_at_call 50; refine cC ?_; intro w' hb; replace B1 := fk B1 hb; (try clear p0); have p0 := b1 B1; replace HB := fB HB hb; clear hb)
    | (go_at_call 52; refine cC ?_; intro w' hb; replace B1 := fk B1 hb; (try clear p0); have p0 := b1 B1; replace HB := fB HB hb; clear hb)
    | (go_at_call 47; refine cC ?_; intro w' hb; replace B1 := fk B1 hb; (try clear p0); have p0 := b1 B1; replace HB := fB HB hb; clear hb)
    | (go_at_call 45; refine cC ?_; intro w' hb; replace B1 := fk B1 hb; replace HB := fB HB hb; clear hb))
   go_ret
   exact ⟨rfl, HB.out⟩
 · go_wp2_with (first
    | (refine cG rfl ?_; intro w' hb; replace B1 := fk B1 hb; (try clear p0); have p0 := b1 B1; replace HB := fB HB hb; clear hb)
    | (go_at_call 51; refine cC ?_; intro w' hb; replace B1 := fk B1 hb; (try clear p0); have p0 := b1 B1; replace HB := fB HB hb; clear hb)
    | (go_at_call 50; refine cC ?_; intro w' hb; replace B1 := fk B1 hb; (try clear p0); have p0 := b1 B1; replace HB := fB HB hb; clear hb)
    | (go_at_call 52; refine cC ?_; intro w' hb; replace B1 := fk B1 hb; (try clear p0); have p0 := b1 B1; replace HB := fB HB hb; clear hb)
    | (go_at_call 47; refine cC ?_; intro w' hb; replace B1 := fk B1 hb; (try clear p0); have p0 := b1 B1; replace HB := fB HB hb; clear hb)
    | (go_at_call 45; refine cC ?_; intro w' hb; replace B1 := fk B1 hb; replace HB := fB HB hb; clear hb))
   go_ret
   exact ⟨rfl, HB.out⟩
end Go.Proofs.YtihbebbabjklkaaGreatDoor.PA
