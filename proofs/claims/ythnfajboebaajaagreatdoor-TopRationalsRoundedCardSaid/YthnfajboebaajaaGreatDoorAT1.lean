import Derived.Test.YthnfajboebaajaaGreatDoorAG1
import Derived.Test.YthnfajboebaajaaGreatDoorAP2
import Derived.Test.YthnfajboebaajaaGreatDoorAG8
import Derived.Test.YthnfajboebaajaaGreatDoorAG3
import Derived.Test.YthnfajboebaajaaGreatDoorAG4
import Derived.Test.YthnfajboebaajaaGreatDoorAG10
import Derived.Test.YthnfajboebaajaaGreatDoorAG6
set_option maxHeartbeats 8000000
set_option maxRecDepth 100000
set_option linter.unusedVariables false
set_option linter.unusedVariables false
namespace Go.Proofs.YthnfajboebaajaaGreatDoor.PA
open Go.RowKit Go.Proofs.WWords Go.Proofs.WLast Go.Proofs.WMore
class Ctr (f : FuncId) (T : outParam Prop) : Prop where
  pf : T
  hf : ∃ fn, Tryz.prog.funcs[f]? = some fn ∧ (fn.name == "runtime.NumGoroutine") = false ∧ fn.body.isSome = true
theorem drB {f : FuncId} {args : Array Value} {w : World} {x : Ending} (h : Calls Tryz.prog f args w fun e w' => e = x ∧ Drawn0 w w') : Calls Tryz.prog f args w fun e w' => e = x ∧ Below w.heap.size w w' :=
  h.mono fun _ _ h => ⟨h.1, h.2.below⟩
section
variable {ops : Array Oper} {Q : Exit → Act → World → Prop} {rest : List Oper} {o : Oper} {a : Act} {W : World}
theorem cG {f : FuncId} {ars : Array Operand} {ts : Array TypeId} {args : Array Value} {v : Value} {N : Option Tmp} {T : Prop}
  (hop : o.op = .call { callee := .value (.func f), args := ars, argTypes := ts }) [c : Ctr f T]
  (K : ∀ w', Below W.heap.size W w' → wpList Tryz.prog ops Q rest (a.put N v) w')
  (hd : o.dst = N := by rfl) (hg : o.guard = none := by rfl)
  (hargs : ars.map a.eval = args := by (try simp only [List.map_toArray, List.map_cons, List.map_nil]); first | done | rfl | (simp only [List.length_drop, List.length_take]; rfl))
  (hc : T → Calls Tryz.prog f args W fun e w' => e = .returned v ∧ Below W.heap.size W w' := by intro c; (first | apply c | (apply drB; apply c)); all_goals first | (with_reducible assumption) | exact Z0.out (by with_reducible assumption) | (with_reducible exact hL.below bq) | exact Eq.refl _ | omega | exact Z0.out (by assumption) | exact hL.below bq | exact of_decide_eq_true rfl | assumption) : wpList Tryz.prog ops Q (o :: rest) a W := by
  obtain ⟨fn, hf, hn, hb⟩ := c.hf
  refine goesL_ N hd hg hf hn hb args hop hargs ((hc c.pf).mono ?_)
  rintro e w' ⟨rfl, hb⟩
  exact ⟨_, rfl, K w' hb⟩
theorem cC {f : FuncId} {args : Array Value} {R : Ending → World → Prop} {v : Value} {T : Prop} [c : Ctr f T]
  (K : ∀ w', Below W.heap.size W w' → R (.returned v) w')
  (hc : T → Calls Tryz.prog f args W fun e w' => e = .returned v ∧ Below W.heap.size W w' := by intro c; (first | apply c | (apply drB; apply c)); all_goals first | (with_reducible assumption) | exact Z0.out (by with_reducible assumption) | (with_reducible exact hL.below bq) | exact Eq.refl _ | omega | exact Z0.out (by assumption) | exact hL.below bq | exact of_decide_eq_true rfl | assumption) : Calls Tryz.prog f args W R := by
  refine (hc c.pf).mono ?_
  rintro e w' ⟨rfl, hb⟩
  exact K w' hb
theorem litS (xs : List ByteArray) {cs : Array Value} {e : TypeId} {N : Tmp} (K : ∀ A c w', Below W.heap.size W w' → xs.length ≤ c → Kd.string.C w' A xs.length xs → wpList Tryz.prog ops Q rest (a.put (some N) (.slice A xs.length c)) w')
  (hd : o.dst = some N := by rfl) (hg : o.guard = none := by rfl) (hl : xs.length ≤ 1000 := by simp) (he : cs = (encs Value.string xs).toArray := by rfl)
  (hr : Sem.run Tryz.prog (execOp a.eval o) W = Result.ok (Next.value (.slice (some ⟨W.heap.size, 0, none⟩) xs.length xs.length)) (W.alloc (Obj.cells cs e)) := by first | (go_simp; done) | (go_simp; rfl)) : wpList Tryz.prog ops Q (o :: rest) a W := by
  subst he
  refine Kd.R_lit Kd.string W.heap.size e hg hd (xs := xs) (inner := encs Value.string xs) (ok := fun _ => True) (okp := fun _ => True) hr (Kd.reps_scalar xs) (fun _ h => h) trivial (Below.refl _ _) (Nat.le_refl _) (by omega) ?_
  intro v w' ho hb _ _
  obtain ⟨A, c, rfl, hc, hC⟩ := Kd.R_reads ho
  rw [hd]
  exact K A c w' hb hc hC
end
theorem litC (W : World) (t : TypeId) (xs : List ByteArray) (hl : xs.length ≤ 1000 := by simp) : Z0 (Kd.string.C (W.alloc (.cells (encs Value.string xs).toArray t)) (some ⟨W.heap.size, 0, none⟩) xs.length xs) := by
  refine ⟨rfl, by omega, fun _ => ⟨_, rfl, fun j p hj => ⟨[.string p], rfl, rfl, fun i u hu => ?_⟩⟩⟩
  obtain ⟨rfl, rfl⟩ : i = 0 ∧ u = .string p := by
    cases i with
    | zero => simpa [eq_comm] using hu
    | succ i => simp at hu
  have e : (⟨W.heap.size, 0, none⟩ : Addr).add (j * Kd.string.sz + 0) = ⟨W.heap.size, j, none⟩ := by
    rw [add_plain]; show (⟨_, j * 1 + 0, none⟩ : Addr) = _; simp
  rw [e]
  have h2 : (encs Value.string xs)[j]? = some (.string p) := by simp [encs, hj]
  have h3 : (W.alloc (.cells (encs Value.string xs).toArray t)).heap[W.heap.size]? = some (.cells (encs Value.string xs).toArray t) := by simp only [World.alloc, Array.getElem?_push_size]
  unfold World.cell?
  rw [h3]
  simp only [Option.isSome_none, Bool.false_eq_true, if_false, List.getElem?_toArray]
  exact h2
set_option linter.unusedVariables false
set_option linter.unusedSimpArgs false
instance : Ctr 36 (type_of% @rECheck.calls) := ⟨@rECheck.calls, _, Tryz.func36, by kernel_rfl, rfl⟩
instance : Ctr 39 (type_of% @bIMul.calls) := ⟨@bIMul.calls, _, Tryz.func39, by kernel_rfl, rfl⟩
instance : Ctr 103 (type_of% @bIAdd.calls) := ⟨@bIAdd.calls, _, Tryz.func103, by kernel_rfl, rfl⟩
instance : Ctr 33 (type_of% @bISub.calls) := ⟨@bISub.calls, _, Tryz.func33, by kernel_rfl, rfl⟩
instance : Ctr 69 (type_of% @bIQuo.calls) := ⟨@bIQuo.calls, _, Tryz.func69, by kernel_rfl, rfl⟩
instance : Ctr 43 (type_of% @rAAdd.calls) := ⟨@rAAdd.calls, _, Tryz.func43, by kernel_rfl, rfl⟩
instance : Ctr 111 (type_of% @bIdivided.calls) := ⟨@bIdivided.calls, _, Tryz.func111, by kernel_rfl, rfl⟩
theorem Ev.as {α : Type} {f : Nat → Option α} {x : α} (h : Ev f x) : ∃ k, Z0 (f k = some x) := let ⟨k, h⟩ := h.ex; ⟨k, ⟨h⟩⟩
theorem setCell_self {w : World} {g t : Nat} {v : Value} (h : w.heap[g]? = some (.cells #[v] t (0, 0))) : w.setCell ⟨g, 0, none⟩ v = w := by
  obtain ⟨hg, hv⟩ := Array.getElem?_eq_some_iff.1 h
  have e : (w.setCell ⟨g, 0, none⟩ v).heap = w.heap := by
    apply Array.ext_getElem?
    intro i
    simp only [World.setCell, Array.getElem?_modify]
    split
    · subst_vars
      rw [h]; rfl
    · rfl
  unfold World.setCell at e ⊢
  simp only at e
  rw [e]
theorem b1 {w : World} {g t : Nat} {c : Value} (h : Z0 (w.heap[g]? = some (.cells #[c] t (0, 0)))) : w.cell? ⟨g, 0, none⟩ = some c := (blk_cell h.out 0).trans rfl
abbrev St (w : World) (g t : Nat) : Prop := w.heap[g]? = some (.cells #[.bool true] t (0, 0))
theorem of_ok (g : Nat) (a : ByteArray) (w : World) (h : St w g 64) :
  Calls Tryz.prog 55 #[.pointer (some ⟨g, 0, none⟩), .string a, .int .i64 0] w fun e w' => e = .returned (.string a) ∧ Below w.heap.size w w' := by
 have hc : w.cell? ⟨g, 0, none⟩ = some (.bool true) := (blk_cell h 0).trans rfl
 have hf : w.frozen? ⟨g, 0, none⟩ = false := blk_frozen h 0
 have hs := setCell_self h
 go_enter Tryz.func55, Tryz.ntmps55
 go_wp2
 go_ret
 exact ⟨rfl, by first | exact Below.refl _ _ | (rw [hs]; exact Below.refl _ _)⟩
instance : Ctr 55 (type_of% @of_ok) := ⟨@of_ok, _, Tryz.func55, by kernel_rfl, rfl⟩
section
variable (g : Nat) (s t : ByteArray) (m n : Int) (w : World) (hL : LaidW w) (h : St w g 64) (hs : s = Sv.txt m) (ht : t = Sv.txt n) (hm : Sv.nd m ≤ 4096) (hn : Sv.nd n ≤ 4096)
include hL h hs ht hm hn
theorem add_ok (hr : Sv.nd (m + n) ≤ 4096) : Calls Tryz.prog 52 #[.pointer (some ⟨g, 0, none⟩), .string s, .string t] w fun e w' => e = .returned (.string (Sv.txt (m + n))) ∧ Below w.heap.size w w' := by
 subst hs ht
 have HB := Z0.mk (Below.refl w.heap.size w)
 have B1 := Z0.mk h
 have A := bi_Add m n hm hn
 unfold lim at A
 rw [if_pos hr] at A
 obtain ⟨k, A⟩ := A.as
 go_enter Tryz.func52, Tryz.ntmps52
 go_wp2_with (refine cG rfl ?_; intro w' hb; replace B1 := fk B1 hb; replace HB := fB HB hb; clear hb)
 go_ret
 exact ⟨rfl, HB.out⟩
theorem sub_ok (hr : Sv.nd (m - n) ≤ 4096) : Calls Tryz.prog 53 #[.pointer (some ⟨g, 0, none⟩), .string s, .string t] w fun e w' => e = .returned (.string (Sv.txt (m - n))) ∧ Below w.heap.size w w' := by
 subst hs ht
 have HB := Z0.mk (Below.refl w.heap.size w)
 have B1 := Z0.mk h
 have A := bi_Sub m n hm hn
 unfold lim at A
 rw [if_pos hr] at A
 obtain ⟨k, A⟩ := A.as
 go_enter Tryz.func53, Tryz.ntmps53
 go_wp2_with (refine cG rfl ?_; intro w' hb; replace B1 := fk B1 hb; replace HB := fB HB hb; clear hb)
 go_ret
 exact ⟨rfl, HB.out⟩
theorem mul_ok (hr : Sv.nd (m * n) ≤ 4096) : Calls Tryz.prog 54 #[.pointer (some ⟨g, 0, none⟩), .string s, .string t] w fun e w' => e = .returned (.string (Sv.txt (m * n))) ∧ Below w.heap.size w w' := by
 subst hs ht
 have HB := Z0.mk (Below.refl w.heap.size w)
 have B1 := Z0.mk h
 have A := bi_Mul m n hm hn
 unfold lim at A
 rw [if_pos hr] at A
 obtain ⟨k, A⟩ := A.as
 go_enter Tryz.func54, Tryz.ntmps54
 go_wp2_with (refine cG rfl ?_; intro w' hb; replace B1 := fk B1 hb; replace HB := fB HB hb; clear hb)
 go_ret
 exact ⟨rfl, HB.out⟩
end
instance : Ctr 52 (type_of% @add_ok) := ⟨@add_ok, _, Tryz.func52, by kernel_rfl, rfl⟩
instance : Ctr 53 (type_of% @sub_ok) := ⟨@sub_ok, _, Tryz.func53, by kernel_rfl, rfl⟩
instance : Ctr 54 (type_of% @mul_ok) := ⟨@mul_ok, _, Tryz.func54, by kernel_rfl, rfl⟩
theorem rem_ok (m n : Int) (w : World) (hL : LaidW w) (h0 : n ≠ 0) (hm : Sv.nd m ≤ 4096) (hn : Sv.nd n ≤ 4096) :
  Calls Tryz.prog 70 #[.string (Sv.txt m), .string (Sv.txt n)] w fun e w' => e = .returned (.tuple #[.string (Sv.txt (m.fmod n)), .int .i64 0]) ∧ Below w.heap.size w w' := by
 have HB := Z0.mk (Below.refl w.heap.size w)
 obtain ⟨k, A⟩ := (bi_divided m n h0 hm hn).as
 go_enter Tryz.func70, Tryz.ntmps70
 go_wp2_with (refine cG rfl ?_; intro w' hb; replace HB := fB HB hb; clear hb)
 go_ret2
 exact ⟨rfl, HB.out⟩
theorem numbers_ok (w : World) (hL : LaidW w) : Calls Tryz.prog 51 #[] w fun e w' => e = .returned (.bool true) ∧ Below w.heap.size w w' := by
 have HB := Z0.mk (Below.refl w.heap.size w)
 have d : ∀ n : Int, n.natAbs < 100 → Sv.nd n ≤ 2 := fun n h => Sv.nd_le (by omega) (by omega)
 have t7 : Sv.txt 7 = ⟨#[55]⟩ := by simp [Sv.txt, Sv.txtL, Sv.txtN, Sv.dg, Sv.dch]
 have t3 : Sv.txt 3 = ⟨#[51]⟩ := by simp [Sv.txt, Sv.txtL, Sv.txtN, Sv.dg, Sv.dch]
 have t4 : Sv.txt 4 = ⟨#[52]⟩ := by simp [Sv.txt, Sv.txtL, Sv.txtN, Sv.dg, Sv.dch]
 have t6 : Sv.txt (-6) = ⟨#[45, 54]⟩ := by simp [Sv.txt, Sv.txtL, Sv.txtN, Sv.dg, Sv.dch]
 have t21 : Sv.txt (-21) = ⟨#[45, 50, 49]⟩ := by simp [Sv.txt, Sv.txtL, Sv.txtN, Sv.dg, Sv.dch]
 have A := bi_Mul 7 (-3) (by have := d 7 (by decide); omega) (by have := d (-3) (by decide); omega)
 unfold lim at A
 rw [show (7 : Int) * (-3) = -21 from rfl, if_pos (by have := d (-21) (by decide); omega), t7, tm3, t21] at A
 obtain ⟨k1, A1⟩ := A.as
 have A := bi_Quo (-21) 4 (by decide) (by have := d (-21) (by decide); omega) (by have := d 4 (by decide); omega)
 rw [show (-21 : Int).fdiv 4 = -6 from rfl, t21, t4, t6] at A
 obtain ⟨k2, A2⟩ := A.as
 have A := bi_divided (-21) 4 (by decide) (by have := d (-21) (by decide); omega) (by have := d 4 (by decide); omega)
 have C := fun w hL => rem_ok (-21) 4 w hL (by decide) (by have := d (-21) (by decide); omega) (by have := d 4 (by decide); omega)
 rw [show (-21 : Int).fmod 4 = 3 from rfl, t21, t4, t3] at C
 have A := addE q12 q13 (by have := ndR_lit 1 2 (by decide) (by decide) (by decide) (by decide); have := ndR_lit 1 3 (by decide) (by decide) (by decide) (by decide); unfold q12 q13; omega)
 rw [e_add, r12, r13, r56] at A
 obtain ⟨k4, A4⟩ := A.as
 have I : Ctr 70 (type_of% C) := ⟨C, _, Tryz.func70, by kernel_rfl, rfl⟩
 go_enter Tryz.func51, Tryz.ntmps51
 go_wp2_with (refine cG rfl ?_; intro w' hb; replace HB := fB HB hb; clear hb)
 go_ret
 exact ⟨rfl, HB.out⟩
instance : Ctr 51 (type_of% @numbers_ok) := ⟨@numbers_ok, _, Tryz.func51, by kernel_rfl, rfl⟩
noncomputable def whB (l : List ByteArray) : Bool := l.all fun s => decide (s.size ≤ 400) && decide (chkI s = 0)
theorem whole_ok (A : Option Addr) (c : Nat) (l : List ByteArray) (w : World) (hC : Z0 (Kd.string.C w A l.length l)) (hm : l.length ≤ 1000) :
  Calls Tryz.prog 50 #[.slice A l.length c] w fun e w' => e = .returned (.bool (whB l)) ∧ Below w.heap.size w w' := by
 have HB := Z0.mk (Below.refl w.heap.size w)
 go_enter Tryz.func50, Tryz.ntmps50
 go_wp2
 go_loopw [7] (fun i wr => ∃ j : Nat, j ≤ l.length ∧ i = .int .i64 j ∧ (∀ t, (h : t < j) → (h' : t < l.length) → l[t].size ≤ 400 ∧ chkI l[t] = 0) ∧ Z0 (Kd.string.C wr A l.length l) ∧ Z0 (Below w.heap.size w wr))
  (fun i _ => l.length - (Go.RowKit.intOf i).toNat)
 case atStart => exact ⟨0, by omega, rfl, fun t h => absurd h (by omega), hC, HB⟩
 clear hC HB
 obtain ⟨j, hj, rfl, hok, HC, HB⟩ := hrel
 rcases Nat.lt_or_ge j l.length with h4 | h4
 · obtain ⟨ad, rfl, hx, p, q⟩ := asI HC.out (j : Int) (by omega) (by omega)
   rw [Int.toNat_natCast] at hx
   have hs : rdOf ByteArray.empty l (j : Int) = l[j] := by simp [rdOf, h4]
   rw [hs] at hx
   clear hs
   have c4 : decide ((j : Int) < l.length) = true := decide_eq_true (by omega)
   by_cases hz : 400 < (l[j].size : Int)
   · have cz : decide (400 < (l[j].size : Int)) = true := decide_eq_true hz
     have e : whB l = false := by
      refine Bool.eq_false_iff.mpr fun e => ?_
      have := List.all_eq_true.1 e l[j] (List.getElem_mem h4)
      simp at this
      omega
     go_wp2
     go_ret
     exact ⟨by rw [e]; rfl, HB.out⟩
   have cz : decide (400 < (l[j].size : Int)) = false := decide_eq_false hz
   obtain ⟨kC, hC⟩ := (ref_Check l[j] (by omega)).as
   by_cases h0 : chkI l[j] = 0
   · rw [h0] at hC
     go_wp2_with (refine cC ?_; intro w' hb; replace HC := Z0.mk (Kd.C_below HC.out hb); replace HB := fB HB hb; clear hb)
     refine ⟨⟨j + 1, by omega, by simp, fun t ht ht' => ?_, HC, HB⟩, by simp [Go.RowKit.intOf]; omega⟩
     rcases Nat.lt_or_ge t j with h | h
     · exact hok t h ht'
     · obtain rfl : t = j := by omega
       exact ⟨by omega, h0⟩
   have h0' : (chkI l[j] != 0) = true := bne_iff_ne.mpr h0
   have e : whB l = false := by
    refine Bool.eq_false_iff.mpr fun e => ?_
    have := List.all_eq_true.1 e l[j] (List.getElem_mem h4)
    simp at this
    exact h0 this.2
   go_wp2_with (refine cC ?_; intro w' hb; replace HB := fB HB hb; clear hb)
   go_ret
   exact ⟨by rw [e]; rfl, HB.out⟩
 obtain rfl : j = l.length := by omega
 have e : whB l = true := by
  refine List.all_eq_true.2 fun s hs => ?_
  obtain ⟨t, ht, rfl⟩ := List.getElem_of_mem hs
  have := hok t ht ht
  simp [this.1, this.2]
 go_wp2
 go_ret
 exact ⟨by rw [e]; rfl, HB.out⟩
theorem whole_ok' (A : Option Addr) (n c : Nat) (l : List ByteArray) (w : World) (hC : Z0 (Kd.string.C w A n l)) (hn : n = l.length) (hm : n ≤ 1000) :
  Calls Tryz.prog 50 #[.slice A n c] w fun e w' => e = .returned (.bool (whB l)) ∧ Below w.heap.size w w' := by
 subst hn
 exact whole_ok A c l w hC hm
instance : Ctr 50 (type_of% @whole_ok') := ⟨@whole_ok', _, Tryz.func50, by kernel_rfl, rfl⟩
theorem of_whB {l : List ByteArray} (h : whB l = true) : ∀ s ∈ l, ∃ n, s = Sv.txt n ∧ Sv.nd n ≤ 400 := by
 intro s hs
 have := List.all_eq_true.1 h s hs
 simp at this
 obtain ⟨n, rfl, _⟩ := of_chkI this.2
 exact ⟨n, rfl, by have := nd_size n; omega⟩
set_option linter.unusedVariables false
set_option linter.unusedSimpArgs false
instance : Ctr 46 (type_of% @rASub.calls) := ⟨@rASub.calls, _, Tryz.func46, by kernel_rfl, rfl⟩
instance : Ctr 41 (type_of% @rAMul.calls) := ⟨@rAMul.calls, _, Tryz.func41, by kernel_rfl, rfl⟩
instance : Ctr 48 (type_of% @rADiv.calls) := ⟨@rADiv.calls, _, Tryz.func48, by kernel_rfl, rfl⟩
instance : Ctr 34 (type_of% @rACompare.calls) := ⟨@rACompare.calls, _, Tryz.func34, by kernel_rfl, rfl⟩
instance : Ctr 29 (type_of% @rFCheck.calls) := ⟨@rFCheck.calls, _, Tryz.func29, by kernel_rfl, rfl⟩
theorem ofR_ok (g : Nat) (a : ByteArray) (w : World) (h : St w g 69) :
  Calls Tryz.prog 104 #[.pointer (some ⟨g, 0, none⟩), .string a, .int .i64 0] w fun e w' => e = .returned (.string a) ∧ Below w.heap.size w w' := by
 have hc := b1 ⟨h⟩
 have hf : w.frozen? ⟨g, 0, none⟩ = false := blk_frozen h 0
 have hs := setCell_self h
 go_enter Tryz.func104, Tryz.ntmps104
 go_wp2
 go_ret
 exact ⟨rfl, by first | exact Below.refl _ _ | (rw [hs]; exact Below.refl _ _)⟩
instance : Ctr 104 (type_of% @ofR_ok) := ⟨@ofR_ok, _, Tryz.func104, by kernel_rfl, rfl⟩
section
variable (g : Nat) (s t : ByteArray) (p q : Rat) (w : World) (hL : LaidW w) (h : St w g 69) (hs : s = Sv.rtxt p) (ht : t = Sv.rtxt q)
include hL h hs ht
theorem addR_ok (hr : ndR p + ndR q + 1 ≤ 4096) : Calls Tryz.prog 57 #[.pointer (some ⟨g, 0, none⟩), .string s, .string t] w fun e w' => e = .returned (.string (Sv.rtxt (p + q))) ∧ Below w.heap.size w w' := by
 subst hs ht
 have HB := Z0.mk (Below.refl w.heap.size w)
 have B1 := Z0.mk h
 obtain ⟨k, A⟩ := (addE p q hr).as
 go_enter Tryz.func57, Tryz.ntmps57
 go_wp2_with (refine cG rfl ?_; intro w' hb; replace B1 := fk B1 hb; replace HB := fB HB hb; clear hb)
 go_ret
 exact ⟨rfl, HB.out⟩
theorem subR_ok (hr : ndR p + ndR q + 1 ≤ 4096) : Calls Tryz.prog 58 #[.pointer (some ⟨g, 0, none⟩), .string s, .string t] w fun e w' => e = .returned (.string (Sv.rtxt (p - q))) ∧ Below w.heap.size w w' := by
 subst hs ht
 have HB := Z0.mk (Below.refl w.heap.size w)
 have B1 := Z0.mk h
 obtain ⟨k, A⟩ := (subE p q hr).as
 go_enter Tryz.func58, Tryz.ntmps58
 go_wp2_with (refine cG rfl ?_; intro w' hb; replace B1 := fk B1 hb; replace HB := fB HB hb; clear hb)
 go_ret
 exact ⟨rfl, HB.out⟩
theorem mulR_ok (hr : ndR p + ndR q + 1 ≤ 4096) : Calls Tryz.prog 59 #[.pointer (some ⟨g, 0, none⟩), .string s, .string t] w fun e w' => e = .returned (.string (Sv.rtxt (p * q))) ∧ Below w.heap.size w w' := by
 subst hs ht
 have HB := Z0.mk (Below.refl w.heap.size w)
 have B1 := Z0.mk h
 obtain ⟨k, A⟩ := (mulE p q hr).as
 go_enter Tryz.func59, Tryz.ntmps59
 go_wp2_with (refine cG rfl ?_; intro w' hb; replace B1 := fk B1 hb; replace HB := fB HB hb; clear hb)
 go_ret
 exact ⟨rfl, HB.out⟩
theorem divR_ok (hr : ndR p + ndR q + 1 ≤ 4096) (h0 : q ≠ 0) : Calls Tryz.prog 60 #[.pointer (some ⟨g, 0, none⟩), .string s, .string t] w fun e w' => e = .returned (.string (Sv.rtxt (p / q))) ∧ Below w.heap.size w w' := by
 subst hs ht
 have HB := Z0.mk (Below.refl w.heap.size w)
 have B1 := Z0.mk h
 obtain ⟨k, A⟩ := (divE p q hr h0).as
 go_enter Tryz.func60, Tryz.ntmps60
 go_wp2_with (refine cG rfl ?_; intro w' hb; replace B1 := fk B1 hb; replace HB := fB HB hb; clear hb)
 go_ret
 exact ⟨rfl, HB.out⟩
theorem ordR_ok (hr : ndR p + ndR q + 1 ≤ 4096) : Calls Tryz.prog 61 #[.pointer (some ⟨g, 0, none⟩), .string s, .string t] w fun e w' => e = .returned (.int .i64 (sgn p q)) ∧ Below w.heap.size w w' := by
 subst hs ht
 have HB := Z0.mk (Below.refl w.heap.size w)
 have B1 := Z0.mk h
 obtain ⟨k, A⟩ := (cmpE p q hr).as
 go_enter Tryz.func61, Tryz.ntmps61
 go_wp2_with (refine cG rfl ?_; intro w' hb; replace B1 := fk B1 hb; replace HB := fB HB hb; clear hb; have hc := b1 B1; have hf : w'.frozen? ⟨g, 0, none⟩ = false := blk_frozen B1.out 0; have hs := setCell_self B1.out)
 go_ret
 exact ⟨rfl, by first | exact HB.out | (rw [hs]; exact HB.out)⟩
end
instance : Ctr 57 (type_of% @addR_ok) := ⟨@addR_ok, _, Tryz.func57, by kernel_rfl, rfl⟩
instance : Ctr 58 (type_of% @subR_ok) := ⟨@subR_ok, _, Tryz.func58, by kernel_rfl, rfl⟩
instance : Ctr 59 (type_of% @mulR_ok) := ⟨@mulR_ok, _, Tryz.func59, by kernel_rfl, rfl⟩
instance : Ctr 60 (type_of% @divR_ok) := ⟨@divR_ok, _, Tryz.func60, by kernel_rfl, rfl⟩
instance : Ctr 61 (type_of% @ordR_ok) := ⟨@ordR_ok, _, Tryz.func61, by kernel_rfl, rfl⟩
noncomputable def brB (l : List ByteArray) : Bool := l.all fun s => decide (s.size ≤ 250) && decide (chkR s = 0)
theorem broken_ok (A : Option Addr) (c : Nat) (l : List ByteArray) (w : World) (hC : Z0 (Kd.string.C w A l.length l)) (hL : LaidW w) (hm : l.length ≤ 1000) :
  Calls Tryz.prog 56 #[.slice A l.length c] w fun e w' => e = .returned (.bool (brB l)) ∧ Below w.heap.size w w' := by
 have HB := Z0.mk (Below.refl w.heap.size w)
 go_enter Tryz.func56, Tryz.ntmps56
 go_wp2
 go_loopw [7] (fun i wr => ∃ j : Nat, j ≤ l.length ∧ i = .int .i64 j ∧ (∀ t, (h : t < j) → (h' : t < l.length) → l[t].size ≤ 250 ∧ chkR l[t] = 0) ∧ Z0 (Kd.string.C wr A l.length l) ∧ Z0 (Below w.heap.size w wr))
  (fun i _ => l.length - (Go.RowKit.intOf i).toNat)
 case atStart => exact ⟨0, by omega, rfl, fun t h => absurd h (by omega), hC, HB⟩
 clear hC HB
 obtain ⟨j, hj, rfl, hok, HC, HB⟩ := hrel
 rcases Nat.lt_or_ge j l.length with h4 | h4
 · obtain ⟨ad, rfl, hx, p, q⟩ := asI HC.out (j : Int) (by omega) (by omega)
   rw [Int.toNat_natCast] at hx
   have hs : rdOf ByteArray.empty l (j : Int) = l[j] := by simp [rdOf, h4]
   rw [hs] at hx
   clear hs
   have c4 : decide ((j : Int) < l.length) = true := decide_eq_true (by omega)
   by_cases hz : 250 < (l[j].size : Int)
   · have cz : decide (250 < (l[j].size : Int)) = true := decide_eq_true hz
     have e : brB l = false := by
      refine Bool.eq_false_iff.mpr fun e => ?_
      have := List.all_eq_true.1 e l[j] (List.getElem_mem h4)
      simp at this
      omega
     go_wp2
     go_ret
     exact ⟨by rw [e]; rfl, HB.out⟩
   have cz : decide (250 < (l[j].size : Int)) = false := decide_eq_false hz
   obtain ⟨kC, hC⟩ := (Okt.of (s := l[j]) (by omega)).ref.as
   by_cases h0 : chkR l[j] = 0
   · rw [h0] at hC
     go_wp2_with (refine cC ?_; intro w' hb; replace HC := Z0.mk (Kd.C_below HC.out hb); replace HB := fB HB hb; clear hb)
     refine ⟨⟨j + 1, by omega, by simp, fun t ht ht' => ?_, HC, HB⟩, by simp [Go.RowKit.intOf]; omega⟩
     rcases Nat.lt_or_ge t j with h | h
     · exact hok t h ht'
     · obtain rfl : t = j := by omega
       exact ⟨by omega, h0⟩
   have h0' : (chkR l[j] != 0) = true := bne_iff_ne.mpr h0
   have e : brB l = false := by
    refine Bool.eq_false_iff.mpr fun e => ?_
    have := List.all_eq_true.1 e l[j] (List.getElem_mem h4)
    simp at this
    exact h0 this.2
   go_wp2_with (refine cC ?_; intro w' hb; replace HB := fB HB hb; clear hb)
   go_ret
   exact ⟨by rw [e]; rfl, HB.out⟩
 obtain rfl : j = l.length := by omega
 have e : brB l = true := by
  refine List.all_eq_true.2 fun s hs => ?_
  obtain ⟨t, ht, rfl⟩ := List.getElem_of_mem hs
  have := hok t ht ht
  simp [this.1, this.2]
 go_wp2
 go_ret
 exact ⟨by rw [e]; rfl, HB.out⟩
theorem broken_ok' (A : Option Addr) (n c : Nat) (l : List ByteArray) (w : World) (hC : Z0 (Kd.string.C w A n l)) (hL : LaidW w) (hn : n = l.length) (hm : n ≤ 1000) :
  Calls Tryz.prog 56 #[.slice A n c] w fun e w' => e = .returned (.bool (brB l)) ∧ Below w.heap.size w w' := by
 subst hn
 exact broken_ok A c l w hC hL hm
instance : Ctr 56 (type_of% @broken_ok') := ⟨@broken_ok', _, Tryz.func56, by kernel_rfl, rfl⟩
theorem of_brB {l : List ByteArray} (h : brB l = true) : ∀ s ∈ l, ∃ q, s = Sv.rtxt q ∧ ndR q ≤ 251 := by
 intro s hs
 have := List.all_eq_true.1 h s hs
 simp at this
 obtain ⟨q, rfl, _⟩ := of_chkR this.2
 exact ⟨q, rfl, by have := ndR_size q; omega⟩
set_option linter.unusedVariables false
set_option linter.unusedSimpArgs false
instance : Ctr 30 (type_of% @rAOf.calls) := ⟨@rAOf.calls, _, Tryz.func30, by kernel_rfl, rfl⟩
instance : Ctr 18 (type_of% @rANum.calls) := ⟨@rANum.calls, _, Tryz.func18, by kernel_rfl, rfl⟩
instance : Ctr 19 (type_of% @rADen.calls) := ⟨@rADen.calls, _, Tryz.func19, by kernel_rfl, rfl⟩
instance : Ctr 21 (type_of% @rAFloor.calls) := ⟨@rAFloor.calls, _, Tryz.func21, by kernel_rfl, rfl⟩
instance : Ctr 22 (type_of% @rACeil.calls) := ⟨@rACeil.calls, _, Tryz.func22, by kernel_rfl, rfl⟩
instance : Ctr 37 (type_of% @bIGcd.calls) := ⟨@bIGcd.calls, _, Tryz.func37, by kernel_rfl, rfl⟩
instance : Ctr 38 (type_of% @bISign.calls) := ⟨@bISign.calls, _, Tryz.func38, by kernel_rfl, rfl⟩
theorem Rounded_true (s0 s1 : ByteArray) (w : World) (hL : LaidW w) :
  Calls Tryz.prog 15 #[.string s0, .string s1] w fun e w' => e = .returned (.bool true) ∧ Below w.heap.size w w' := by
 have HB := Z0.mk (Below.refl w.heap.size w)
 go_enter Tryz.func15, Tryz.ntmps15
 cases hw : brB [s0]
 · go_wp2_with (first
    | ((with_reducible refine gd_ 22 rfl ?_); refine litS [s0] ?_; intro A c w3 hb hc HC; replace HC := Z0.mk HC; replace HB := fB HB hb; clear hb)
    | (refine cG rfl ?_; intro w' hb; replace HB := fB HB hb; clear hb))
   go_ret
   exact ⟨rfl, HB.out⟩
 cases hv : whB [s1]
 · go_wp2_with (first
    | ((with_reducible refine gd_ 22 rfl ?_); refine litS [s0] ?_; intro A c w3 hb hc HC; replace HC := Z0.mk HC; replace HB := fB HB hb; clear hb)
    | (go_at_call 50; have HC2 := litC w' 25 [s1]; refine cC ?_; intro w' hb; replace HB := fB HB hb; clear hb)
    | (refine cG rfl ?_; intro w' hb; (try (replace B1 := fk B1 hb; (try clear p0); have p0 := b1 B1)); replace HB := fB HB hb; clear hb)
    | (refine cC ?_; intro w' hb; (try (replace B1 := fk B1 hb; (try clear p0); have p0 := b1 B1)); replace HB := fB HB hb; clear hb))
   go_ret
   exact ⟨rfl, HB.out⟩
 obtain ⟨a, rfl, ha⟩ := of_brB hw s0 (by simp)
 obtain ⟨k, rfl, hk⟩ := of_whB hv s1 (by simp)
 obtain ⟨k1, A1⟩ := (rat_Floor a (by omega)).as
 obtain ⟨k2, A2⟩ := (rat_Ceil a (by omega)).as
 obtain ⟨k3, A3⟩ := (numE a (by omega)).as
 obtain ⟨k4, A4⟩ := (denE a (by omega)).as
 have r2 := ndR_nd a
 have A5 := rat_Of a.num a.den (den_ne a) (by omega) (by omega)
 rw [show Rat.divInt a.num a.den = a from Rat.num_divInt_den a] at A5
 obtain ⟨k5, A5⟩ := A5.as
 have A6 := bi_Gcd a.num a.den (by omega) (by omega)
 rw [show ((Int.gcd a.num a.den : Nat) : Int) = 1 from congrArg _ a.reduced] at A6
 obtain ⟨k6, A6⟩ := A6.as
 have A7 := bi_Sign a.den (by omega)
 rw [Int.sign_eq_one_of_pos (by have := a.den_pos; omega)] at A7
 obtain ⟨k7, A7⟩ := A7.as
 have zf := Z0.mk (rtxt_int a.floor).symm
 have zc := Z0.mk (rtxt_int a.ceil).symm
 have w1 : Sv.nd 1 ≤ 1 := nd_lt10 (by decide)
 have w2 := nd_floor1 a
 have w3 : Sv.nd a.ceil ≤ 260 := by
  rw [ceil_split a]
  split
  · omega
  · have := nd_add a.floor 1; omega
 have nf : ndR (a.floor : Rat) ≤ 260 := by show max (Sv.nd a.floor) (Sv.nd 1) ≤ 260; omega
 have nc : ndR (a.ceil : Rat) ≤ 260 := by show max (Sv.nd a.ceil) (Sv.nd 1) ≤ 260; omega
 have f1 : decide (0 < sgn (a.floor : Rat) a) = false := by
  have := (sgn_le (a.floor : Rat) a).2 (Rat.floor_le a)
  simp; omega
 have f2 : decide (0 < sgn a (a.ceil : Rat)) = false := by
  have := (sgn_le a (a.ceil : Rat)).2 Rat.le_ceil
  simp; omega
 have e3 : (Sv.txt 1).toList = ([49] : List UInt8) := ba_list _ _ txt1
 have e0 : (Sv.txt 0).toList = ([48] : List UInt8) := ba_list _ _ r0
 have hk0 : ((Sv.txt k).toList == ([48] : List UInt8)) = decide (k = 0) := by
  by_cases h : k = 0
  · rw [h]; simp [e0]
  · rw [decide_eq_false h]; exact beq_eq_false_iff_ne.mpr fun e => h ((txt_eq0 k).1 e)
 have A8 := bi_Sub a.ceil a.floor (by omega) (by omega)
 have A9 := bi_Mul a.num k (by omega) (by omega)
 have A10 := bi_Mul a.den k (by omega) (by omega)
 have n9 := nd_mul a.num k
 have n10 := nd_mul a.den k
 unfold lim at A8 A9 A10
 rw [if_pos (by omega)] at A9 A10
 obtain ⟨k9, A9⟩ := A9.as
 obtain ⟨k10, A10⟩ := A10.as
 have A11 : k ≠ 0 → Ev (fun i => rAOf.f i (Sv.txt (a.num * k)) (Sv.txt (a.den * k))) (Sv.rtxt a, 0) := fun h => by
  have := rat_Of (a.num * k) (a.den * k) (Int.mul_ne_zero (den_ne a) h) (by omega) (by omega)
  rwa [Rat.divInt_mul_right h, show Rat.divInt a.num a.den = a from Rat.num_divInt_den a] at this
 have cs := ceil_split a
 obtain ⟨gp, e1, k8, A8⟩ : ∃ gp : Bool, ((Sv.txt a.den).toList == ([49] : List UInt8)) = !gp ∧ ∃ k8, Z0 (bISub.f k8 (Sv.txt a.ceil) (Sv.txt a.floor) = some (Sv.txt (if gp then 1 else 0), 0)) := by
  by_cases hd : a.den = 1
  · rw [if_pos hd] at cs
    rw [cs, Int.sub_self, if_pos (by have := nd_lt10 (n := 0) (by decide); omega)] at A8
    obtain ⟨k8, A8⟩ := A8.as
    exact ⟨false, by rw [hd]; simp [e3], k8, by rw [cs]; exact A8⟩
  · rw [if_neg hd] at cs
    rw [cs, show a.floor + 1 - a.floor = 1 by omega, if_pos (by omega)] at A8
    obtain ⟨k8, A8⟩ := A8.as
    refine ⟨true, beq_eq_false_iff_ne.mpr fun e => hd ?_, k8, by rw [cs]; exact A8⟩
    have := Sv.txt_inj.1 (ba_ext (a := Sv.txt a.den) (b := Sv.txt 1) (by rw [← ByteArray.toList_eq, ← ByteArray.toList_eq, e, e3]))
    omega
 clear cs
 by_cases h0 : k = 0
 · rw [decide_eq_true h0] at hk0
   clear h0
   cases gp
   · go_wp2_with (first
        | ((with_reducible refine gd_ 22 rfl ?_); refine litS [Sv.rtxt a] ?_; intro A c w3 hb hc HC; replace HC := Z0.mk HC; replace HB := fB HB hb; clear hb)
        | (go_at_call 50; have HC2 := litC w' 25 [Sv.txt k]; refine cC ?_; intro w' hb; replace HB := fB HB hb; clear hb)
        | ((with_reducible refine gd_ 33 rfl ?_); refine bxE 33 #[.bool true] 69 ?_; intro g hg w1 hbox hb; have B1 := Z0.mk hbox; replace HB := fB HB hb; clear hb hbox hg; have p0 := b1 B1)
        | (refine cG rfl ?_; intro w' hb; (try (replace B1 := fk B1 hb; (try clear p0); have p0 := b1 B1)); replace HB := fB HB hb; clear hb)
        | (refine cC ?_; intro w' hb; (try (replace B1 := fk B1 hb; (try clear p0); have p0 := b1 B1)); replace HB := fB HB hb; clear hb))
     go_ret
     exact ⟨rfl, HB.out⟩
   · go_wp2_with (first
        | ((with_reducible refine gd_ 22 rfl ?_); refine litS [Sv.rtxt a] ?_; intro A c w3 hb hc HC; replace HC := Z0.mk HC; replace HB := fB HB hb; clear hb)
        | (go_at_call 50; have HC2 := litC w' 25 [Sv.txt k]; refine cC ?_; intro w' hb; replace HB := fB HB hb; clear hb)
        | ((with_reducible refine gd_ 33 rfl ?_); refine bxE 33 #[.bool true] 69 ?_; intro g hg w1 hbox hb; have B1 := Z0.mk hbox; replace HB := fB HB hb; clear hb hbox hg; have p0 := b1 B1)
        | (refine cG rfl ?_; intro w' hb; (try (replace B1 := fk B1 hb; (try clear p0); have p0 := b1 B1)); replace HB := fB HB hb; clear hb)
        | (refine cC ?_; intro w' hb; (try (replace B1 := fk B1 hb; (try clear p0); have p0 := b1 B1)); replace HB := fB HB hb; clear hb))
     go_ret
     exact ⟨rfl, HB.out⟩
 rw [decide_eq_false h0] at hk0
 obtain ⟨k11, A11⟩ := (A11 h0).as
 cases gp
 · go_wp2_with (first
      | ((with_reducible refine gd_ 22 rfl ?_); refine litS [Sv.rtxt a] ?_; intro A c w3 hb hc HC; replace HC := Z0.mk HC; replace HB := fB HB hb; clear hb)
      | (go_at_call 50; have HC2 := litC w' 25 [Sv.txt k]; refine cC ?_; intro w' hb; replace HB := fB HB hb; clear hb)
      | ((with_reducible refine gd_ 33 rfl ?_); refine bxE 33 #[.bool true] 69 ?_; intro g hg w1 hbox hb; have B1 := Z0.mk hbox; replace HB := fB HB hb; clear hb hbox hg; have p0 := b1 B1)
      | (refine cG rfl ?_; intro w' hb; (try (replace B1 := fk B1 hb; (try clear p0); have p0 := b1 B1)); replace HB := fB HB hb; clear hb)
      | (refine cC ?_; intro w' hb; (try (replace B1 := fk B1 hb; (try clear p0); have p0 := b1 B1)); replace HB := fB HB hb; clear hb))
   go_ret
   exact ⟨rfl, HB.out⟩
 · go_wp2_with (first
      | ((with_reducible refine gd_ 22 rfl ?_); refine litS [Sv.rtxt a] ?_; intro A c w3 hb hc HC; replace HC := Z0.mk HC; replace HB := fB HB hb; clear hb)
      | (go_at_call 50; have HC2 := litC w' 25 [Sv.txt k]; refine cC ?_; intro w' hb; replace HB := fB HB hb; clear hb)
      | ((with_reducible refine gd_ 33 rfl ?_); refine bxE 33 #[.bool true] 69 ?_; intro g hg w1 hbox hb; have B1 := Z0.mk hbox; replace HB := fB HB hb; clear hb hbox hg; have p0 := b1 B1)
      | (refine cG rfl ?_; intro w' hb; (try (replace B1 := fk B1 hb; (try clear p0); have p0 := b1 B1)); replace HB := fB HB hb; clear hb)
      | (refine cC ?_; intro w' hb; (try (replace B1 := fk B1 hb; (try clear p0); have p0 := b1 B1)); replace HB := fB HB hb; clear hb))
   go_ret
   exact ⟨rfl, HB.out⟩
end Go.Proofs.YthnfajboebaajaaGreatDoor.PA
