import Derived.Test.YthnfajboebaajaaGreatDoorAG1
import Derived.Test.YthnfajboebaajaaGreatDoorAP2
import Derived.Test.YthnfajboebaajaaGreatDoorAG8
import Derived.Test.YthnfajboebaajaaGreatDoorAG3
import Derived.Test.YthnfajboebaajaaGreatDoorAG4
set_option maxHeartbeats 8000000
set_option maxRecDepth 100000
set_option linter.unusedVariables false
set_option linter.unusedVariables false
namespace Go.Proofs.YthnfajboebaajaaGreatDoor.PA
open Go.RowKit Go.Proofs.WWords Go.Proofs.WLast Go.Proofs.WMore
class Ctr (f : FuncId) (T : outParam Prop) : Prop where
  pf : T
  hf : ∃ fn, Tryz.prog.funcs[f]? = some fn ∧ (fn.name == "runtime.NumGoroutine") = false ∧ fn.body.isSome = true
theorem drB {f : FuncId} {args : Array Value} {w : World} {x : Ending} (h : Calls Tryz.prog f args w fun e w' => e = x ∧ Drawn0 w w') : Calls Tryz.prog f args w fun e w' => e = x ∧ Below w.heap.size w w' :=
  h.mono fun _ _ h => ⟨h.1, h.2.below⟩
section
variable {ops : Array Oper} {Q : Exit → Act → World → Prop} {rest : List Oper} {o : Oper} {a : Act} {W : World}
theorem cG {f : FuncId} {ars : Array Operand} {ts : Array TypeId} {args : Array Value} {v : Value} {N : Option Tmp} {T : Prop}
  (hop : o.op = .call { callee := .value (.func f), args := ars, argTypes := ts }) [c : Ctr f T]
  (K : ∀ w', Below W.heap.size W w' → wpList Tryz.prog ops Q rest (a.put N v) w')
  (hd : o.dst = N := by rfl) (hg : o.guard = none := by rfl)
  (hargs : ars.map a.eval = args := by (try simp only [List.map_toArray, List.map_cons, List.map_nil]); first | done | rfl | (simp only [List.length_drop, List.length_take]; rfl))
  (hc : T → Calls Tryz.prog f args W fun e w' => e = .returned v ∧ Below W.heap.size W w' := by intro c; (first | apply c | (apply drB; apply c)); all_goals first | (with_reducible assumption) | exact Z0.out (by with_reducible assumption) | (with_reducible exact hL.below bq) | exact Eq.refl _ | omega | exact Z0.out (by assumption) | exact hL.below bq | exact of_decide_eq_true rfl) : wpList Tryz.prog ops Q (o :: rest) a W := by
  obtain ⟨fn, hf, hn, hb⟩ := c.hf
  refine goesL_ N hd hg hf hn hb args hop hargs ((hc c.pf).mono ?_)
  rintro e w' ⟨rfl, hb⟩
  exact ⟨_, rfl, K w' hb⟩
theorem cC {f : FuncId} {args : Array Value} {R : Ending → World → Prop} {v : Value} {T : Prop} [c : Ctr f T]
  (K : ∀ w', Below W.heap.size W w' → R (.returned v) w')
  (hc : T → Calls Tryz.prog f args W fun e w' => e = .returned v ∧ Below W.heap.size W w' := by intro c; (first | apply c | (apply drB; apply c)); all_goals first | (with_reducible assumption) | exact Z0.out (by with_reducible assumption) | (with_reducible exact hL.below bq) | exact Eq.refl _ | omega | exact Z0.out (by assumption) | exact hL.below bq | exact of_decide_eq_true rfl) : Calls Tryz.prog f args W R := by
  refine (hc c.pf).mono ?_
  rintro e w' ⟨rfl, hb⟩
  exact K w' hb
theorem atC {f : FuncId} {args : Array Value} {R : Ending → World → Prop} (h : Calls Tryz.prog f args W R) : Calls Tryz.prog f args W R := h
theorem litS (xs : List ByteArray) {cs : Array Value} {e : TypeId} {N : Tmp} (K : ∀ A c w', Below W.heap.size W w' → xs.length ≤ c → Kd.string.C w' A xs.length xs → wpList Tryz.prog ops Q rest (a.put (some N) (.slice A xs.length c)) w')
  (hd : o.dst = some N := by rfl) (hg : o.guard = none := by rfl) (hl : xs.length ≤ 1000 := by simp) (he : cs = (encs Value.string xs).toArray := by rfl)
  (hr : Sem.run Tryz.prog (execOp a.eval o) W = Result.ok (Next.value (.slice (some ⟨W.heap.size, 0, none⟩) xs.length xs.length)) (W.alloc (Obj.cells cs e)) := by first | (go_simp; done) | (go_simp; rfl)) : wpList Tryz.prog ops Q (o :: rest) a W := by
  subst he
  refine Kd.R_lit Kd.string W.heap.size e hg hd (xs := xs) (inner := encs Value.string xs) (ok := fun _ => True) (okp := fun _ => True) hr (Kd.reps_scalar xs) (fun _ h => h) trivial (Below.refl _ _) (Nat.le_refl _) (by omega) ?_
  intro v w' ho hb _ _
  obtain ⟨A, c, rfl, hc, hC⟩ := Kd.R_reads ho
  rw [hd]
  exact K A c w' hb hc hC
end
set_option linter.unusedVariables false
set_option linter.unusedSimpArgs false
instance : Ctr 36 (type_of% @rECheck.calls) := ⟨@rECheck.calls, _, Tryz.func36, by kernel_rfl, rfl⟩
instance : Ctr 39 (type_of% @bIMul.calls) := ⟨@bIMul.calls, _, Tryz.func39, by kernel_rfl, rfl⟩
instance : Ctr 103 (type_of% @bIAdd.calls) := ⟨@bIAdd.calls, _, Tryz.func103, by kernel_rfl, rfl⟩
instance : Ctr 33 (type_of% @bISub.calls) := ⟨@bISub.calls, _, Tryz.func33, by kernel_rfl, rfl⟩
instance : Ctr 69 (type_of% @bIQuo.calls) := ⟨@bIQuo.calls, _, Tryz.func69, by kernel_rfl, rfl⟩
instance : Ctr 43 (type_of% @rAAdd.calls) := ⟨@rAAdd.calls, _, Tryz.func43, by kernel_rfl, rfl⟩
instance : Ctr 111 (type_of% @bIdivided.calls) := ⟨@bIdivided.calls, _, Tryz.func111, by kernel_rfl, rfl⟩
theorem Ev.as {α : Type} {f : Nat → Option α} {x : α} (h : Ev f x) : ∃ k, Z0 (f k = some x) := let ⟨k, h⟩ := h.ex; ⟨k, ⟨h⟩⟩
theorem ba_ne {s t : ByteArray} (h : s ≠ t) : (s.toList == t.toList) = false := beq_eq_false_iff_ne.mpr fun e => h (ba_ext (by rw [ByteArray.toList_eq, ByteArray.toList_eq] at e; exact e))
theorem setCell_self {w : World} {g t : Nat} {v : Value} (h : w.heap[g]? = some (.cells #[v] t (0, 0))) : w.setCell ⟨g, 0, none⟩ v = w := by
  obtain ⟨hg, hv⟩ := Array.getElem?_eq_some_iff.1 h
  have e : (w.setCell ⟨g, 0, none⟩ v).heap = w.heap := by
    apply Array.ext_getElem?
    intro i
    simp only [World.setCell, Array.getElem?_modify]
    split
    · subst_vars
      rw [h]; rfl
    · rfl
  unfold World.setCell at e ⊢
  simp only at e
  rw [e]
theorem b1 {w : World} {g t : Nat} {c : Value} (h : Z0 (w.heap[g]? = some (.cells #[c] t (0, 0)))) : w.cell? ⟨g, 0, none⟩ = some c := (blk_cell h.out 0).trans rfl
abbrev St (w : World) (g t : Nat) : Prop := w.heap[g]? = some (.cells #[.bool true] t (0, 0))
theorem of_ok (g : Nat) (a : ByteArray) (w : World) (h : St w g 64) :
  Calls Tryz.prog 55 #[.pointer (some ⟨g, 0, none⟩), .string a, .int .i64 0] w fun e w' => e = .returned (.string a) ∧ Below w.heap.size w w' := by
 have hc : w.cell? ⟨g, 0, none⟩ = some (.bool true) := (blk_cell h 0).trans rfl
 have hf : w.frozen? ⟨g, 0, none⟩ = false := blk_frozen h 0
 have hs := setCell_self h
 go_enter Tryz.func55, Tryz.ntmps55
 go_wp2
 go_ret
 exact ⟨rfl, by first | exact Below.refl _ _ | (rw [hs]; exact Below.refl _ _)⟩
instance : Ctr 55 (type_of% @of_ok) := ⟨@of_ok, _, Tryz.func55, by kernel_rfl, rfl⟩
section
variable (g : Nat) (s t : ByteArray) (m n : Int) (w : World) (hL : LaidW w) (h : St w g 64) (hs : s = Sv.txt m) (ht : t = Sv.txt n) (hm : Sv.nd m ≤ 4096) (hn : Sv.nd n ≤ 4096)
include hL h hs ht hm hn
theorem add_ok (hr : Sv.nd (m + n) ≤ 4096) : Calls Tryz.prog 52 #[.pointer (some ⟨g, 0, none⟩), .string s, .string t] w fun e w' => e = .returned (.string (Sv.txt (m + n))) ∧ Below w.heap.size w w' := by
 subst hs ht
 have HB := Z0.mk (Below.refl w.heap.size w)
 have B1 := Z0.mk h
 have A := bi_Add m n hm hn
 unfold lim at A
 rw [if_pos hr] at A
 obtain ⟨k, A⟩ := A.as
 go_enter Tryz.func52, Tryz.ntmps52
 go_wp2_with (refine cG rfl ?_; intro w' hb; replace B1 := fk B1 hb; replace HB := fB HB hb; clear hb)
 go_ret
 exact ⟨rfl, HB.out⟩
theorem sub_ok (hr : Sv.nd (m - n) ≤ 4096) : Calls Tryz.prog 53 #[.pointer (some ⟨g, 0, none⟩), .string s, .string t] w fun e w' => e = .returned (.string (Sv.txt (m - n))) ∧ Below w.heap.size w w' := by
 subst hs ht
 have HB := Z0.mk (Below.refl w.heap.size w)
 have B1 := Z0.mk h
 have A := bi_Sub m n hm hn
 unfold lim at A
 rw [if_pos hr] at A
 obtain ⟨k, A⟩ := A.as
 go_enter Tryz.func53, Tryz.ntmps53
 go_wp2_with (refine cG rfl ?_; intro w' hb; replace B1 := fk B1 hb; replace HB := fB HB hb; clear hb)
 go_ret
 exact ⟨rfl, HB.out⟩
theorem mul_ok (hr : Sv.nd (m * n) ≤ 4096) : Calls Tryz.prog 54 #[.pointer (some ⟨g, 0, none⟩), .string s, .string t] w fun e w' => e = .returned (.string (Sv.txt (m * n))) ∧ Below w.heap.size w w' := by
 subst hs ht
 have HB := Z0.mk (Below.refl w.heap.size w)
 have B1 := Z0.mk h
 have A := bi_Mul m n hm hn
 unfold lim at A
 rw [if_pos hr] at A
 obtain ⟨k, A⟩ := A.as
 go_enter Tryz.func54, Tryz.ntmps54
 go_wp2_with (refine cG rfl ?_; intro w' hb; replace B1 := fk B1 hb; replace HB := fB HB hb; clear hb)
 go_ret
 exact ⟨rfl, HB.out⟩
end
instance : Ctr 52 (type_of% @add_ok) := ⟨@add_ok, _, Tryz.func52, by kernel_rfl, rfl⟩
instance : Ctr 53 (type_of% @sub_ok) := ⟨@sub_ok, _, Tryz.func53, by kernel_rfl, rfl⟩
instance : Ctr 54 (type_of% @mul_ok) := ⟨@mul_ok, _, Tryz.func54, by kernel_rfl, rfl⟩
theorem rem_ok (m n : Int) (w : World) (hL : LaidW w) (h0 : n ≠ 0) (hm : Sv.nd m ≤ 4096) (hn : Sv.nd n ≤ 4096) :
  Calls Tryz.prog 70 #[.string (Sv.txt m), .string (Sv.txt n)] w fun e w' => e = .returned (.tuple #[.string (Sv.txt (m.fmod n)), .int .i64 0]) ∧ Below w.heap.size w w' := by
 have HB := Z0.mk (Below.refl w.heap.size w)
 obtain ⟨k, A⟩ := (bi_divided m n h0 hm hn).as
 go_enter Tryz.func70, Tryz.ntmps70
 go_wp2_with (refine cG rfl ?_; intro w' hb; replace HB := fB HB hb; clear hb)
 go_ret2
 exact ⟨rfl, HB.out⟩
theorem numbers_ok (w : World) (hL : LaidW w) : Calls Tryz.prog 51 #[] w fun e w' => e = .returned (.bool true) ∧ Below w.heap.size w w' := by
 have HB := Z0.mk (Below.refl w.heap.size w)
 have d : ∀ n : Int, n.natAbs < 100 → Sv.nd n ≤ 2 := fun n h => Sv.nd_le (by omega) (by omega)
 have t7 : Sv.txt 7 = ⟨#[55]⟩ := by simp [Sv.txt, Sv.txtL, Sv.txtN, Sv.dg, Sv.dch]
 have t3 : Sv.txt 3 = ⟨#[51]⟩ := by simp [Sv.txt, Sv.txtL, Sv.txtN, Sv.dg, Sv.dch]
 have t4 : Sv.txt 4 = ⟨#[52]⟩ := by simp [Sv.txt, Sv.txtL, Sv.txtN, Sv.dg, Sv.dch]
 have t6 : Sv.txt (-6) = ⟨#[45, 54]⟩ := by simp [Sv.txt, Sv.txtL, Sv.txtN, Sv.dg, Sv.dch]
 have t21 : Sv.txt (-21) = ⟨#[45, 50, 49]⟩ := by simp [Sv.txt, Sv.txtL, Sv.txtN, Sv.dg, Sv.dch]
 have A := bi_Mul 7 (-3) (by have := d 7 (by decide); omega) (by have := d (-3) (by decide); omega)
 unfold lim at A
 rw [show (7 : Int) * (-3) = -21 from rfl, if_pos (by have := d (-21) (by decide); omega), t7, tm3, t21] at A
 obtain ⟨k1, A1⟩ := A.as
 have A := bi_Quo (-21) 4 (by decide) (by have := d (-21) (by decide); omega) (by have := d 4 (by decide); omega)
 rw [show (-21 : Int).fdiv 4 = -6 from rfl, t21, t4, t6] at A
 obtain ⟨k2, A2⟩ := A.as
 have A := bi_divided (-21) 4 (by decide) (by have := d (-21) (by decide); omega) (by have := d 4 (by decide); omega)
 have C := fun w hL => rem_ok (-21) 4 w hL (by decide) (by have := d (-21) (by decide); omega) (by have := d 4 (by decide); omega)
 rw [show (-21 : Int).fmod 4 = 3 from rfl, t21, t4, t3] at C
 have A := addE q12 q13 (by have := ndR_lit 1 2 (by decide) (by decide) (by decide) (by decide); have := ndR_lit 1 3 (by decide) (by decide) (by decide) (by decide); unfold q12 q13; omega)
 rw [e_add, r12, r13, r56] at A
 obtain ⟨k4, A4⟩ := A.as
 have I : Ctr 70 (type_of% C) := ⟨C, _, Tryz.func70, by kernel_rfl, rfl⟩
 go_enter Tryz.func51, Tryz.ntmps51
 go_wp2_with (refine cG rfl ?_; intro w' hb; replace HB := fB HB hb; clear hb)
 go_ret
 exact ⟨rfl, HB.out⟩
instance : Ctr 51 (type_of% @numbers_ok) := ⟨@numbers_ok, _, Tryz.func51, by kernel_rfl, rfl⟩
noncomputable def whB (l : List ByteArray) : Bool := l.all fun s => decide (s.size ≤ 400) && decide (chkI s = 0)
theorem whole_ok (A : Option Addr) (c : Nat) (l : List ByteArray) (w : World) (hC : Z0 (Kd.string.C w A l.length l)) (hm : l.length ≤ 1000) :
  Calls Tryz.prog 50 #[.slice A l.length c] w fun e w' => e = .returned (.bool (whB l)) ∧ Below w.heap.size w w' := by
 have HB := Z0.mk (Below.refl w.heap.size w)
 go_enter Tryz.func50, Tryz.ntmps50
 go_wp2
 go_loopw [7] (fun i wr => ∃ j : Nat, j ≤ l.length ∧ i = .int .i64 j ∧ (∀ t, (h : t < j) → (h' : t < l.length) → l[t].size ≤ 400 ∧ chkI l[t] = 0) ∧ Z0 (Kd.string.C wr A l.length l) ∧ Z0 (Below w.heap.size w wr))
  (fun i _ => l.length - (Go.RowKit.intOf i).toNat)
 case atStart => exact ⟨0, by omega, rfl, fun t h => absurd h (by omega), hC, HB⟩
 clear hC HB
 obtain ⟨j, hj, rfl, hok, HC, HB⟩ := hrel
 rcases Nat.lt_or_ge j l.length with h4 | h4
 · obtain ⟨ad, rfl, hx, p, q⟩ := asI HC.out (j : Int) (by omega) (by omega)
   rw [Int.toNat_natCast] at hx
   have hs : rdOf ByteArray.empty l (j : Int) = l[j] := by simp [rdOf, h4]
   rw [hs] at hx
   clear hs
   have c4 : decide ((j : Int) < l.length) = true := decide_eq_true (by omega)
   by_cases hz : 400 < (l[j].size : Int)
   · have cz : decide (400 < (l[j].size : Int)) = true := decide_eq_true hz
     have e : whB l = false := by
      refine Bool.eq_false_iff.mpr fun e => ?_
      have := List.all_eq_true.1 e l[j] (List.getElem_mem h4)
      simp at this
      omega
     go_wp2
     go_ret
     exact ⟨by rw [e]; rfl, HB.out⟩
   have cz : decide (400 < (l[j].size : Int)) = false := decide_eq_false hz
   obtain ⟨kC, hC⟩ := (ref_Check l[j] (by omega)).as
   by_cases h0 : chkI l[j] = 0
   · rw [h0] at hC
     go_wp2_with (refine cC ?_; intro w' hb; replace HC := Z0.mk (Kd.C_below HC.out hb); replace HB := fB HB hb; clear hb)
     refine ⟨⟨j + 1, by omega, by simp, fun t ht ht' => ?_, HC, HB⟩, by simp [Go.RowKit.intOf]; omega⟩
     rcases Nat.lt_or_ge t j with h | h
     · exact hok t h ht'
     · obtain rfl : t = j := by omega
       exact ⟨by omega, h0⟩
   have h0' : (chkI l[j] != 0) = true := bne_iff_ne.mpr h0
   have e : whB l = false := by
    refine Bool.eq_false_iff.mpr fun e => ?_
    have := List.all_eq_true.1 e l[j] (List.getElem_mem h4)
    simp at this
    exact h0 this.2
   go_wp2_with (refine cC ?_; intro w' hb; replace HB := fB HB hb; clear hb)
   go_ret
   exact ⟨by rw [e]; rfl, HB.out⟩
 obtain rfl : j = l.length := by omega
 have e : whB l = true := by
  refine List.all_eq_true.2 fun s hs => ?_
  obtain ⟨t, ht, rfl⟩ := List.getElem_of_mem hs
  have := hok t ht ht
  simp [this.1, this.2]
 go_wp2
 go_ret
 exact ⟨by rw [e]; rfl, HB.out⟩
theorem whole_ok' (A : Option Addr) (n c : Nat) (l : List ByteArray) (w : World) (hC : Z0 (Kd.string.C w A n l)) (hn : n = l.length) (hm : n ≤ 1000) :
  Calls Tryz.prog 50 #[.slice A n c] w fun e w' => e = .returned (.bool (whB l)) ∧ Below w.heap.size w w' := by
 subst hn
 exact whole_ok A c l w hC hm
instance : Ctr 50 (type_of% @whole_ok') := ⟨@whole_ok', _, Tryz.func50, by kernel_rfl, rfl⟩
theorem of_whB {l : List ByteArray} (h : whB l = true) : ∀ s ∈ l, ∃ n, s = Sv.txt n ∧ Sv.nd n ≤ 400 := by
 intro s hs
 have := List.all_eq_true.1 h s hs
 simp at this
 obtain ⟨n, rfl, _⟩ := of_chkI this.2
 exact ⟨n, rfl, by have := nd_size n; omega⟩
set_option linter.unusedVariables false
set_option linter.unusedSimpArgs false
instance : Ctr 63 (type_of% @bICompare.calls) := ⟨@bICompare.calls, _, Tryz.func63, by kernel_rfl, rfl⟩
structure S2 (w : World) (b g : Nat) : Prop where
  p : w.heap[b]? = some (.cells #[.pointer (some ⟨g, 0, none⟩)] 62 (0, 0))
  s : St w g 64
theorem S2.on {w w' : World} {b g : Nat} (h : S2 w b g) (hb : Below w.heap.size w w') : S2 w' b g := ⟨blk_below h.p hb, blk_below h.s hb⟩
theorem S2.cp {w : World} {b g : Nat} (h : S2 w b g) : w.cell? ⟨b, 0, none⟩ = some (.pointer (some ⟨g, 0, none⟩)) := (blk_cell h.p 0).trans rfl
theorem ord_ok (b g : Nat) (s t : ByteArray) (m n : Int) (w : World) (h : S2 w b g) (hs : s = Sv.txt m) (ht : t = Sv.txt n) (hm : Sv.nd m ≤ 4096) (hn : Sv.nd n ≤ 4096) (x : Int) (hx : x = (m - n).sign) :
  Calls Tryz.prog 62 #[.string s, .string t, .pointer (some ⟨b, 0, none⟩)] w fun e w' => e = .returned (.int .i64 x) ∧ Below w.heap.size w w' := by
 subst hs ht hx
 have HB := Z0.mk (Below.refl w.heap.size w)
 obtain ⟨k, A⟩ := (bi_Compare m n hm hn).as
 go_enter Tryz.func62, Tryz.ntmps62
 go_wp2_with (refine cG rfl ?_; intro w' hb; replace h := h.on hb; replace HB := fB HB hb; clear hb)
 have h2 := h.on ((Below.refl _ w').drew)
 have c1 := h2.cp
 have c2 := b1 ⟨h2.s⟩
 have c3 : w'.drew.frozen? ⟨g, 0, none⟩ = false := blk_frozen h2.s 0
 have c4 := setCell_self h2.s
 go_region_held3 (fun w' => w'.cell? ⟨b, 0, none⟩ = some (.pointer (some ⟨g, 0, none⟩)) ∧ w'.cell? ⟨g, 0, none⟩ = some (.bool true) ∧ w'.frozen? ⟨g, 0, none⟩ = false)
  (first | exact ⟨c1, c2, c3⟩ | (rw [c4]; exact ⟨c1, c2, c3⟩))
  (fail)
 all_goals go_wp2
 go_ret
 exact ⟨rfl, by first | exact below_drew HB.out | (rw [c4]; exact below_drew HB.out)⟩
instance : Ctr 62 (type_of% @ord_ok) := ⟨@ord_ok, _, Tryz.func62, by kernel_rfl, rfl⟩
theorem min_ok (a b lo : Int) (w : World) (ha : Sv.nd a ≤ 4096) (hb : Sv.nd b ≤ 4096) (h : lo = min a b) :
  Calls Tryz.prog 64 #[.string (Sv.txt a), .string (Sv.txt b)] w fun e w' => e = .returned (.tuple #[.string (Sv.txt lo), .int .i64 0]) ∧ Below w.heap.size w w' := by
 have HB := Z0.mk (Below.refl w.heap.size w)
 obtain ⟨k, A⟩ := (bi_Compare a b ha hb).as
 go_enter Tryz.func64, Tryz.ntmps64
 go_wp2_with (refine cG rfl ?_; intro w' hb; replace HB := fB HB hb; clear hb)
 · go_ret2
   obtain rfl : lo = b := by omega
   exact ⟨rfl, HB.out⟩
 · go_ret2
   obtain rfl : lo = a := by omega
   exact ⟨rfl, HB.out⟩
theorem max_ok (a b hi : Int) (w : World) (ha : Sv.nd a ≤ 4096) (hb : Sv.nd b ≤ 4096) (h : hi = max a b) :
  Calls Tryz.prog 65 #[.string (Sv.txt a), .string (Sv.txt b)] w fun e w' => e = .returned (.tuple #[.string (Sv.txt hi), .int .i64 0]) ∧ Below w.heap.size w w' := by
 have HB := Z0.mk (Below.refl w.heap.size w)
 obtain ⟨k, A⟩ := (bi_Compare a b ha hb).as
 go_enter Tryz.func65, Tryz.ntmps65
 go_wp2_with (refine cG rfl ?_; intro w' hb; replace HB := fB HB hb; clear hb)
 · go_ret2
   obtain rfl : hi = b := by omega
   exact ⟨rfl, HB.out⟩
 · go_ret2
   obtain rfl : hi = a := by omega
   exact ⟨rfl, HB.out⟩
instance : Ctr 64 (type_of% @min_ok) := ⟨@min_ok, _, Tryz.func64, by kernel_rfl, rfl⟩
instance : Ctr 65 (type_of% @max_ok) := ⟨@max_ok, _, Tryz.func65, by kernel_rfl, rfl⟩
theorem Ordered_true (s0 s1 s2 : ByteArray) (w : World) (hL : LaidW w) :
  Calls Tryz.prog 13 #[.string s0, .string s1, .string s2] w fun e w' => e = .returned (.bool true) ∧ Below w.heap.size w w' := by
 have HB := Z0.mk (Below.refl w.heap.size w)
 go_enter Tryz.func13, Tryz.ntmps13
 cases hw : whB [s0, s1, s2]
 · go_wp2_with (first
    | ((with_reducible refine gd_ 17 rfl ?_); refine litS [s0, s1, s2] ?_; intro A c w3 hb hc HC; replace HC := Z0.mk HC; replace HB := fB HB hb; clear hb)
    | (refine cG rfl ?_; intro w' hb; replace HB := fB HB hb; clear hb))
   go_ret
   exact ⟨rfl, HB.out⟩
 obtain ⟨a, rfl, ha⟩ := of_whB hw s0 (by simp)
 obtain ⟨b, rfl, hb⟩ := of_whB hw s1 (by simp)
 obtain ⟨c, rfl, hc⟩ := of_whB hw s2 (by simp)
 go_upto_region 5 with (first
    | ((with_reducible refine gd_ 17 rfl ?_); refine litS [Sv.txt a, Sv.txt b, Sv.txt c] ?_; intro A cc w3 hb hc HC; replace HC := Z0.mk HC; replace HB := fB HB hb; clear hb)
    | ((with_reducible refine gd_ 22 rfl ?_); refine bxE 22 #[.bool true] 64 ?_; intro g hg w1 hbox hb; have B1 := Z0.mk hbox; replace HB := fB HB hb; clear hb hbox hg)
    | (refine cG rfl ?_; intro w' hb; replace HB := fB HB hb; clear hb))
 have h2 : S2 (w1.alloc (.cells #[.pointer (some ⟨g, 0, none⟩)] 62)) w1.heap.size g := ⟨blk_new _ _, blk_alloc B1.out _⟩
 replace HB := Z0.mk (below_alloc HB.out (.cells #[.pointer (some ⟨g, 0, none⟩)] 62))
 generalize hq : w1.alloc (.cells #[.pointer (some ⟨g, 0, none⟩)] 62) = W at *
 generalize hq' : w1.heap.size = q at *
 clear hq hq' B1 HC
 have B1 := h2.s
 have su : ∀ x y : Int, Sv.nd (x - y) ≤ max (Sv.nd x) (Sv.nd y) + 1 := fun x y => by
  have := nd_add x (-y)
  rw [Sv.nd_neg] at this
  exact this
 go_upto_region 6 with ((with_reducible refine atC ?_); refine cC ?_; intro w' hb; replace h2 := h2.on hb; replace HB := fB HB hb; clear hb; have B1 := h2.s)
 have e8 : (b - a).sign = -(a - b).sign := by rw [← Int.sign_neg]; congr 1; omega
 have q1 : ∀ x : Int, x.sign = -1 ∧ x < 0 ∨ x.sign = 0 ∧ x = 0 ∨ x.sign = 1 ∧ 0 < x := fun x => by
  rcases Int.lt_trichotomy x 0 with h | h | h
  · exact .inl ⟨Int.sign_eq_neg_one_of_neg h, h⟩
  · exact .inr (.inl ⟨by rw [h]; rfl, h⟩)
  · exact .inr (.inr ⟨Int.sign_eq_one_of_pos h, h⟩)
 have d1 : 0 < (a - b).sign ∨ 0 < (b - c).sign ∨ (a - c).sign ≤ 0 := by have := q1 (a - b); have := q1 (b - c); have := q1 (a - c); omega
 have d2 : 0 ≤ (a - b).sign ∨ 0 ≤ (b - c).sign ∨ (a - c).sign < 0 := by have := q1 (a - b); have := q1 (b - c); have := q1 (a - c); omega
 have e11 : ((a - b).sign == 0) = ((Sv.txt a).toList == (Sv.txt b).toList) := by
  by_cases h : a = b
  · rw [h]; simp
  · rw [ba_ne (fun e => h (Sv.txt_inj.1 e))]; exact beq_eq_false_iff_ne.mpr fun e => by have := q1 (a - b); omega
 have r1 : -1 ≤ (a - b).sign ∧ (a - b).sign ≤ 1 := by have := q1 (a - b); omega
 have e12 : IntKind.i64.wrap (-(a - b).sign) = -(a - b).sign := by rcases q1 (a - b) with h | h | h <;> rw [h.1] <;> rfl
 go_cut [74] (fun v74 wc => v74 = .bool false ∧ S2 wc q g ∧ Z0 (Below w.heap.size w wc))
 case first =>
  go_wp2_with ((with_reducible refine atC ?_); refine cC ?_; intro w' hb; replace h2 := h2.on hb; replace HB := fB HB hb; clear hb; have B1 := h2.s)
  all_goals go_meet
  all_goals exact ⟨by first | rfl | (simp; done) | (simp; omega), h2, HB⟩
 case rest =>
  clear e8 d1 d2 e11 HB h2
  obtain ⟨rfl, h2, HB⟩ := hcut
  go_wp2
  replace h2 := h2.on ((Below.refl _ wc).drew)
  replace HB := Z0.mk (below_drew HB.out)
  have B1 := h2.s
  have z0 : (⟨#[48]⟩ : ByteArray) = Sv.txt 0 := r0.symm
  have n0 : Sv.nd 0 ≤ 1 := nd_lt10 (by decide)
  have n1 := nd_add a c
  have n2 := nd_add b c
  have n3 := nd_mul a c
  have n4 := nd_mul b c
  have n5 := su a b
  have e9 : (a + c - (b + c)).sign = (a - b).sign := by congr 1; omega
  have e10 : (a * c - b * c).sign = (a - b).sign * c.sign := by rw [← Int.sub_mul, Int.sign_mul]
  have e13 : IntKind.i64.wrap ((a - b).sign * c.sign) = (a - b).sign * c.sign := by rcases q1 (a - b) with h | h | h <;> rcases q1 c with h' | h' | h' <;> rw [h.1, h'.1] <;> rfl
  go_region_held3 (fun w' => w'.cell? ⟨q, 0, none⟩ = some (.pointer (some ⟨g, 0, none⟩)))
   (exact h2.cp)
   (first | ((with_reducible refine atC ?_); refine cC ?_; intro w' hb; replace h2 := h2.on hb; replace HB := fB HB hb; clear hb; have B1 := h2.s))
  all_goals go_wp2
  replace h2 := h2.on ((Below.refl _ w').drew)
  replace HB := Z0.mk (below_drew HB.out)
  have B1 := h2.s
  obtain ⟨lo, hlo⟩ : ∃ lo, Z0 (lo = min a b) := ⟨_, ⟨rfl⟩⟩
  obtain ⟨hi, hhi⟩ : ∃ hi, Z0 (hi = max a b) := ⟨_, ⟨rfl⟩⟩
  clear n0 n1 n2 n3 n4 n5 e9 e10 e13 e12 r1
  go_region_held3 (fun w' => w'.cell? ⟨q, 0, none⟩ = some (.pointer (some ⟨g, 0, none⟩)))
   (exact h2.cp)
   (first | ((with_reducible refine atC ?_); refine cC ?_; intro w' hb; replace h2 := h2.on hb; replace HB := fB HB hb; clear hb; have B1 := h2.s))
  all_goals go_wp2
  replace h2 := h2.on ((Below.refl _ w').drew)
  replace HB := Z0.mk (below_drew HB.out)
  have B1 := h2.s
  have l1 : lo ≤ hi := by have := hlo.out; have := hhi.out; omega
  have l2 : lo + hi = a + b := by have := hlo.out; have := hhi.out; omega
  have l3 : Sv.nd lo ≤ 400 := by rw [hlo.out]; rcases Int.le_total a b with h | h <;> first | rw [Int.min_eq_left h]; exact ha | rw [Int.min_eq_right h]; exact hb
  have l4 : Sv.nd hi ≤ 400 := by rw [hhi.out]; rcases Int.le_total a b with h | h <;> first | rw [Int.max_eq_right h]; exact hb | rw [Int.max_eq_left h]; exact ha
  have n1 := nd_add a b
  have n2 := nd_add lo hi
  rcases q1 (lo - hi) with h | h | h
  · have hx := Z0.mk h.1.symm
    clear h q1
    go_region_held3 (fun w' => w'.cell? ⟨q, 0, none⟩ = some (.pointer (some ⟨g, 0, none⟩)) ∧ w'.cell? ⟨g, 0, none⟩ = some (.bool true))
     (exact ⟨h2.cp, b1 ⟨h2.s⟩⟩)
     (first | ((with_reducible refine atC ?_); refine cC ?_; intro w' hb; replace h2 := h2.on hb; replace HB := fB HB hb; clear hb; have B1 := h2.s))
    all_goals go_wp2
    go_ret
    exact ⟨rfl, HB.out⟩
  · have hx := Z0.mk h.1.symm
    clear h q1
    go_region_held3 (fun w' => w'.cell? ⟨q, 0, none⟩ = some (.pointer (some ⟨g, 0, none⟩)) ∧ w'.cell? ⟨g, 0, none⟩ = some (.bool true))
     (exact ⟨h2.cp, b1 ⟨h2.s⟩⟩)
     (first | ((with_reducible refine atC ?_); refine cC ?_; intro w' hb; replace h2 := h2.on hb; replace HB := fB HB hb; clear hb; have B1 := h2.s))
    all_goals go_wp2
    go_ret
    exact ⟨rfl, HB.out⟩
  · omega
end Go.Proofs.YthnfajboebaajaaGreatDoor.PA
