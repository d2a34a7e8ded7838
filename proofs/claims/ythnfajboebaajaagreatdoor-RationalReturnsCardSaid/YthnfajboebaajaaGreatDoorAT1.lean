import Derived.Test.YthnfajboebaajaaGreatDoorAG1
import Derived.Test.YthnfajboebaajaaGreatDoorAP2
import Derived.Test.YthnfajboebaajaaGreatDoorAG9
import Derived.Test.YthnfajboebaajaaGreatDoorAG8
import Derived.Test.YthnfajboebaajaaGreatDoorAG6
import Derived.Test.YthnfajboebaajaaGreatDoorAG4
set_option maxHeartbeats 8000000
set_option maxRecDepth 100000
set_option linter.unusedVariables false
set_option linter.unusedVariables false
namespace Go.Proofs.YthnfajboebaajaaGreatDoor.PA
open Go.RowKit Go.Proofs.WWords Go.Proofs.WLast Go.Proofs.WMore
class Ctr (f : FuncId) (T : outParam Prop) : Prop where
  pf : T
  hf : ∃ fn, Tryz.prog.funcs[f]? = some fn ∧ (fn.name == "runtime.NumGoroutine") = false ∧ fn.body.isSome = true
theorem drB {f : FuncId} {args : Array Value} {w : World} {x : Ending} (h : Calls Tryz.prog f args w fun e w' => e = x ∧ Drawn0 w w') : Calls Tryz.prog f args w fun e w' => e = x ∧ Below w.heap.size w w' :=
  h.mono fun _ _ h => ⟨h.1, h.2.below⟩
section
variable {ops : Array Oper} {Q : Exit → Act → World → Prop} {rest : List Oper} {o : Oper} {a : Act} {W : World}
theorem cG {f : FuncId} {ars : Array Operand} {ts : Array TypeId} {args : Array Value} {v : Value} {N : Option Tmp} {T : Prop}
  (hop : o.op = .call { callee := .value (.func f), args := ars, argTypes := ts }) [c : Ctr f T]
  (K : ∀ w', Below W.heap.size W w' → wpList Tryz.prog ops Q rest (a.put N v) w')
  (hd : o.dst = N := by rfl) (hg : o.guard = none := by rfl)
  (hargs : ars.map a.eval = args := by (try simp only [List.map_toArray, List.map_cons, List.map_nil]); first | done | rfl | (simp only [List.length_drop, List.length_take]; rfl))
  (hc : T → Calls Tryz.prog f args W fun e w' => e = .returned v ∧ Below W.heap.size W w' := by intro c; (first | apply c | (apply drB; apply c)); all_goals first | assumption | exact Z0.out (by assumption) | exact hL.below bq | exact Eq.refl _ | omega | exact of_decide_eq_true rfl) : wpList Tryz.prog ops Q (o :: rest) a W := by
  obtain ⟨fn, hf, hn, hb⟩ := c.hf
  refine goesL_ N hd hg hf hn hb args hop hargs ((hc c.pf).mono ?_)
  rintro e w' ⟨rfl, hb⟩
  exact ⟨_, rfl, K w' hb⟩
theorem cC {f : FuncId} {args : Array Value} {R : Ending → World → Prop} {v : Value} {T : Prop} [c : Ctr f T]
  (K : ∀ w', Below W.heap.size W w' → R (.returned v) w')
  (hc : T → Calls Tryz.prog f args W fun e w' => e = .returned v ∧ Below W.heap.size W w' := by intro c; (first | apply c | (apply drB; apply c)); all_goals first | assumption | exact Z0.out (by assumption) | exact hL.below bq | exact Eq.refl _ | omega | exact of_decide_eq_true rfl) : Calls Tryz.prog f args W R := by
  refine (hc c.pf).mono ?_
  rintro e w' ⟨rfl, hb⟩
  exact K w' hb
theorem litS (xs : List ByteArray) {cs : Array Value} {e : TypeId} {N : Tmp} (K : ∀ A c w', Below W.heap.size W w' → xs.length ≤ c → Kd.string.C w' A xs.length xs → wpList Tryz.prog ops Q rest (a.put (some N) (.slice A xs.length c)) w')
  (hd : o.dst = some N := by rfl) (hg : o.guard = none := by rfl) (hl : xs.length ≤ 1000 := by simp) (he : cs = (encs Value.string xs).toArray := by rfl)
  (hr : Sem.run Tryz.prog (execOp a.eval o) W = Result.ok (Next.value (.slice (some ⟨W.heap.size, 0, none⟩) xs.length xs.length)) (W.alloc (Obj.cells cs e)) := by first | (go_simp; done) | (go_simp; rfl)) : wpList Tryz.prog ops Q (o :: rest) a W := by
  subst he
  refine Kd.R_lit Kd.string W.heap.size e hg hd (xs := xs) (inner := encs Value.string xs) (ok := fun _ => True) (okp := fun _ => True) hr (Kd.reps_scalar xs) (fun _ h => h) trivial (Below.refl _ _) (Nat.le_refl _) (by omega) ?_
  intro v w' ho hb _ _
  obtain ⟨A, c, rfl, hc, hC⟩ := Kd.R_reads ho
  rw [hd]
  exact K A c w' hb hc hC
end
set_option linter.unusedVariables false
set_option linter.unusedSimpArgs false
instance : Ctr 36 (type_of% @rECheck.calls) := ⟨@rECheck.calls, _, Tryz.func36, by kernel_rfl, rfl⟩
instance : Ctr 17 (type_of% @lWawake.calls) := ⟨@lWawake.calls, _, Tryz.func17, by kernel_rfl, rfl⟩
instance : Ctr 30 (type_of% @rAOf.calls) := ⟨@rAOf.calls, _, Tryz.func30, by kernel_rfl, rfl⟩
instance : Ctr 18 (type_of% @rANum.calls) := ⟨@rANum.calls, _, Tryz.func18, by kernel_rfl, rfl⟩
instance : Ctr 19 (type_of% @rADen.calls) := ⟨@rADen.calls, _, Tryz.func19, by kernel_rfl, rfl⟩
instance : Ctr 37 (type_of% @bIGcd.calls) := ⟨@bIGcd.calls, _, Tryz.func37, by kernel_rfl, rfl⟩
instance : Ctr 38 (type_of% @bISign.calls) := ⟨@bISign.calls, _, Tryz.func38, by kernel_rfl, rfl⟩
instance : Ctr 39 (type_of% @bIMul.calls) := ⟨@bIMul.calls, _, Tryz.func39, by kernel_rfl, rfl⟩
theorem Ev.as {α : Type} {f : Nat → Option α} {x : α} (h : Ev f x) : ∃ k, Z0 (f k = some x) := let ⟨k, h⟩ := h.ex; ⟨k, ⟨h⟩⟩
theorem ba_ne {s t : ByteArray} (h : s ≠ t) : (s.toList == t.toList) = false := beq_eq_false_iff_ne.mpr fun e => h (ba_ext (by rw [ByteArray.toList_eq, ByteArray.toList_eq] at e; exact e))
def okI (s : ByteArray) : Prop := ∃ n, s = Sv.txt n ∧ Sv.nd n ≤ 300
theorem Returns_true (s0 s1 s2 s3 : ByteArray) (w : World) (hL : LaidW w) :
  Calls Tryz.prog 6 #[.agg #[.string s0, .string s1], .agg #[.string s2, .string s3]] w fun e w' => e = .returned (.bool true) ∧ Below w.heap.size w w' := by
 have HB := Z0.mk (Below.refl w.heap.size w)
 obtain ⟨kA, HA⟩ := awake_ev.as
 go_enter Tryz.func6, Tryz.ntmps6
 go_wp2_with (first
  | ((with_reducible refine gd_ 2 rfl ?_); refine bxE 2 #[.string s0, .string s1] 45 ?_; intro g1 hg w1 hbox hb; have B1 := Z0.mk hbox; replace HB := fB HB hb; clear hb hbox hg)
  | ((with_reducible refine gd_ 3 rfl ?_); refine bxE 3 #[.string s2, .string s3] 45 ?_; intro g2 hg w2 hbox hb; have B2 := Z0.mk hbox; replace B1 := fk B1 hb; replace HB := fB HB hb; clear hb hbox hg; obtain ⟨p0, p1, -, -⟩ := b2 B1; obtain ⟨q0, q1, -, -⟩ := b2 B2)
  | ((with_reducible refine gd_ 33 rfl ?_); refine litS [s0, s1, s2, s3] ?_; intro A c w3 hb hc HC; replace B1 := fk B1 hb; replace B2 := fk B2 hb; replace HB := fB HB hb; clear hb))
 go_loopw [35] (fun i wr => ∃ j : Nat, j ≤ 4 ∧ i = .int .i64 j ∧ (∀ t, t < j → okI ([s0, s1, s2, s3].getD t ⟨#[]⟩)) ∧ Z0 (Kd.string.C wr A 4 [s0, s1, s2, s3]) ∧ Z0 (wr.heap[g1]? = some (.cells #[.string s0, .string s1] 45)) ∧ Z0 (wr.heap[g2]? = some (.cells #[.string s2, .string s3] 45)) ∧ Z0 (Below w.heap.size w wr))
  (fun i _ => 4 - (Go.RowKit.intOf i).toNat)
 case atStart => exact ⟨0, by omega, rfl, fun t h => absurd h (by omega), ⟨HC⟩, B1, B2, HB⟩
 clear p0 p1 q0 q1 HC hc B1 B2 HB
 obtain ⟨j, hj, rfl, hok, HC, B1, B2, HB⟩ := hrel
 rcases Nat.lt_or_ge j 4 with h4 | h4
 · obtain ⟨ad, rfl, hx, p, q⟩ := asI HC.out (j : Int) (by omega) (by omega)
   rw [Int.toNat_natCast] at hx
   generalize hs : rdOf ByteArray.empty [s0, s1, s2, s3] (j : Int) = s at hx
   have c4 : decide ((j : Int) < 4) = true := decide_eq_true (by omega)
   by_cases hz : 300 < (s.size : Int)
   · have cz : decide (300 < (s.size : Int)) = true := decide_eq_true hz
     go_wp2_with (refine cG rfl ?_; intro w' hb; replace HB := fB HB hb; clear hb)
     go_ret
     exact ⟨rfl, HB.out⟩
   have cz : decide (300 < (s.size : Int)) = false := decide_eq_false hz
   obtain ⟨kC, hC⟩ := (ref_Check s (by omega)).as
   by_cases h0 : chkI s = 0
   · rw [h0] at hC
     go_wp2_with (first | (refine cG rfl ?_; intro w' hb; replace HC := Z0.mk (Kd.C_below HC.out hb); replace B1 := fk B1 hb; replace B2 := fk B2 hb; replace HB := fB HB hb; clear hb) | (refine cC ?_; intro w' hb; replace HC := Z0.mk (Kd.C_below HC.out hb); replace B1 := fk B1 hb; replace B2 := fk B2 hb; replace HB := fB HB hb; clear hb))
     refine ⟨⟨j + 1, by omega, by simp, fun t ht => ?_, HC, B1, B2, HB⟩, by simp [Go.RowKit.intOf]; omega⟩
     rcases Nat.lt_or_ge t j with h | h
     · exact hok t h
     · obtain rfl : t = j := by omega
       obtain ⟨n, rfl, hn⟩ := of_chkI h0
       refine ⟨n, ?_, by have := nd_size n; omega⟩
       rw [← hs]; simp [rdOf]; rfl
   have h0' : (chkI s != 0) = true := bne_iff_ne.mpr h0
   go_wp2_with (first | (refine cG rfl ?_; intro w' hb; replace HB := fB HB hb; clear hb) | (refine cC ?_; intro w' hb; replace HB := fB HB hb; clear hb))
   go_ret
   exact ⟨rfl, HB.out⟩
 obtain rfl : j = 4 := by omega
 obtain ⟨a0, rfl, n0⟩ := hok 0 (by omega)
 obtain ⟨a1, rfl, n1⟩ := hok 1 (by omega)
 obtain ⟨b0, rfl, m0⟩ := hok 2 (by omega)
 obtain ⟨b1, rfl, m1⟩ := hok 3 (by omega)
 clear hok HC
 obtain ⟨p0, p1, -, -⟩ := b2 B1
 obtain ⟨q0, q1, -, -⟩ := b2 B2
 have zz : ((Sv.txt 0).toList == ([48] : List UInt8)) = true := by rw [beq_iff_eq]; exact (txt_eq0 0).2 rfl
 have zn : ∀ n : Int, n ≠ 0 → ((Sv.txt n).toList == ([48] : List UInt8)) = false := fun n h => beq_eq_false_iff_ne.mpr (fun e => h ((txt_eq0 n).1 e))
 by_cases ha : a1 = 0
 · subst ha
   obtain ⟨k1, A1⟩ := (rat_Of0 a0 (by omega)).as
   by_cases hb : b1 = 0
   · subst hb
     obtain ⟨k2, A2⟩ := (rat_Of0 b0 (by omega)).as
     go_wp2_with (first | (refine cG rfl ?_; intro w' hb; replace B1 := fk B1 hb; replace B2 := fk B2 hb; replace HB := fB HB hb; clear hb; obtain ⟨p0, p1, -, -⟩ := b2 B1; obtain ⟨q0, q1, -, -⟩ := b2 B2) | (refine cC ?_; intro w' hb; replace B1 := fk B1 hb; replace B2 := fk B2 hb; replace HB := fB HB hb; clear hb; obtain ⟨p0, p1, -, -⟩ := b2 B1; obtain ⟨q0, q1, -, -⟩ := b2 B2))
     go_ret
     exact ⟨rfl, HB.out⟩
   have e2 := zn b1 hb
   obtain ⟨k2, A2⟩ := (rat_Of b0 b1 hb (by omega) (by omega)).as
   go_wp2_with (first | (refine cG rfl ?_; intro w' hb; replace B1 := fk B1 hb; replace B2 := fk B2 hb; replace HB := fB HB hb; clear hb; obtain ⟨p0, p1, -, -⟩ := b2 B1; obtain ⟨q0, q1, -, -⟩ := b2 B2) | (refine cC ?_; intro w' hb; replace B1 := fk B1 hb; replace B2 := fk B2 hb; replace HB := fB HB hb; clear hb; obtain ⟨p0, p1, -, -⟩ := b2 B1; obtain ⟨q0, q1, -, -⟩ := b2 B2))
   go_ret
   exact ⟨rfl, HB.out⟩
 have e1 := zn a1 ha
 obtain ⟨k1, A1⟩ := (rat_Of a0 a1 ha (by omega) (by omega)).as
 by_cases hb : b1 = 0
 · subst hb
   obtain ⟨k2, A2⟩ := (rat_Of0 b0 (by omega)).as
   go_wp2_with (first | (refine cG rfl ?_; intro w' hb; replace B1 := fk B1 hb; replace B2 := fk B2 hb; replace HB := fB HB hb; clear hb; obtain ⟨p0, p1, -, -⟩ := b2 B1; obtain ⟨q0, q1, -, -⟩ := b2 B2) | (refine cC ?_; intro w' hb; replace B1 := fk B1 hb; replace B2 := fk B2 hb; replace HB := fB HB hb; clear hb; obtain ⟨p0, p1, -, -⟩ := b2 B1; obtain ⟨q0, q1, -, -⟩ := b2 B2))
   go_ret
   exact ⟨rfl, HB.out⟩
 have e2 := zn b1 hb
 obtain ⟨k2, A2⟩ := (rat_Of b0 b1 hb (by omega) (by omega)).as
 have r1 := ndR_divInt a0 a1 ha
 have hx : Rat.divInt a0 a1 = Rat.divInt b0 b1 ↔ a0 * b1 = b0 * a1 := Rat.divInt_eq_divInt_iff ha hb
 generalize Rat.divInt a0 a1 = x at *
 generalize Rat.divInt b0 b1 = y at *
 obtain ⟨k3, A3⟩ := (numE x (by omega)).as
 obtain ⟨k4, A4⟩ := (denE x (by omega)).as
 have r2 := ndR_nd x
 have A5 := rat_Of x.num x.den (den_ne x) (by omega) (by omega)
 rw [show Rat.divInt x.num x.den = x from Rat.num_divInt_den x] at A5
 obtain ⟨k5, A5⟩ := A5.as
 have A6 := bi_Gcd x.num x.den (by omega) (by omega)
 rw [show ((Int.gcd x.num x.den : Nat) : Int) = 1 from congrArg _ x.reduced] at A6
 obtain ⟨k6, A6⟩ := A6.as
 have A7 := bi_Sign x.den (by omega)
 rw [Int.sign_eq_one_of_pos (by have := x.den_pos; omega)] at A7
 obtain ⟨k7, A7⟩ := A7.as
 have A8 := bi_Mul a0 b1 (by omega) (by omega)
 have A9 := bi_Mul b0 a1 (by omega) (by omega)
 have n8 := nd_mul a0 b1
 have n9 := nd_mul b0 a1
 unfold lim at A8 A9
 rw [if_pos (by omega)] at A8 A9
 obtain ⟨k8, A8⟩ := A8.as
 obtain ⟨k9, A9⟩ := A9.as
 have e3 : (Sv.txt 1).toList = ([49] : List UInt8) := ba_list _ _ txt1
 have e4 : ((Sv.rtxt x).toList == (Sv.rtxt x).toList) = true := by simp
 have e5 : ((Sv.txt (a0 * b1)).toList == (Sv.txt (b0 * a1)).toList) = ((Sv.rtxt x).toList == (Sv.rtxt y).toList) := by
  by_cases h : x = y
  · rw [hx.1 h, h]; simp
  · rw [ba_ne (fun e => h (hx.2 (Sv.txt_inj.1 e))), ba_ne (fun e => h (Sv.rtxt_inj.1 e))]
 go_wp2_with (first | (refine cG rfl ?_; intro w' hb; replace B1 := fk B1 hb; replace B2 := fk B2 hb; replace HB := fB HB hb; clear hb; obtain ⟨p0, p1, -, -⟩ := b2 B1; obtain ⟨q0, q1, -, -⟩ := b2 B2) | (refine cC ?_; intro w' hb; replace B1 := fk B1 hb; replace B2 := fk B2 hb; replace HB := fB HB hb; clear hb; obtain ⟨p0, p1, -, -⟩ := b2 B1; obtain ⟨q0, q1, -, -⟩ := b2 B2))
 go_ret
 exact ⟨rfl, HB.out⟩
end Go.Proofs.YthnfajboebaajaaGreatDoor.PA
