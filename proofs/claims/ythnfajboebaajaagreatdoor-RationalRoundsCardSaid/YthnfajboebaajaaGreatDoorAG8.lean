import Derived.Test.YthnfajboebaajaaGreatDoorAG1
import Derived.Test.YthnfajboebaajaaGreatDoorAD
import Derived.Test.YthnfajboebaajaaGreatDoorAG7
import Derived.Deep.RegionHeld3
import Derived.WideLaws
import Derived.MapKept
import Derived.RangeFuncOwn
import Derived.Test.YthnfajboebaajaaGreatDoorAG2
import Derived.Test.YthnfajboebaajaaGreatDoorAG3
import Derived.Test.YthnfajboebaajaaGreatDoorAG6
set_option maxHeartbeats 8000000
set_option maxRecDepth 100000
set_option linter.unusedVariables false
namespace Go.Proofs.YthnfajboebaajaaGreatDoor.PA
open Go.RowKit Go.Proofs.WWords Go.Proofs.WLast Go.Proofs.WMore
attribute [local go_sem] max2_int min2_int max_two min_two max_three min_three max_four min_four
set_option linter.unusedVariables false
set_option linter.unusedSimpArgs false
theorem rACompare.calls (k : Nat) (a0 : ByteArray) (a1 : ByteArray) (r1 : Int) (r2 : Int) (w : World) (hL : LaidW w) (h : rACompare.f k a0 a1 = some (r1, r2)) :
  Calls Tryz.prog 34 #[.string a0, .string a1] w fun e w' => e = .returned (.tuple #[.int .i64 r1, .int .i64 r2]) ∧ Below w.heap.size w w' := by
 have hu95 := Tryz.underlying95
 have HB := Z0.mk (Below.refl w.heap.size w)
 have H := h
 clear h
 unfold rACompare.f at H
 obtain ⟨⟨t400, t401, t402, t403, t404⟩, A3, H⟩ := bnd H
 try dsimp only at H
 rcases je H with ⟨-, c4b0, c4b1, H⟩ | ⟨c4, c4b0, c4b1, H⟩
 ·obtain ⟨⟨t406, t407, t408⟩, A5, H⟩ := bnd H
  try dsimp only at H
  rcases je H with ⟨-, c6b0, c6b1, H⟩ | ⟨c6, c6b0, c6b1, H⟩
  ·obtain ⟨⟨t409, t410⟩, A7, H⟩ := bnd H
   try dsimp only at H
   simp only [Option.some.injEq, Prod.mk.injEq] at H
   obtain ⟨rfl, rfl⟩ := H
   go_enter Tryz.func34, Tryz.ntmps34
   go_wp2_with (first | ((with_reducible refine gc_ 90 rfl ?_); refine goB (some 13) Tryz.func90 #[.string a0, .string a1] bq (rAnewPair.calls k a0 a1 t400 t401 t402 t403 t404 _ (hL.below bq) A3.out) ?_; clear HB; intro w8 HB) | ((with_reducible refine gd_ 6 rfl ?_); refine bxE 6 #[.string (⟨#[]⟩ : ByteArray), .string (⟨#[]⟩ : ByteArray), .string (⟨#[]⟩ : ByteArray), .string (⟨#[]⟩ : ByteArray)] 95 ?_; intro gb405 hg w9 hbox hb; have BK405 := Z0.mk hbox; have GW405 := fE HB hg; have GE405 := fE HB hg; replace HB := fB HB hb; clear hb hbox hg; obtain ⟨hcz10_0, hcz10_1, hcz10_2, hcz10_3, hfz10_0, hfz10_1, hfz10_2, hfz10_3⟩ := b4 BK405) | ((with_reducible refine gc_ 91 rfl ?_); refine gL 28 Tryz.func91 (rAboth.calls k t400 t403 t402 t401 t406 t407 t408 _ ?side1 A5.out) ?_; (case side1 => exact LaidW.below hL bqs); rintro _ w11 ⟨rfl, hb⟩; refine ⟨_, rfl, ?_⟩; replace BK405 := Z0.mk (blk_below (g := gb405) (o := .cells #[.string t400, .string t401, .string t402, .string t403] 95 (0, 0)) (by (with_reducible repeat (first | refine blk_drewN ?_ _ | refine blk_drew ?_ | refine blk_alloc ?_ _)); refine blk_put (cs := #[.string t400, .string t401, .string t402, .string (⟨#[]⟩ : ByteArray)]) ?_ 3 _ rfl; (with_reducible repeat (first | refine blk_drewN ?_ _ | refine blk_drew ?_ | refine blk_alloc ?_ _)); refine blk_put (cs := #[.string t400, .string t401, .string (⟨#[]⟩ : ByteArray), .string (⟨#[]⟩ : ByteArray)]) ?_ 2 _ rfl; (with_reducible repeat (first | refine blk_drewN ?_ _ | refine blk_drew ?_ | refine blk_alloc ?_ _)); refine blk_put (cs := #[.string t400, .string (⟨#[]⟩ : ByteArray), .string (⟨#[]⟩ : ByteArray), .string (⟨#[]⟩ : ByteArray)]) ?_ 1 _ rfl; (with_reducible repeat (first | refine blk_drewN ?_ _ | refine blk_drew ?_ | refine blk_alloc ?_ _)); refine blk_put (cs := #[.string (⟨#[]⟩ : ByteArray), .string (⟨#[]⟩ : ByteArray), .string (⟨#[]⟩ : ByteArray), .string (⟨#[]⟩ : ByteArray)]) ?_ 0 _ rfl; (with_reducible repeat (first | refine blk_drewN ?_ _ | refine blk_drew ?_ | refine blk_alloc ?_ _)); exact BK405.out) hb); replace HB := fB HB hb; clear hb) | ((with_reducible refine gc_ 63 rfl ?_); refine gL 37 Tryz.func63 (bICompare.calls _ _ _ _ _ _ A7.out) ?_; rintro _ w12 ⟨rfl, hb⟩; refine ⟨_, rfl, ?_⟩; replace BK405 := fk BK405 hb; replace HB := fB HB hb; clear hb))
   go_ret2
   exact finE
  simp only [Option.some.injEq, Prod.mk.injEq] at H
  obtain ⟨rfl, rfl⟩ := H
  go_enter Tryz.func34, Tryz.ntmps34
  go_wp2_with (first | ((with_reducible refine gc_ 90 rfl ?_); refine goB (some 13) Tryz.func90 #[.string a0, .string a1] bq (rAnewPair.calls k a0 a1 t400 t401 t402 t403 t404 _ (hL.below bq) A3.out) ?_; clear HB; intro w13 HB) | ((with_reducible refine gd_ 6 rfl ?_); refine bxE 6 #[.string (⟨#[]⟩ : ByteArray), .string (⟨#[]⟩ : ByteArray), .string (⟨#[]⟩ : ByteArray), .string (⟨#[]⟩ : ByteArray)] 95 ?_; intro gb405 hg w14 hbox hb; have BK405 := Z0.mk hbox; have GW405 := fE HB hg; have GE405 := fE HB hg; replace HB := fB HB hb; clear hb hbox hg; obtain ⟨hcz15_0, hcz15_1, hcz15_2, hcz15_3, hfz15_0, hfz15_1, hfz15_2, hfz15_3⟩ := b4 BK405) | ((with_reducible refine gc_ 91 rfl ?_); refine gL 28 Tryz.func91 (rAboth.calls k t400 t403 t402 t401 t406 t407 t408 _ ?side1 A5.out) ?_; (case side1 => exact LaidW.below hL bqs); rintro _ w16 ⟨rfl, hb⟩; refine ⟨_, rfl, ?_⟩; replace BK405 := Z0.mk (blk_below (g := gb405) (o := .cells #[.string t400, .string t401, .string t402, .string t403] 95 (0, 0)) (by (with_reducible repeat (first | refine blk_drewN ?_ _ | refine blk_drew ?_ | refine blk_alloc ?_ _)); refine blk_put (cs := #[.string t400, .string t401, .string t402, .string (⟨#[]⟩ : ByteArray)]) ?_ 3 _ rfl; (with_reducible repeat (first | refine blk_drewN ?_ _ | refine blk_drew ?_ | refine blk_alloc ?_ _)); refine blk_put (cs := #[.string t400, .string t401, .string (⟨#[]⟩ : ByteArray), .string (⟨#[]⟩ : ByteArray)]) ?_ 2 _ rfl; (with_reducible repeat (first | refine blk_drewN ?_ _ | refine blk_drew ?_ | refine blk_alloc ?_ _)); refine blk_put (cs := #[.string t400, .string (⟨#[]⟩ : ByteArray), .string (⟨#[]⟩ : ByteArray), .string (⟨#[]⟩ : ByteArray)]) ?_ 1 _ rfl; (with_reducible repeat (first | refine blk_drewN ?_ _ | refine blk_drew ?_ | refine blk_alloc ?_ _)); refine blk_put (cs := #[.string (⟨#[]⟩ : ByteArray), .string (⟨#[]⟩ : ByteArray), .string (⟨#[]⟩ : ByteArray), .string (⟨#[]⟩ : ByteArray)]) ?_ 0 _ rfl; (with_reducible repeat (first | refine blk_drewN ?_ _ | refine blk_drew ?_ | refine blk_alloc ?_ _)); exact BK405.out) hb); replace HB := fB HB hb; clear hb))
  go_ret2
  exact finE
 simp only [Option.some.injEq, Prod.mk.injEq] at H
 obtain ⟨rfl, rfl⟩ := H
 go_enter Tryz.func34, Tryz.ntmps34
 go_wp2_with (first | ((with_reducible refine gc_ 90 rfl ?_); refine goB (some 13) Tryz.func90 #[.string a0, .string a1] bq (rAnewPair.calls k a0 a1 t400 t401 t402 t403 t404 _ (hL.below bq) A3.out) ?_; clear HB; intro w17 HB) | ((with_reducible refine gd_ 6 rfl ?_); refine bxE 6 #[.string (⟨#[]⟩ : ByteArray), .string (⟨#[]⟩ : ByteArray), .string (⟨#[]⟩ : ByteArray), .string (⟨#[]⟩ : ByteArray)] 95 ?_; intro gb405 hg w18 hbox hb; have BK405 := Z0.mk hbox; have GW405 := fE HB hg; have GE405 := fE HB hg; replace HB := fB HB hb; clear hb hbox hg; obtain ⟨hcz19_0, hcz19_1, hcz19_2, hcz19_3, hfz19_0, hfz19_1, hfz19_2, hfz19_3⟩ := b4 BK405))
 go_ret2
 exact finE
theorem rADen.calls (k : Nat) (a0 : ByteArray) (r1 : ByteArray) (r2 : Int) (w : World) (hL : LaidW w) (h : rADen.f k a0 = some (r1, r2)) :
  Calls Tryz.prog 19 #[.string a0] w fun e w' => e = .returned (.tuple #[.string r1, .int .i64 r2]) ∧ Below w.heap.size w w' := by
 have HB := Z0.mk (Below.refl w.heap.size w)
 have H := h
 clear h
 unfold rADen.f at H
 obtain ⟨t226, A2, H⟩ := bnd H
 rcases je H with ⟨-, c3b0, c3b1, H⟩ | ⟨c3, c3b0, c3b1, H⟩
 ·obtain ⟨⟨t227, t228⟩, A4, H⟩ := bnd H
  try dsimp only at H
  simp only [Option.some.injEq, Prod.mk.injEq] at H
  obtain ⟨rfl, rfl⟩ := H
  go_enter Tryz.func19, Tryz.ntmps19
  go_wp2_with (first | ((with_reducible refine gc_ 28 rfl ?_); refine goB (some 8) Tryz.func28 #[.string a0] bq (rACheck.calls k a0 t226 _ (hL.below bq) A2.out) ?_; clear HB; intro w5 HB) | ((with_reducible refine gc_ 71 rfl ?_); refine goB (some 14) Tryz.func71 #[.string a0] bq (rAsplit.calls a0 t227 t228 _ A4.out) ?_; clear HB; intro w6 HB))
  go_ret2
  exact finE
 simp only [Option.some.injEq, Prod.mk.injEq] at H
 obtain ⟨rfl, rfl⟩ := H
 go_enter Tryz.func19, Tryz.ntmps19
 go_wp2_with (first | ((with_reducible refine gc_ 28 rfl ?_); refine goB (some 8) Tryz.func28 #[.string a0] bq (rACheck.calls k a0 t226 _ (hL.below bq) A2.out) ?_; clear HB; intro w7 HB))
 go_ret2
 exact finE
end Go.Proofs.YthnfajboebaajaaGreatDoor.PA
namespace Go.Proofs.YthnfajboebaajaaGreatDoor
open Go.RowKit Go.Proofs.WWords Go.Proofs.WLast Go.Proofs.WMore PA
set_option linter.unusedVariables false
set_option linter.unusedSimpArgs false
theorem added_calls (f : FuncId) (w : World) : Calls Tryz.prog 173 #[.func (.func f) #[] #[]] w fun e w' => ∃ g, e = .returned (.func (.func 200) #[] #[.pointer (some ⟨g, 0, none⟩)]) ∧ w'.heap[g]? = some (.cells #[.func (.func f) #[] #[]] 41 (0, 0)) ∧ w.heap.size ≤ g ∧ Below w.heap.size w w' := by
 go_enter Tryz.func173, Tryz.ntmps173
 go_wp2
 go_ret
 exact ⟨w.heap.size, rfl, World.alloc_heap_new w _, Nat.le_refl _, (Below.refl _ w).alloc (Nat.le_refl _) _⟩
theorem check_u8 (e : Bool) (n : Nat) (k : Int) (w : World) : (Instr.checkKey e (n + 1) 5 (.int .u8 k)).run Tryz.prog w = .ok () w := by
 have h2 := run_underlying (P := Tryz.prog) Tryz.underlying5
 unfold Instr.checkKey
 simp [h2]
theorem check_u8' (e : Bool) (k : Int) (w : World) : (Instr.checkKey e 10000 5 (.int .u8 k)).run Tryz.prog w = .ok () w := check_u8 e 9999 k w
theorem run_put (m : Nat) (es : Array MapEntry) (clock : Nat) (k : Int) (v : Value) (w : World) (hb : w.heap[m]? = some (.map es clock)) (hn : Instr.findNow (.int .u8) (.int .u8 k) es.toList 0 = some none) :
    (Instr.mapUpdate 141 (.map (some m)) (.int .u8 k) v).run Tryz.prog w = .ok () (w.putObj m (.map (es.push { key := .int .u8 k, val := v, born := clock }) (clock + 1))) := by
 have h1 := run_underlying (P := Tryz.prog) Tryz.underlying141
 have h2 := run_underlying (P := Tryz.prog) Tryz.underlying5
 unfold Instr.mapUpdate
 simp [h1, h2, check_u8', Instr.findKey, hn, Go.MapKept.run_getObj_map hb, Go.MapKept.run_setObj_map _ hb, World.putObj]
theorem run_look (m : Nat) (es : Array MapEntry) (clock : Nat) (k : Int) (i : Nat) (v : Value) (w : World) (hb : w.heap[m]? = some (.map es clock)) (hn : Instr.findNow (.int .u8) (.int .u8 k) es.toList 0 = some (some (i, v))) :
    (Instr.lookup 141 (.map (some m)) (.int .u8 k) false).run Tryz.prog w = .ok v w := by
 have h1 := run_underlying (P := Tryz.prog) Tryz.underlying141
 have h2 := run_underlying (P := Tryz.prog) Tryz.underlying5
 unfold Instr.lookup
 simp [h1, h2, check_u8', Instr.findKey, hn, Go.MapKept.run_getObj_map hb]
section
variable {P : Program} {ops : Array Oper} {Q : Exit → Act → World → Prop} {rest : List Oper} {o : Oper} {a : Act} {W w1 : World}
theorem gate_ins {k : Int} {v : Operand} (_h : o.op = .insert 141 (.tmp 1) (.const (.int .u8 k)) v) (h : wpList P ops Q (o :: rest) a W) : wpList P ops Q (o :: rest) a W := h
theorem ins_event (m : Nat) (es : Array MapEntry) (clock : Nat) (k : Int) (x : Operand) (v : Value) (hgd : o.guard = none) (hN : o.dst = none) (hop : o.op = .insert 141 (.tmp 1) (.const (.int .u8 k)) x) (hm : a.eval (.tmp 1) = .map (some m)) (hv : a.eval x = v)
    (hb : W.heap[m]? = some (.map es clock)) (hn : Instr.findNow (.int .u8) (.int .u8 k) es.toList 0 = some none)
    (h : ∀ w', w'.heap[m]? = some (.map (es.push { key := .int .u8 k, val := v, born := clock }) (clock + 1)) → W.grownBy w' (some m) → wpList Tryz.prog ops Q rest a w') : wpList Tryz.prog ops Q (o :: rest) a W := by
 refine wpList_plain hgd fun K hK => ?_
 have hr := run_put m es clock k v W hb hn
 unfold Oper.wp
 have he : (execOp a.eval o).run Tryz.prog W = .ok .skip (W.putObj m (.map (es.push { key := .int .u8 k, val := v, born := clock }) (clock + 1))) := by
  have hk : a.eval (.const (.int .u8 k)) = .int .u8 k := rfl
  unfold execOp
  simp [hop, hm, hv, hk, hr]
 rw [he]
 show K (a.put o.dst undef) _
 rw [hN]
 exact hK _ _ (h _ (World.putObj_heap_same (Array.getElem?_eq_some_iff.1 hb).1) (grownBy_putObj' W m _))
end
def ropsE (g1 g2 : Nat) : Array MapEntry := #[⟨.int .u8 43, .func (.func 200) #[] #[.pointer (some ⟨g1, 0, none⟩)], 0⟩, ⟨.int .u8 45, .func (.func 200) #[] #[.pointer (some ⟨g2, 0, none⟩)], 1⟩, ⟨.int .u8 42, .func (.func 174) #[] #[], 2⟩, ⟨.int .u8 47, .func (.func 175) #[] #[], 3⟩]
theorem rops_calls (w : World) : Calls Tryz.prog 133 #[] w fun e w' => ∃ m g1 g2, e = .returned (.map (some m)) ∧ w'.heap[m]? = some (.map (ropsE g1 g2) 4) ∧ w'.heap[g1]? = some (.cells #[.func (.func 103) #[] #[]] 41 (0, 0)) ∧ w'.heap[g2]? = some (.cells #[.func (.func 33) #[] #[]] 41 (0, 0)) ∧ Below w.heap.size w w' := by
 go_enter Tryz.func133, Tryz.ntmps133
 go_wp2_with (first
   | ((with_reducible refine gd_ 1 rfl ?_); refine Kd.event_run rfl (v := .map (some w.heap.size)) (w1 := w.alloc (.map #[] 0)) (by rfl) ?_
      obtain ⟨m, hm⟩ : ∃ m, w.heap.size = m := ⟨_, rfl⟩
      obtain ⟨W0, hW0⟩ : ∃ W0, w.alloc (.map #[] 0) = W0 := ⟨_, rfl⟩
      have hb0 : Below w.heap.size w W0 := by rw [← hW0]; exact (Below.refl _ w).alloc (Nat.le_refl _) _
      have hm0 : W0.heap[m]? = some (.map #[] 0) := by rw [← hW0, ← hm]; exact World.alloc_heap_new w _
      have hml := (Array.getElem?_eq_some_iff.1 hm0).1
      rw [hW0, hm]; clear hW0)
   | ((with_reducible refine gd_ 2 rfl ?_); refine goesL_ (some 2) rfl rfl Tryz.func173 (by kernel_rfl) rfl #[.func (.func 103) #[] #[]] rfl (by (try simp only [List.map_toArray, List.map_cons, List.map_nil]); first | done | rfl) ?_; refine (added_calls 103 _).mono ?_; rintro e w1 ⟨g1, rfl, hg1, hl1, hb1⟩; refine ⟨_, rfl, ?_⟩
      have hm1 : w1.heap[m]? = some (.map #[] 0) := (hb1.block m hml).trans hm0
      have hB1 := hb0.trans (hb1.mono hb0.size))
   | ((with_reducible refine gate_ins (k := 43) rfl ?_); refine ins_event m #[] 0 43 _ _ rfl rfl rfl rfl rfl hm1 rfl ?_; intro w2 hm2 hw2
      have hg12 : w2.heap[g1]? = some (.cells #[.func (.func 103) #[] #[]] 41 (0, 0)) := (hw2.block g1 (Array.getElem?_eq_some_iff.1 hg1).1 (fun e => by cases e; omega)).trans hg1
      have hB2 := hB1.grown hw2 hB1.size (fun k e => by cases e; omega)
      have hml2 := (Array.getElem?_eq_some_iff.1 hm2).1)
   | ((with_reducible refine gd_ 3 rfl ?_); refine goesL_ (some 3) rfl rfl Tryz.func173 (by kernel_rfl) rfl #[.func (.func 33) #[] #[]] rfl (by (try simp only [List.map_toArray, List.map_cons, List.map_nil]); first | done | rfl) ?_; refine (added_calls 33 _).mono ?_; rintro e w3 ⟨g2, rfl, hg2, hl2, hb3⟩; refine ⟨_, rfl, ?_⟩
      have hm3 := (hb3.block m hml2).trans hm2
      have hg13 := (hb3.block g1 (Array.getElem?_eq_some_iff.1 hg12).1).trans hg12
      have hB3 := hB2.trans (hb3.mono hB2.size))
   | ((with_reducible refine gate_ins (k := 45) rfl ?_); refine ins_event m _ 1 45 _ _ rfl rfl rfl rfl rfl hm3 rfl ?_; intro w4 hm4 hw4
      have hg14 := (hw4.block g1 (Array.getElem?_eq_some_iff.1 hg13).1 (fun e => by cases e; omega)).trans hg13
      have hg24 := (hw4.block g2 (Array.getElem?_eq_some_iff.1 hg2).1 (fun e => by cases e; omega)).trans hg2
      have hB4 := hB3.grown hw4 hB3.size (fun k e => by cases e; omega))
   | ((with_reducible refine gate_ins (k := 42) rfl ?_); refine ins_event m _ 2 42 _ _ rfl rfl rfl rfl rfl hm4 rfl ?_; intro w5 hm5 hw5
      have hg15 := (hw5.block g1 (Array.getElem?_eq_some_iff.1 hg14).1 (fun e => by cases e; omega)).trans hg14
      have hg25 := (hw5.block g2 (Array.getElem?_eq_some_iff.1 hg24).1 (fun e => by cases e; omega)).trans hg24
      have hB5 := hB4.grown hw5 hB4.size (fun k e => by cases e; omega))
   | ((with_reducible refine gate_ins (k := 47) rfl ?_); refine ins_event m _ 3 47 _ _ rfl rfl rfl rfl rfl hm5 rfl ?_; intro w6 hm6 hw6
      have hg16 := (hw6.block g1 (Array.getElem?_eq_some_iff.1 hg15).1 (fun e => by cases e; omega)).trans hg15
      have hg26 := (hw6.block g2 (Array.getElem?_eq_some_iff.1 hg25).1 (fun e => by cases e; omega)).trans hg25
      have hB6 := hB5.grown hw6 hB5.size (fun k e => by cases e; omega)))
 go_ret
 exact ⟨m, rfl, g1, g2, hm6, hg16, hg26, by rw [← hm]; exact hB6⟩
end Go.Proofs.YthnfajboebaajaaGreatDoor
namespace Go.Proofs.YthnfajboebaajaaGreatDoor.PA
open Go.RowKit Go.Proofs.WWords Go.Proofs.WLast Go.Proofs.WMore
attribute [local go_sem] max2_int min2_int max_two min_two max_three min_three max_four min_four
set_option linter.unusedVariables false
set_option linter.unusedSimpArgs false
theorem bIAdd.calls (k : Nat) (a0 : ByteArray) (a1 : ByteArray) (r1 : ByteArray) (r2 : Int) (w : World) (hL : LaidW w) (h : bIAdd.f k a0 a1 = some (r1, r2)) :
  Calls Tryz.prog 103 #[.string a0, .string a1] w fun e w' => e = .returned (.tuple #[.string r1, .int .i64 r2]) ∧ Below w.heap.size w w' := by
 have hu88 := Tryz.underlying88
 have HB := Z0.mk (Below.refl w.heap.size w)
 have H := h
 clear h
 unfold bIAdd.f at H
 obtain ⟨⟨t939, t940, t943, t944, t947⟩, A3, H⟩ := bnd H
 try dsimp only at H
 rcases je H with ⟨-, c4b0, c4b1, H⟩ | ⟨c4, c4b0, c4b1, H⟩
 ·obtain ⟨⟨t950, t951⟩, A5, H⟩ := bnd H
  try dsimp only at H
  obtain ⟨⟨t954, t955⟩, A6, H⟩ := bnd H
  try dsimp only at H
  simp only [Option.some.injEq, Prod.mk.injEq] at H
  obtain ⟨rfl, rfl⟩ := H
  go_enter Tryz.func103, Tryz.ntmps103
  go_wp2_with (first | ((with_reducible refine gc_ 86 rfl ?_); refine gL 12 Tryz.func86 (bIpair.calls _ _ _ _ _ _ _ _ _ A3.out) ?_; rintro _ w7 ⟨v941, v945, rfl, ho0, ho1, hb⟩; refine ⟨_, rfl, ?_⟩; have HO942 := fN ho0; have HO946 := fN ho1; replace HB := fB HB hb; clear hb ho0 ho1) | ((with_reducible refine gd_ 6 rfl ?_); refine bxE 6 #[.bool false, .slice none 0 0] 88 ?_; intro gb948 hg w8 hbox hb; have BK948 := Z0.mk hbox; have GW948 := fE HB hg; have GE948 := fE HB hg; replace HO942 := fR HO942 hb; replace HO946 := fR HO946 hb; replace HB := fB HB hb; clear hb hbox hg) | ((with_reducible refine gd_ 7 rfl ?_); refine bxE 7 #[.bool false, .slice none 0 0] 88 ?_; intro gb949 hg w9 hbox hb; have BK949 := Z0.mk hbox; have GW949 := fE HB hg; have GE949 := fE HB hg; have NB948_949 := fl BK948 hg; have NB949_948 := fg BK948 hg; replace HO942 := fR HO942 hb; replace HO946 := fR HO946 hb; replace BK948 := fk BK948 hb; replace HB := fB HB hb; clear hb hbox hg; have hnb10 := NB948_949.out; have hnc10 := NB949_948.out; obtain ⟨hcz11_0, hcz11_1, hfz11_0, hfz11_1⟩ := b2 BK948; obtain ⟨Ao12, co12, eo12⟩ := Kd.R_slice HO942.out; subst eo12; obtain ⟨hcz13_0, hcz13_1, hfz13_0, hfz13_1⟩ := b2 BK949; obtain ⟨Ao14, co14, eo14⟩ := Kd.R_slice HO946.out; subst eo14) | ((with_reducible refine gc_ 88 rfl ?_); refine goesL_ (some 21) rfl rfl Tryz.func88 (by kernel_rfl) rfl #[.agg #[.bool t939, .slice Ao12 t940.length co12], .agg #[.bool t943, .slice Ao14 t944.length co14]] rfl (by (try simp only [List.map_toArray, List.map_cons, List.map_nil]); first | done | rfl | (simp only [List.length_drop, List.length_take]; rfl)) ?_; (with_reducible refine (bIsum.calls k t939 _ _ t940 t943 _ _ t944 t950 t951 _ ?side1 ?side2 ?side3 ?side4 A5.out).mono ?_); (case side1 => refine (Kd.R_reads' (e := 3) (base := w.heap.size) (ok := fun k_ => some k_ ≠ (.slice Ao14 t944.length co14 : Value).ownBlock) (n := t940.length) (c := co12) ?_).2.2; exact (by (with_reducible repeat (first | apply Kd.R_alloc | apply Kd.R_drewN | apply Kd.R_drew)); exact (Kd.R_mono (Kd.R_mono (Kd.R_far (p := ⟨gb949, 1, none⟩) (Kd.R_far (p := ⟨gb949, 0, none⟩) (Kd.R_far (p := ⟨gb948, 1, none⟩) (Kd.R_far (p := ⟨gb948, 0, none⟩) (Kd.R_types (Kd.R_types HO942.out BK948.out (by decide)) BK949.out (by decide)) (fun _ hk => hk.1.2) (.bool t939)) (fun _ hk => hk.1.2) (.slice Ao12 t940.length co12)) (fun _ hk => hk.2) (.bool t943)) (fun _ hk => hk.2) (.slice Ao14 t944.length co14)) (fun _ h_ => h_.1)) (fun _ h_ => h_.1)))); (case side2 => exact (Kd.R_reads' HO942.out).2.1); (case side3 => refine (Kd.R_reads' (e := 3) (base := w.heap.size) (ok := fun k_ => some k_ ≠ (.slice Ao12 t940.length co12 : Value).ownBlock) (n := t944.length) (c := co14) ?_).2.2; exact (by (with_reducible repeat (first | apply Kd.R_alloc | apply Kd.R_drewN | apply Kd.R_drew)); exact (Kd.R_mono (Kd.R_mono (Kd.R_far (p := ⟨gb949, 1, none⟩) (Kd.R_far (p := ⟨gb949, 0, none⟩) (Kd.R_far (p := ⟨gb948, 1, none⟩) (Kd.R_far (p := ⟨gb948, 0, none⟩) (Kd.R_types (Kd.R_types HO946.out BK948.out (by decide)) BK949.out (by decide)) (fun _ hk => hk.1.2) (.bool t939)) (fun _ hk => hk.1.2) (.slice Ao12 t940.length co12)) (fun _ hk => hk.2) (.bool t943)) (fun _ hk => hk.2) (.slice Ao14 t944.length co14)) (fun _ h_ => h_.1)) (fun _ h_ => h_.1)))); (case side4 => exact (Kd.R_reads' HO946.out).2.1); rintro e w15 ⟨v952, rfl, ho0, hb⟩; refine ⟨_, rfl, ?_⟩; have HO953 := Z0.mk (Kd.R_lower (Kd.R_new' (Kd.R_new' ho0 (Kd.R_lt (by (with_reducible repeat (first | apply Kd.R_alloc | apply Kd.R_drewN | apply Kd.R_drew)); exact (Kd.R_mono (Kd.R_mono (Kd.R_far (p := ⟨gb949, 1, none⟩) (Kd.R_far (p := ⟨gb949, 0, none⟩) (Kd.R_far (p := ⟨gb948, 1, none⟩) (Kd.R_far (p := ⟨gb948, 0, none⟩) (Kd.R_types (Kd.R_types HO942.out BK948.out (by decide)) BK949.out (by decide)) (fun _ hk => hk.1.2) (.bool t939)) (fun _ hk => hk.1.2) (.slice Ao12 t940.length co12)) (fun _ hk => hk.2) (.bool t943)) (fun _ hk => hk.2) (.slice Ao14 t944.length co14)) (fun _ h_ => h_.1)) (fun _ h_ => h_.1))))) (Kd.R_lt (by (with_reducible repeat (first | apply Kd.R_alloc | apply Kd.R_drewN | apply Kd.R_drew)); exact (Kd.R_mono (Kd.R_mono (Kd.R_far (p := ⟨gb949, 1, none⟩) (Kd.R_far (p := ⟨gb949, 0, none⟩) (Kd.R_far (p := ⟨gb948, 1, none⟩) (Kd.R_far (p := ⟨gb948, 0, none⟩) (Kd.R_types (Kd.R_types HO946.out BK948.out (by decide)) BK949.out (by decide)) (fun _ hk => hk.1.2) (.bool t939)) (fun _ hk => hk.1.2) (.slice Ao12 t940.length co12)) (fun _ hk => hk.2) (.bool t943)) (fun _ hk => hk.2) (.slice Ao14 t944.length co14)) (fun _ h_ => h_.1)) (fun _ h_ => h_.1))))) (below_size bqs)); replace HO942 := Z0.mk (Kd.R_elder' (by (with_reducible repeat (first | apply Kd.R_alloc | apply Kd.R_drewN | apply Kd.R_drew)); exact (Kd.R_mono (Kd.R_mono (Kd.R_far (p := ⟨gb949, 1, none⟩) (Kd.R_far (p := ⟨gb949, 0, none⟩) (Kd.R_far (p := ⟨gb948, 1, none⟩) (Kd.R_far (p := ⟨gb948, 0, none⟩) (Kd.R_types (Kd.R_types HO942.out BK948.out (by decide)) BK949.out (by decide)) (fun _ hk => hk.1.2) (.bool t939)) (fun _ hk => hk.1.2) (.slice Ao12 t940.length co12)) (fun _ hk => hk.2) (.bool t943)) (fun _ hk => hk.2) (.slice Ao14 t944.length co14)) (fun _ h_ => h_.1)) (fun _ h_ => h_.1))) (Kd.R_base ho0) hb); replace HO946 := Z0.mk (Kd.R_elder' (by (with_reducible repeat (first | apply Kd.R_alloc | apply Kd.R_drewN | apply Kd.R_drew)); exact (Kd.R_mono (Kd.R_mono (Kd.R_far (p := ⟨gb949, 1, none⟩) (Kd.R_far (p := ⟨gb949, 0, none⟩) (Kd.R_far (p := ⟨gb948, 1, none⟩) (Kd.R_far (p := ⟨gb948, 0, none⟩) (Kd.R_types (Kd.R_types HO946.out BK948.out (by decide)) BK949.out (by decide)) (fun _ hk => hk.1.2) (.bool t939)) (fun _ hk => hk.1.2) (.slice Ao12 t940.length co12)) (fun _ hk => hk.2) (.bool t943)) (fun _ hk => hk.2) (.slice Ao14 t944.length co14)) (fun _ h_ => h_.1)) (fun _ h_ => h_.1))) (Kd.R_base ho0) hb); replace BK948 := Z0.mk (blk_below (g := gb948) (o := .cells #[.bool t939, .slice Ao12 t940.length co12] 88 (0, 0)) (by (with_reducible repeat (first | refine blk_drewN ?_ _ | refine blk_drew ?_ | refine blk_alloc ?_ _)); refine blk_far ?_ NB948_949.out _; (with_reducible repeat (first | refine blk_drewN ?_ _ | refine blk_drew ?_ | refine blk_alloc ?_ _)); refine blk_far ?_ NB948_949.out _; (with_reducible repeat (first | refine blk_drewN ?_ _ | refine blk_drew ?_ | refine blk_alloc ?_ _)); refine blk_put (cs := #[.bool t939, .slice none 0 0]) ?_ 1 _ rfl; (with_reducible repeat (first | refine blk_drewN ?_ _ | refine blk_drew ?_ | refine blk_alloc ?_ _)); refine blk_put (cs := #[.bool false, .slice none 0 0]) ?_ 0 _ rfl; (with_reducible repeat (first | refine blk_drewN ?_ _ | refine blk_drew ?_ | refine blk_alloc ?_ _)); exact BK948.out) hb); replace BK949 := Z0.mk (blk_below (g := gb949) (o := .cells #[.bool t943, .slice Ao14 t944.length co14] 88 (0, 0)) (by (with_reducible repeat (first | refine blk_drewN ?_ _ | refine blk_drew ?_ | refine blk_alloc ?_ _)); refine blk_put (cs := #[.bool t943, .slice none 0 0]) ?_ 1 _ rfl; (with_reducible repeat (first | refine blk_drewN ?_ _ | refine blk_drew ?_ | refine blk_alloc ?_ _)); refine blk_put (cs := #[.bool false, .slice none 0 0]) ?_ 0 _ rfl; (with_reducible repeat (first | refine blk_drewN ?_ _ | refine blk_drew ?_ | refine blk_alloc ?_ _)); refine blk_far ?_ NB949_948.out _; (with_reducible repeat (first | refine blk_drewN ?_ _ | refine blk_drew ?_ | refine blk_alloc ?_ _)); refine blk_far ?_ NB949_948.out _; (with_reducible repeat (first | refine blk_drewN ?_ _ | refine blk_drew ?_ | refine blk_alloc ?_ _)); exact BK949.out) hb); replace HB := fB HB hb; clear hb ho0; obtain ⟨Ao16, co16, eo16⟩ := Kd.R_slice HO953.out; subst eo16) | ((with_reducible refine gc_ 87 rfl ?_); refine gL 22 Tryz.func87 (bIwritten.calls t950 _ _ t951 t954 t955 _ ?side3 ?side1 ?side2 A6.out) ?_; (case side1 => exact cq (Kd.R_reads' HO953.out).2.2); (case side2 => exact (Kd.R_reads' HO953.out).2.1); (case side3 => exact LaidW.below hL bqs); rintro _ w17 ⟨rfl, hb⟩; refine ⟨_, rfl, ?_⟩; replace HO942 := fR HO942 hb; replace HO946 := fR HO946 hb; replace HO953 := fR HO953 hb; replace BK948 := fk BK948 hb; replace BK949 := fk BK949 hb; replace HB := fB HB hb; clear hb))
  go_ret2
  exact finE
 simp only [Option.some.injEq, Prod.mk.injEq] at H
 obtain ⟨rfl, rfl⟩ := H
 go_enter Tryz.func103, Tryz.ntmps103
 go_wp2_with (first | ((with_reducible refine gc_ 86 rfl ?_); refine gL 12 Tryz.func86 (bIpair.calls _ _ _ _ _ _ _ _ _ A3.out) ?_; rintro _ w18 ⟨v941, v945, rfl, ho0, ho1, hb⟩; refine ⟨_, rfl, ?_⟩; have HO942 := fN ho0; have HO946 := fN ho1; replace HB := fB HB hb; clear hb ho0 ho1) | ((with_reducible refine gd_ 6 rfl ?_); refine bxE 6 #[.bool false, .slice none 0 0] 88 ?_; intro gb948 hg w19 hbox hb; have BK948 := Z0.mk hbox; have GW948 := fE HB hg; have GE948 := fE HB hg; replace HO942 := fR HO942 hb; replace HO946 := fR HO946 hb; replace HB := fB HB hb; clear hb hbox hg) | ((with_reducible refine gd_ 7 rfl ?_); refine bxE 7 #[.bool false, .slice none 0 0] 88 ?_; intro gb949 hg w20 hbox hb; have BK949 := Z0.mk hbox; have GW949 := fE HB hg; have GE949 := fE HB hg; have NB948_949 := fl BK948 hg; have NB949_948 := fg BK948 hg; replace HO942 := fR HO942 hb; replace HO946 := fR HO946 hb; replace BK948 := fk BK948 hb; replace HB := fB HB hb; clear hb hbox hg; have hnb21 := NB948_949.out; have hnc21 := NB949_948.out; obtain ⟨hcz22_0, hcz22_1, hfz22_0, hfz22_1⟩ := b2 BK948; obtain ⟨Ao23, co23, eo23⟩ := Kd.R_slice HO942.out; subst eo23; obtain ⟨hcz24_0, hcz24_1, hfz24_0, hfz24_1⟩ := b2 BK949; obtain ⟨Ao25, co25, eo25⟩ := Kd.R_slice HO946.out; subst eo25))
 go_ret2
 exact finE
end Go.Proofs.YthnfajboebaajaaGreatDoor.PA
namespace Go.Proofs.YthnfajboebaajaaGreatDoor
open Go.RowKit Go.Proofs.WWords Go.Proofs.WLast Go.Proofs.WMore PA
attribute [local go_sem] max2_int min2_int max_two min_two max_three min_three max_four min_four
set_option linter.unusedVariables false
set_option linter.unusedSimpArgs false
theorem gcellF {w W : World} {g : Nat} {v : Value} {t : TypeId} (h : w.heap[g]? = some (.cells #[v] t (0, 0))) (hb : Below w.heap.size w W) : W.cell? ⟨g, 0, none⟩ = some v := by
 have h2 : W.heap[g]? = some (.cells #[v] t (0, 0)) := (hb.block g (Array.getElem?_eq_some_iff.1 h).1).trans h
 exact blk_cell h2 0
theorem rAaddop.calls (k : Nat) (a0_0 : ByteArray) (a0_1 : ByteArray) (a0_2 : ByteArray) (a0_3 : ByteArray) (r1 : ByteArray) (r2 : ByteArray) (r3 : Int) (gc : Nat) (w : World) (hgc : w.heap[gc]? = some (.cells #[.func (.func 103) #[] #[]] 41 (0, 0))) (hL : LaidW w) (h : rAaddop.f k a0_0 a0_1 a0_2 a0_3 = some (r1, r2, r3)) :
  Calls Tryz.prog 200 #[.agg #[.string a0_0, .string a0_1, .string a0_2, .string a0_3], .pointer (some ⟨gc, 0, none⟩)] w fun e w' => e = .returned (.tuple #[.string r1, .string r2, .int .i64 r3]) ∧ Below w.heap.size w w' := by
 have hu95 := Tryz.underlying95
 have HB := Z0.mk (Below.refl w.heap.size w)
 have H := h
 clear h
 unfold rAaddop.f at H
 obtain ⟨⟨t429, t430, t431⟩, A2, H⟩ := bnd H
 try dsimp only at H
 rcases je H with ⟨-, c3b0, c3b1, H⟩ | ⟨c3, c3b0, c3b1, H⟩
 ·obtain ⟨⟨t432, t433⟩, A4, H⟩ := bnd H
  try dsimp only at H
  rcases je H with ⟨-, c5b0, c5b1, H⟩ | ⟨c5, c5b0, c5b1, H⟩
  ·obtain ⟨⟨t434, t435⟩, A6, H⟩ := bnd H
   try dsimp only at H
   simp only [Option.some.injEq, Prod.mk.injEq] at H
   obtain ⟨rfl, rfl, rfl⟩ := H
   go_enter Tryz.func200, Tryz.ntmps200
   go_wp2_with (first | ((with_reducible refine gd_ 2 rfl ?_); refine bxE 2 #[.string a0_0, .string a0_1, .string a0_2, .string a0_3] 95 ?_; intro gb428 hg w7 hbox hb; have BK428 := Z0.mk hbox; have GW428 := fE HB hg; have GE428 := fE HB hg; replace HB := fB HB hb; clear hb hbox hg; obtain ⟨hcz8_0, hcz8_1, hcz8_2, hcz8_3, hfz8_0, hfz8_1, hfz8_2, hfz8_3⟩ := b4 BK428) | ((with_reducible refine gc_ 91 rfl ?_); refine gL 17 Tryz.func91 (rAboth.calls k a0_0 a0_3 a0_2 a0_1 t429 t430 t431 _ ?side1 A2.out) ?_; (case side1 => exact LaidW.below hL bqs); rintro _ w9 ⟨rfl, hb⟩; refine ⟨_, rfl, ?_⟩; replace BK428 := fk BK428 hb; replace HB := fB HB hb; have hgcF := gcellF hgc HB.out; clear hb) | (go_at_call 103; (with_reducible refine (bIAdd.calls k t429 t430 t432 t433 _ ?side1 A4.out).mono ?_); (case side1 => exact LaidW.below hL bqs); rintro e w10 ⟨rfl, hb⟩; replace BK428 := fk BK428 hb; replace HB := fB HB hb; clear hb; obtain ⟨hcz11_0, hcz11_1, hcz11_2, hcz11_3, hfz11_0, hfz11_1, hfz11_2, hfz11_3⟩ := b4 BK428) | ((with_reducible refine gc_ 39 rfl ?_); refine gL 39 Tryz.func39 (bIMul.calls k a0_1 a0_3 t434 t435 _ ?side1 A6.out) ?_; (case side1 => exact LaidW.below hL bqs); rintro _ w12 ⟨rfl, hb⟩; refine ⟨_, rfl, ?_⟩; replace BK428 := fk BK428 hb; replace HB := fB HB hb; clear hb))
   go_ret3
   exact finE
  simp only [Option.some.injEq, Prod.mk.injEq] at H
  obtain ⟨rfl, rfl, rfl⟩ := H
  go_enter Tryz.func200, Tryz.ntmps200
  go_wp2_with (first | ((with_reducible refine gd_ 2 rfl ?_); refine bxE 2 #[.string a0_0, .string a0_1, .string a0_2, .string a0_3] 95 ?_; intro gb428 hg w13 hbox hb; have BK428 := Z0.mk hbox; have GW428 := fE HB hg; have GE428 := fE HB hg; replace HB := fB HB hb; clear hb hbox hg; obtain ⟨hcz14_0, hcz14_1, hcz14_2, hcz14_3, hfz14_0, hfz14_1, hfz14_2, hfz14_3⟩ := b4 BK428) | ((with_reducible refine gc_ 91 rfl ?_); refine gL 17 Tryz.func91 (rAboth.calls k a0_0 a0_3 a0_2 a0_1 t429 t430 t431 _ ?side1 A2.out) ?_; (case side1 => exact LaidW.below hL bqs); rintro _ w15 ⟨rfl, hb⟩; refine ⟨_, rfl, ?_⟩; replace BK428 := fk BK428 hb; replace HB := fB HB hb; have hgcF := gcellF hgc HB.out; clear hb) | (go_at_call 103; (with_reducible refine (bIAdd.calls k t429 t430 t432 t433 _ ?side1 A4.out).mono ?_); (case side1 => exact LaidW.below hL bqs); rintro e w16 ⟨rfl, hb⟩; replace BK428 := fk BK428 hb; replace HB := fB HB hb; clear hb))
  go_ret3
  exact finE
 simp only [Option.some.injEq, Prod.mk.injEq] at H
 obtain ⟨rfl, rfl, rfl⟩ := H
 go_enter Tryz.func200, Tryz.ntmps200
 go_wp2_with (first | ((with_reducible refine gd_ 2 rfl ?_); refine bxE 2 #[.string a0_0, .string a0_1, .string a0_2, .string a0_3] 95 ?_; intro gb428 hg w17 hbox hb; have BK428 := Z0.mk hbox; have GW428 := fE HB hg; have GE428 := fE HB hg; replace HB := fB HB hb; clear hb hbox hg; obtain ⟨hcz18_0, hcz18_1, hcz18_2, hcz18_3, hfz18_0, hfz18_1, hfz18_2, hfz18_3⟩ := b4 BK428) | ((with_reducible refine gc_ 91 rfl ?_); refine gL 17 Tryz.func91 (rAboth.calls k a0_0 a0_3 a0_2 a0_1 t429 t430 t431 _ ?side1 A2.out) ?_; (case side1 => exact LaidW.below hL bqs); rintro _ w19 ⟨rfl, hb⟩; refine ⟨_, rfl, ?_⟩; replace BK428 := fk BK428 hb; replace HB := fB HB hb; have hgcF := gcellF hgc HB.out; clear hb))
 go_ret3
 exact finE
theorem rAsubop.calls (k : Nat) (a0_0 : ByteArray) (a0_1 : ByteArray) (a0_2 : ByteArray) (a0_3 : ByteArray) (r1 : ByteArray) (r2 : ByteArray) (r3 : Int) (gc : Nat) (w : World) (hgc : w.heap[gc]? = some (.cells #[.func (.func 33) #[] #[]] 41 (0, 0))) (hL : LaidW w) (h : rAsubop.f k a0_0 a0_1 a0_2 a0_3 = some (r1, r2, r3)) :
  Calls Tryz.prog 200 #[.agg #[.string a0_0, .string a0_1, .string a0_2, .string a0_3], .pointer (some ⟨gc, 0, none⟩)] w fun e w' => e = .returned (.tuple #[.string r1, .string r2, .int .i64 r3]) ∧ Below w.heap.size w w' := by
 have hu95 := Tryz.underlying95
 have HB := Z0.mk (Below.refl w.heap.size w)
 have H := h
 clear h
 unfold rAsubop.f at H
 obtain ⟨⟨t429, t430, t431⟩, A2, H⟩ := bnd H
 try dsimp only at H
 rcases je H with ⟨-, c3b0, c3b1, H⟩ | ⟨c3, c3b0, c3b1, H⟩
 ·obtain ⟨⟨t432, t433⟩, A4, H⟩ := bnd H
  try dsimp only at H
  rcases je H with ⟨-, c5b0, c5b1, H⟩ | ⟨c5, c5b0, c5b1, H⟩
  ·obtain ⟨⟨t434, t435⟩, A6, H⟩ := bnd H
   try dsimp only at H
   simp only [Option.some.injEq, Prod.mk.injEq] at H
   obtain ⟨rfl, rfl, rfl⟩ := H
   go_enter Tryz.func200, Tryz.ntmps200
   go_wp2_with (first | ((with_reducible refine gd_ 2 rfl ?_); refine bxE 2 #[.string a0_0, .string a0_1, .string a0_2, .string a0_3] 95 ?_; intro gb428 hg w7 hbox hb; have BK428 := Z0.mk hbox; have GW428 := fE HB hg; have GE428 := fE HB hg; replace HB := fB HB hb; clear hb hbox hg; obtain ⟨hcz8_0, hcz8_1, hcz8_2, hcz8_3, hfz8_0, hfz8_1, hfz8_2, hfz8_3⟩ := b4 BK428) | ((with_reducible refine gc_ 91 rfl ?_); refine gL 17 Tryz.func91 (rAboth.calls k a0_0 a0_3 a0_2 a0_1 t429 t430 t431 _ ?side1 A2.out) ?_; (case side1 => exact LaidW.below hL bqs); rintro _ w9 ⟨rfl, hb⟩; refine ⟨_, rfl, ?_⟩; replace BK428 := fk BK428 hb; replace HB := fB HB hb; have hgcF := gcellF hgc HB.out; clear hb) | (go_at_call 33; (with_reducible refine (bISub.calls k t429 t430 t432 t433 _ ?side1 A4.out).mono ?_); (case side1 => exact LaidW.below hL bqs); rintro e w10 ⟨rfl, hb⟩; replace BK428 := fk BK428 hb; replace HB := fB HB hb; clear hb; obtain ⟨hcz11_0, hcz11_1, hcz11_2, hcz11_3, hfz11_0, hfz11_1, hfz11_2, hfz11_3⟩ := b4 BK428) | ((with_reducible refine gc_ 39 rfl ?_); refine gL 39 Tryz.func39 (bIMul.calls k a0_1 a0_3 t434 t435 _ ?side1 A6.out) ?_; (case side1 => exact LaidW.below hL bqs); rintro _ w12 ⟨rfl, hb⟩; refine ⟨_, rfl, ?_⟩; replace BK428 := fk BK428 hb; replace HB := fB HB hb; clear hb))
   go_ret3
   exact finE
  simp only [Option.some.injEq, Prod.mk.injEq] at H
  obtain ⟨rfl, rfl, rfl⟩ := H
  go_enter Tryz.func200, Tryz.ntmps200
  go_wp2_with (first | ((with_reducible refine gd_ 2 rfl ?_); refine bxE 2 #[.string a0_0, .string a0_1, .string a0_2, .string a0_3] 95 ?_; intro gb428 hg w13 hbox hb; have BK428 := Z0.mk hbox; have GW428 := fE HB hg; have GE428 := fE HB hg; replace HB := fB HB hb; clear hb hbox hg; obtain ⟨hcz14_0, hcz14_1, hcz14_2, hcz14_3, hfz14_0, hfz14_1, hfz14_2, hfz14_3⟩ := b4 BK428) | ((with_reducible refine gc_ 91 rfl ?_); refine gL 17 Tryz.func91 (rAboth.calls k a0_0 a0_3 a0_2 a0_1 t429 t430 t431 _ ?side1 A2.out) ?_; (case side1 => exact LaidW.below hL bqs); rintro _ w15 ⟨rfl, hb⟩; refine ⟨_, rfl, ?_⟩; replace BK428 := fk BK428 hb; replace HB := fB HB hb; have hgcF := gcellF hgc HB.out; clear hb) | (go_at_call 33; (with_reducible refine (bISub.calls k t429 t430 t432 t433 _ ?side1 A4.out).mono ?_); (case side1 => exact LaidW.below hL bqs); rintro e w16 ⟨rfl, hb⟩; replace BK428 := fk BK428 hb; replace HB := fB HB hb; clear hb))
  go_ret3
  exact finE
 simp only [Option.some.injEq, Prod.mk.injEq] at H
 obtain ⟨rfl, rfl, rfl⟩ := H
 go_enter Tryz.func200, Tryz.ntmps200
 go_wp2_with (first | ((with_reducible refine gd_ 2 rfl ?_); refine bxE 2 #[.string a0_0, .string a0_1, .string a0_2, .string a0_3] 95 ?_; intro gb428 hg w17 hbox hb; have BK428 := Z0.mk hbox; have GW428 := fE HB hg; have GE428 := fE HB hg; replace HB := fB HB hb; clear hb hbox hg; obtain ⟨hcz18_0, hcz18_1, hcz18_2, hcz18_3, hfz18_0, hfz18_1, hfz18_2, hfz18_3⟩ := b4 BK428) | ((with_reducible refine gc_ 91 rfl ?_); refine gL 17 Tryz.func91 (rAboth.calls k a0_0 a0_3 a0_2 a0_1 t429 t430 t431 _ ?side1 A2.out) ?_; (case side1 => exact LaidW.below hL bqs); rintro _ w19 ⟨rfl, hb⟩; refine ⟨_, rfl, ?_⟩; replace BK428 := fk BK428 hb; replace HB := fB HB hb; have hgcF := gcellF hgc HB.out; clear hb))
 go_ret3
 exact finE
theorem rAoperations_1.calls (k : Nat) (a0_0 : ByteArray) (a0_1 : ByteArray) (a0_2 : ByteArray) (a0_3 : ByteArray) (r1 : ByteArray) (r2 : ByteArray) (r3 : Int) (w : World) (hL : LaidW w) (h : rAoperations_1.f k a0_0 a0_1 a0_2 a0_3 = some (r1, r2, r3)) :
  Calls Tryz.prog 174 #[.agg #[.string a0_0, .string a0_1, .string a0_2, .string a0_3]] w fun e w' => e = .returned (.tuple #[.string r1, .string r2, .int .i64 r3]) ∧ Below w.heap.size w w' := by
 have hu95 := Tryz.underlying95
 have HB := Z0.mk (Below.refl w.heap.size w)
 have H := h
 clear h
 unfold rAoperations_1.f at H
 obtain ⟨⟨t429, t430, t431⟩, A2, H⟩ := bnd H
 try dsimp only at H
 simp only [Option.some.injEq, Prod.mk.injEq] at H
 obtain ⟨rfl, rfl, rfl⟩ := H
 go_enter Tryz.func174, Tryz.ntmps174
 go_wp2_with (first | ((with_reducible refine gd_ 1 rfl ?_); refine bxE 1 #[.string a0_0, .string a0_1, .string a0_2, .string a0_3] 95 ?_; intro gb428 hg w3 hbox hb; have BK428 := Z0.mk hbox; have GW428 := fE HB hg; have GE428 := fE HB hg; replace HB := fB HB hb; clear hb hbox hg; obtain ⟨hcz4_0, hcz4_1, hcz4_2, hcz4_3, hfz4_0, hfz4_1, hfz4_2, hfz4_3⟩ := b4 BK428) | ((with_reducible refine gc_ 91 rfl ?_); refine gL 13 Tryz.func91 (rAboth.calls k a0_0 a0_2 a0_1 a0_3 t429 t430 t431 _ ?side1 A2.out) ?_; (case side1 => exact LaidW.below hL bqs); rintro _ w5 ⟨rfl, hb⟩; refine ⟨_, rfl, ?_⟩; replace BK428 := fk BK428 hb; replace HB := fB HB hb; clear hb))
 go_ret3
 exact finE
theorem rAoperations_2.calls (k : Nat) (a0_0 : ByteArray) (a0_1 : ByteArray) (a0_2 : ByteArray) (a0_3 : ByteArray) (r1 : ByteArray) (r2 : ByteArray) (r3 : Int) (w : World) (hL : LaidW w) (h : rAoperations_2.f k a0_0 a0_1 a0_2 a0_3 = some (r1, r2, r3)) :
  Calls Tryz.prog 175 #[.agg #[.string a0_0, .string a0_1, .string a0_2, .string a0_3]] w fun e w' => e = .returned (.tuple #[.string r1, .string r2, .int .i64 r3]) ∧ Below w.heap.size w w' := by
 have hu95 := Tryz.underlying95
 have HB := Z0.mk (Below.refl w.heap.size w)
 have H := h
 clear h
 unfold rAoperations_2.f at H
 rcases je H with ⟨-, c2b0, c2b1, H⟩ | ⟨c2, c2b0, c2b1, H⟩
 ·simp only [Option.some.injEq, Prod.mk.injEq] at H
  obtain ⟨rfl, rfl, rfl⟩ := H
  go_enter Tryz.func175, Tryz.ntmps175
  go_wp2_with (first | ((with_reducible refine gd_ 1 rfl ?_); refine bxE 1 #[.string a0_0, .string a0_1, .string a0_2, .string a0_3] 95 ?_; intro gb428 hg w3 hbox hb; have BK428 := Z0.mk hbox; have GW428 := fE HB hg; have GE428 := fE HB hg; replace HB := fB HB hb; clear hb hbox hg; obtain ⟨hcz4_0, hcz4_1, hcz4_2, hcz4_3, hfz4_0, hfz4_1, hfz4_2, hfz4_3⟩ := b4 BK428))
  go_ret3
  exact finE
 obtain ⟨⟨t429, t430, t431⟩, A5, H⟩ := bnd H
 try dsimp only at H
 simp only [Option.some.injEq, Prod.mk.injEq] at H
 obtain ⟨rfl, rfl, rfl⟩ := H
 go_enter Tryz.func175, Tryz.ntmps175
 go_wp2_with (first | ((with_reducible refine gd_ 1 rfl ?_); refine bxE 1 #[.string a0_0, .string a0_1, .string a0_2, .string a0_3] 95 ?_; intro gb428 hg w6 hbox hb; have BK428 := Z0.mk hbox; have GW428 := fE HB hg; have GE428 := fE HB hg; replace HB := fB HB hb; clear hb hbox hg; obtain ⟨hcz7_0, hcz7_1, hcz7_2, hcz7_3, hfz7_0, hfz7_1, hfz7_2, hfz7_3⟩ := b4 BK428) | ((with_reducible refine gc_ 91 rfl ?_); refine gL 16 Tryz.func91 (rAboth.calls k a0_0 a0_3 a0_1 a0_2 t429 t430 t431 _ ?side1 A5.out) ?_; (case side1 => exact LaidW.below hL bqs); rintro _ w8 ⟨rfl, hb⟩; refine ⟨_, rfl, ?_⟩; replace BK428 := fk BK428 hb; replace HB := fB HB hb; clear hb))
 go_ret3
 exact finE
end Go.Proofs.YthnfajboebaajaaGreatDoor
namespace Go.Proofs.YthnfajboebaajaaGreatDoor.PA
open Go.RowKit Go.Proofs.WWords Go.Proofs.WLast Go.Proofs.WMore
attribute [local go_sem] max2_int min2_int max_two min_two max_three min_three max_four min_four
set_option linter.unusedVariables false
set_option linter.unusedSimpArgs false
theorem bISign.calls (k : Nat) (a0 : ByteArray) (r1 : Int) (r2 : Int) (w : World) (h : bISign.f k a0 = some (r1, r2)) :
  Calls Tryz.prog 38 #[.string a0] w fun e w' => e = .returned (.tuple #[.int .i64 r1, .int .i64 r2]) ∧ Below w.heap.size w w' := by
 have HB := Z0.mk (Below.refl w.heap.size w)
 have H := h
 clear h
 unfold bISign.f at H
 obtain ⟨⟨t350, t351⟩, A2, H⟩ := bnd H
 try dsimp only at H
 simp only [Option.some.injEq, Prod.mk.injEq] at H
 obtain ⟨rfl, rfl⟩ := H
 go_enter Tryz.func38, Tryz.ntmps38
 go_wp2_with (first | ((with_reducible refine gc_ 63 rfl ?_); refine goB (some 5) Tryz.func63 #[.string a0, .string (⟨#[48]⟩ : ByteArray)] bq (bICompare.calls k a0 (⟨#[48]⟩ : ByteArray) t350 t351 _ A2.out) ?_; clear HB; intro w3 HB))
 go_ret2
 exact finE
theorem rAwhole.calls (k : Nat) (a0 : ByteArray) (a1 : ByteArray) (r1 : ByteArray) (r2 : Int) (w : World) (hL : LaidW w) (h : rAwhole.f k a0 a1 = some (r1, r2)) :
  Calls Tryz.prog 84 #[.string a0, .string a1] w fun e w' => e = .returned (.tuple #[.string r1, .int .i64 r2]) ∧ Below w.heap.size w w' := by
 have HB := Z0.mk (Below.refl w.heap.size w)
 have H := h
 clear h
 unfold rAwhole.f at H
 obtain ⟨⟨t352, t353⟩, A3, H⟩ := bnd H
 try dsimp only at H
 rcases je H with ⟨-, c4b0, c4b1, H⟩ | ⟨c4, c4b0, c4b1, H⟩
 ·obtain ⟨⟨t354, t355⟩, A5, H⟩ := bnd H
  try dsimp only at H
  have HC6 := Z0.mk H
  clear H
  go_enter Tryz.func84, Tryz.ntmps84
  go_upto_if 27 with (first | ((with_reducible refine gc_ 37 rfl ?_); refine goB (some 15) Tryz.func37 #[.string a0, .string a1] bq (bIGcd.calls k a0 a1 t352 t353 _ (hL.below bq) A3.out) ?_; clear HB; intro w7 HB) | ((with_reducible refine gc_ 38 rfl ?_); refine goB (some 23) Tryz.func38 #[.string a1] bq (bISign.calls k a1 t354 t355 _ A5.out) ?_; clear HB; intro w8 HB))
  (try simp only [Act.put, List.setIfInBounds_toArray, List.set_cons_zero, List.set_cons_succ])
  go_cut [6] (fun v6 wc => ∃ (kq : Nat) (x6_5 : ByteArray), v6 = .string x6_5 ∧ Z0 (rAwhole.j0 kq a0 a1 x6_5 = some (r1, r2)) ∧ Z0 (kq ≤ k) ∧ Z0 (Below w.heap.size w wc))
  case first =>
   have H := HC6.out
   clear HC6
   rcases jd H with ⟨-, c9b0, H⟩ | ⟨-, c9b0, H⟩
   ·(first | rw [c9b0] | (simp only [i64_w, i32_w]; rw [c9b0]) | skip)
    obtain ⟨⟨t356, t357⟩, A10, H⟩ := bnd H
    try dsimp only at H
    have H' := Z0.mk H
    clear H
    go_wp2_with (first | ((with_reducible refine gc_ 35 rfl ?_); refine goB (some 30) Tryz.func35 #[.string t352] bq (bINeg.calls k t352 t356 t357 _ (hL.below bq) A10.out) ?_; clear HB; intro w11 HB))
    go_meet
    case rel => exact ⟨_, (t356), fs, H', ⟨by first | omega | exact Nat.le_refl _⟩, ⟨bqs⟩⟩
   (first | rw [c9b0] | (simp only [i64_w, i32_w]; rw [c9b0]) | skip)
   have H' := Z0.mk H
   clear H
   go_wp2
   go_meet
   case rel => exact ⟨_, (t352), fs, H', ⟨by first | omega | exact Nat.le_refl _⟩, ⟨bqs⟩⟩
  case rest =>
   clear HC6
   try clear p2
   try clear c3
   try clear c4
   try clear c4b0
   try clear c4b1
   try clear c8
   try clear c9
   try clear c9b0
   obtain ⟨kq, x6_5, rfl, HA, HJ5, HB⟩ := hcut
   cases kq with
   | zero => exact absurd HA.out (by simp [rAwhole.j0])
   | succ kj5 =>
    have H := HA.out
    clear HA
    simp only [rAwhole.j0] at H
    obtain ⟨⟨t358, t359⟩, A12, H⟩ := bnd H
    try dsimp only at H
    rcases je H with ⟨-, c13b0, c13b1, H⟩ | ⟨c13, c13b0, c13b1, H⟩
    ·obtain ⟨⟨t360, t361⟩, A14, H⟩ := bnd H
     try dsimp only at H
     rcases je H with ⟨-, c15b0, c15b1, H⟩ | ⟨c15, c15b0, c15b1, H⟩
     ·rcases je H with ⟨-, c16b0, c16b1, H⟩ | ⟨c16, c16b0, c16b1, H⟩
      ·simp only [Option.some.injEq, Prod.mk.injEq] at H
       obtain ⟨rfl, rfl⟩ := H
       go_wp2_with (first | ((with_reducible refine gc_ 69 rfl ?_); refine goB (some 36) Tryz.func69 #[.string a0, .string x6_5] bq (bIQuo.calls kj5 a0 x6_5 t358 t359 _ (hL.below bq) A12.out) ?_; clear HB; intro w17 HB) | ((with_reducible refine gc_ 69 rfl ?_); refine goB (some 45) Tryz.func69 #[.string a1, .string x6_5] bq (bIQuo.calls kj5 a1 x6_5 t360 t361 _ (hL.below bq) A14.out) ?_; clear HB; intro w18 HB))
       go_ret2
       exact finE
      obtain ⟨c19, c19b0, c19b1, H⟩ := gt H
      try have c19b2 : (9223372036854775807 < t358.size + 1) = False := eq_false (Nat.not_lt.2 c19)
      obtain ⟨c20, c20b0, c20b1, H⟩ := gt H
      try have c20b2 : (9223372036854775807 < (t358 ++ (⟨#[47]⟩ : ByteArray)).size + t360.size) = False := eq_false (Nat.not_lt.2 c20)
      simp only [Option.some.injEq, Prod.mk.injEq] at H
      obtain ⟨rfl, rfl⟩ := H
      go_wp2_with (first | ((with_reducible refine gc_ 69 rfl ?_); refine goB (some 36) Tryz.func69 #[.string a0, .string x6_5] bq (bIQuo.calls kj5 a0 x6_5 t358 t359 _ (hL.below bq) A12.out) ?_; clear HB; intro w21 HB) | ((with_reducible refine gc_ 69 rfl ?_); refine goB (some 45) Tryz.func69 #[.string a1, .string x6_5] bq (bIQuo.calls kj5 a1 x6_5 t360 t361 _ (hL.below bq) A14.out) ?_; clear HB; intro w22 HB))
      go_ret2
      exact finE
     simp only [Option.some.injEq, Prod.mk.injEq] at H
     obtain ⟨rfl, rfl⟩ := H
     go_wp2_with (first | ((with_reducible refine gc_ 69 rfl ?_); refine goB (some 36) Tryz.func69 #[.string a0, .string x6_5] bq (bIQuo.calls kj5 a0 x6_5 t358 t359 _ (hL.below bq) A12.out) ?_; clear HB; intro w23 HB) | ((with_reducible refine gc_ 69 rfl ?_); refine goB (some 45) Tryz.func69 #[.string a1, .string x6_5] bq (bIQuo.calls kj5 a1 x6_5 t360 t361 _ (hL.below bq) A14.out) ?_; clear HB; intro w24 HB))
     go_ret2
     exact finE
    simp only [Option.some.injEq, Prod.mk.injEq] at H
    obtain ⟨rfl, rfl⟩ := H
    go_wp2_with (first | ((with_reducible refine gc_ 69 rfl ?_); refine goB (some 36) Tryz.func69 #[.string a0, .string x6_5] bq (bIQuo.calls kj5 a0 x6_5 t358 t359 _ (hL.below bq) A12.out) ?_; clear HB; intro w25 HB))
    go_ret2
    exact finE
 simp only [Option.some.injEq, Prod.mk.injEq] at H
 obtain ⟨rfl, rfl⟩ := H
 go_enter Tryz.func84, Tryz.ntmps84
 go_wp2_with (first | ((with_reducible refine gc_ 37 rfl ?_); refine goB (some 15) Tryz.func37 #[.string a0, .string a1] bq (bIGcd.calls k a0 a1 t352 t353 _ (hL.below bq) A3.out) ?_; clear HB; intro w26 HB))
 go_ret2
 exact finE
end Go.Proofs.YthnfajboebaajaaGreatDoor.PA
namespace Go.Proofs.YthnfajboebaajaaGreatDoor
set_option linter.unusedVariables false
set_option linter.unusedSimpArgs false
open Go.RowKit Go.Proofs.WWords Go.Proofs.WLast Go.Proofs.WMore PA
theorem calc43 (k : Nat) (a1 a2 : ByteArray) (r1 : ByteArray) (r2 : Int) (w : World) (hL : LaidW w) (h : calcF (rAaddop.f k) k a1 a2 = some (r1, r2)) :
    Calls Tryz.prog 97 #[.int .u8 43, .string a1, .string a2] w fun e w' => e = .returned (.tuple #[.string r1, .int .i64 r2]) ∧ Below w.heap.size w w' := by
 have hu95 := Tryz.underlying95
 unfold calcF at h
 obtain ⟨⟨p, q, r, s, e1⟩, hp, h⟩ := Option.bind_eq_some_iff.mp h
 simp only at h
 by_cases c1 : e1 = 0
 rotate_left
 ·rw [if_neg c1] at h
  simp only [Option.some.injEq, Prod.mk.injEq] at h
  obtain ⟨rfl, rfl⟩ := h
  have c1b : (e1 != 0) = true := bne_iff_ne.mpr c1
  have c1c : (e1 == 0) = false := beq_eq_false_iff_ne.mpr c1
  go_enter Tryz.func97, Tryz.ntmps97
  go_wp2_with (first | ((with_reducible refine gc_ 90 rfl ?_); refine goB (w0 := w) (some 15) Tryz.func90 #[.string a1, .string a2] (Below.refl _ _) (rAnewPair.calls k a1 a2 p q r s e1 _ hL hp) ?_; intro w1 HB) | ((with_reducible refine gd_ 8 rfl ?_); refine bxE 8 #[.string (⟨#[]⟩ : ByteArray), .string (⟨#[]⟩ : ByteArray), .string (⟨#[]⟩ : ByteArray), .string (⟨#[]⟩ : ByteArray)] 95 ?_; intro gb hg wb hbox hbb; have hgl : w.heap.size ≤ gb := (by rw [hg]; exact HB.out.size); have HB2 := Z0.mk (below_step HB.out hbb); clear HB hg hbb; have HB := HB2; clear HB2; have hc0 : wb.cell? ⟨gb, 0, none⟩ = some (.string (⟨#[]⟩ : ByteArray)) := (blk_cell hbox 0).trans rfl; have hf0 := blk_frozen hbox 0; have hc1 : wb.cell? ⟨gb, 1, none⟩ = some (.string (⟨#[]⟩ : ByteArray)) := (blk_cell hbox 1).trans rfl; have hf1 := blk_frozen hbox 1; have hc2 : wb.cell? ⟨gb, 2, none⟩ = some (.string (⟨#[]⟩ : ByteArray)) := (blk_cell hbox 2).trans rfl; have hf2 := blk_frozen hbox 2; have hc3 : wb.cell? ⟨gb, 3, none⟩ = some (.string (⟨#[]⟩ : ByteArray)) := (blk_cell hbox 3).trans rfl; have hf3 := blk_frozen hbox 3))
  go_ret2
  exact ⟨rfl, below_set (below_set (below_set (below_set HB.out hgl) hgl) hgl) hgl⟩
 rw [if_pos c1] at h
 obtain ⟨⟨y1, y2, e2⟩, ho, h⟩ := Option.bind_eq_some_iff.mp h
 simp only at h
 have c1b : (e1 != 0) = false := bne_eq_false_iff_eq.mpr c1
 have c1c : (e1 == 0) = true := beq_iff_eq.mpr c1
 clear c1
 by_cases c2 : e2 = 0
 ·rw [if_pos c2] at h
  have c2b : (e2 != 0) = false := bne_eq_false_iff_eq.mpr c2
  have c2c : (e2 == 0) = true := beq_iff_eq.mpr c2
  clear c2
  have hw := h
  go_enter Tryz.func97, Tryz.ntmps97
  go_wp2_with (first | ((with_reducible refine gc_ 90 rfl ?_); refine goB (w0 := w) (some 15) Tryz.func90 #[.string a1, .string a2] (Below.refl _ _) (rAnewPair.calls k a1 a2 p q r s e1 _ hL hp) ?_; intro w1 HB) | ((with_reducible refine gd_ 8 rfl ?_); refine bxE 8 #[.string (⟨#[]⟩ : ByteArray), .string (⟨#[]⟩ : ByteArray), .string (⟨#[]⟩ : ByteArray), .string (⟨#[]⟩ : ByteArray)] 95 ?_; intro gb hg wb hbox hbb; have hgl : w.heap.size ≤ gb := (by rw [hg]; exact HB.out.size); have HB2 := Z0.mk (below_step HB.out hbb); clear HB hg hbb; have HB := HB2; clear HB2; have hc0 : wb.cell? ⟨gb, 0, none⟩ = some (.string (⟨#[]⟩ : ByteArray)) := (blk_cell hbox 0).trans rfl; have hf0 := blk_frozen hbox 0; have hc1 : wb.cell? ⟨gb, 1, none⟩ = some (.string (⟨#[]⟩ : ByteArray)) := (blk_cell hbox 1).trans rfl; have hf1 := blk_frozen hbox 1; have hc2 : wb.cell? ⟨gb, 2, none⟩ = some (.string (⟨#[]⟩ : ByteArray)) := (blk_cell hbox 2).trans rfl; have hf2 := blk_frozen hbox 2; have hc3 : wb.cell? ⟨gb, 3, none⟩ = some (.string (⟨#[]⟩ : ByteArray)) := (blk_cell hbox 3).trans rfl; have hf3 := blk_frozen hbox 3))
  obtain ⟨W, hW⟩ : ∃ W, ((((wb.setCell ⟨gb, 0, none⟩ (.string p)).setCell ⟨gb, 1, none⟩ (.string q)).setCell ⟨gb, 2, none⟩ (.string r)).setCell ⟨gb, 3, none⟩ (.string s)) = W := ⟨_, rfl⟩
  have hx : W.heap[gb]? = some (.cells #[.string p, .string q, .string r, .string s] 95 (0, 0)) := by
   rw [← hW]
   exact blk_put (cs := #[.string p, .string q, .string r, .string (⟨#[]⟩ : ByteArray)]) (blk_put (cs := #[.string p, .string q, .string (⟨#[]⟩ : ByteArray), .string (⟨#[]⟩ : ByteArray)]) (blk_put (cs := #[.string p, .string (⟨#[]⟩ : ByteArray), .string (⟨#[]⟩ : ByteArray), .string (⟨#[]⟩ : ByteArray)]) (blk_put hbox 0 _ rfl) 1 _ rfl) 2 _ rfl) 3 _ rfl
  have hBW : Below w.heap.size w W := by rw [← hW]; exact below_set (below_set (below_set (below_set HB.out hgl) hgl) hgl) hgl
  rw [hW]
  clear hW HB hbox
  have hxd : W.drew.heap[gb]? = some (.cells #[.string p, .string q, .string r, .string s] 95 (0, 0)) := hx
  have hBd : Below w.heap.size w W.drew := hBW.drew
  go_region_held3 (fun w' => w'.cell? ⟨gb, 0, none⟩ = some (.string p) ∧ w'.cell? ⟨gb, 1, none⟩ = some (.string q) ∧ w'.cell? ⟨gb, 2, none⟩ = some (.string r) ∧ w'.cell? ⟨gb, 3, none⟩ = some (.string s))
   (first | exact ⟨blk_cell hxd 0, blk_cell hxd 1, blk_cell hxd 2, blk_cell hxd 3⟩ | exact ⟨blk_cell hx2 0, blk_cell hx2 1, blk_cell hx2 2, blk_cell hx2 3⟩ | exact ⟨blk_cell hx3 0, blk_cell hx3 1, blk_cell hx3 2, blk_cell hx3 3⟩)
   (first
     | (go_at_call 133; refine (rops_calls _).mono ?_; rintro e w2 ⟨m, g1, g2, rfl, hm, hg1, hg2, hb2⟩
        have hx2 := (hb2.block gb (Array.getElem?_eq_some_iff.1 hxd).1).trans hxd
        have hB2 := below_step hBd hb2
        have hlk := run_look m (ropsE g1 g2) 4 43 0 _ w2 hm rfl)
     | (go_at_call 200; refine (rAaddop.calls k p q r s y1 y2 e2 g1 w2 hg1 (hL.below hB2) ho).mono ?_; rintro e w3 ⟨rfl, hb3⟩
        have hx3 := (hb3.block gb (Array.getElem?_eq_some_iff.1 hx2).1).trans hx2
        have HB := Z0.mk (below_step hB2 hb3)))
  all_goals go_wp2_with (first | ((with_reducible refine gc_ 84 rfl ?_); refine goB (w0 := w) (some 35) Tryz.func84 #[.string y1, .string y2] HB.out (rAwhole.calls k y1 y2 r1 r2 _ (hL.below HB.out) hw) ?_; clear HB; intro w5 HB))
  go_ret2
  exact ⟨rfl, HB.out⟩
 rw [if_neg c2] at h
 simp only [Option.some.injEq, Prod.mk.injEq] at h
 obtain ⟨rfl, rfl⟩ := h
 have c2b : (e2 != 0) = true := bne_iff_ne.mpr c2
 have c2c : (e2 == 0) = false := beq_eq_false_iff_ne.mpr c2
 go_enter Tryz.func97, Tryz.ntmps97
 go_wp2_with (first | ((with_reducible refine gc_ 90 rfl ?_); refine goB (w0 := w) (some 15) Tryz.func90 #[.string a1, .string a2] (Below.refl _ _) (rAnewPair.calls k a1 a2 p q r s e1 _ hL hp) ?_; intro w1 HB) | ((with_reducible refine gd_ 8 rfl ?_); refine bxE 8 #[.string (⟨#[]⟩ : ByteArray), .string (⟨#[]⟩ : ByteArray), .string (⟨#[]⟩ : ByteArray), .string (⟨#[]⟩ : ByteArray)] 95 ?_; intro gb hg wb hbox hbb; have hgl : w.heap.size ≤ gb := (by rw [hg]; exact HB.out.size); have HB2 := Z0.mk (below_step HB.out hbb); clear HB hg hbb; have HB := HB2; clear HB2; have hc0 : wb.cell? ⟨gb, 0, none⟩ = some (.string (⟨#[]⟩ : ByteArray)) := (blk_cell hbox 0).trans rfl; have hf0 := blk_frozen hbox 0; have hc1 : wb.cell? ⟨gb, 1, none⟩ = some (.string (⟨#[]⟩ : ByteArray)) := (blk_cell hbox 1).trans rfl; have hf1 := blk_frozen hbox 1; have hc2 : wb.cell? ⟨gb, 2, none⟩ = some (.string (⟨#[]⟩ : ByteArray)) := (blk_cell hbox 2).trans rfl; have hf2 := blk_frozen hbox 2; have hc3 : wb.cell? ⟨gb, 3, none⟩ = some (.string (⟨#[]⟩ : ByteArray)) := (blk_cell hbox 3).trans rfl; have hf3 := blk_frozen hbox 3))
 obtain ⟨W, hW⟩ : ∃ W, ((((wb.setCell ⟨gb, 0, none⟩ (.string p)).setCell ⟨gb, 1, none⟩ (.string q)).setCell ⟨gb, 2, none⟩ (.string r)).setCell ⟨gb, 3, none⟩ (.string s)) = W := ⟨_, rfl⟩
 have hx : W.heap[gb]? = some (.cells #[.string p, .string q, .string r, .string s] 95 (0, 0)) := by
  rw [← hW]
  exact blk_put (cs := #[.string p, .string q, .string r, .string (⟨#[]⟩ : ByteArray)]) (blk_put (cs := #[.string p, .string q, .string (⟨#[]⟩ : ByteArray), .string (⟨#[]⟩ : ByteArray)]) (blk_put (cs := #[.string p, .string (⟨#[]⟩ : ByteArray), .string (⟨#[]⟩ : ByteArray), .string (⟨#[]⟩ : ByteArray)]) (blk_put hbox 0 _ rfl) 1 _ rfl) 2 _ rfl) 3 _ rfl
 have hBW : Below w.heap.size w W := by rw [← hW]; exact below_set (below_set (below_set (below_set HB.out hgl) hgl) hgl) hgl
 rw [hW]
 clear hW HB hbox
 have hxd : W.drew.heap[gb]? = some (.cells #[.string p, .string q, .string r, .string s] 95 (0, 0)) := hx
 have hBd : Below w.heap.size w W.drew := hBW.drew
 go_region_held3 (fun w' => w'.cell? ⟨gb, 0, none⟩ = some (.string p) ∧ w'.cell? ⟨gb, 1, none⟩ = some (.string q) ∧ w'.cell? ⟨gb, 2, none⟩ = some (.string r) ∧ w'.cell? ⟨gb, 3, none⟩ = some (.string s))
  (first | exact ⟨blk_cell hxd 0, blk_cell hxd 1, blk_cell hxd 2, blk_cell hxd 3⟩ | exact ⟨blk_cell hx2 0, blk_cell hx2 1, blk_cell hx2 2, blk_cell hx2 3⟩ | exact ⟨blk_cell hx3 0, blk_cell hx3 1, blk_cell hx3 2, blk_cell hx3 3⟩)
  (first
    | (go_at_call 133; refine (rops_calls _).mono ?_; rintro e w2 ⟨m, g1, g2, rfl, hm, hg1, hg2, hb2⟩
       have hx2 := (hb2.block gb (Array.getElem?_eq_some_iff.1 hxd).1).trans hxd
       have hB2 := below_step hBd hb2
       have hlk := run_look m (ropsE g1 g2) 4 43 0 _ w2 hm rfl)
    | (go_at_call 200; refine (rAaddop.calls k p q r s y1 y2 e2 g1 w2 hg1 (hL.below hB2) ho).mono ?_; rintro e w3 ⟨rfl, hb3⟩
       have hx3 := (hb3.block gb (Array.getElem?_eq_some_iff.1 hx2).1).trans hx2
       have HB := Z0.mk (below_step hB2 hb3)))
 all_goals go_wp2
 go_ret2
 exact ⟨rfl, HB.out⟩
theorem calc45 (k : Nat) (a1 a2 : ByteArray) (r1 : ByteArray) (r2 : Int) (w : World) (hL : LaidW w) (h : calcF (rAsubop.f k) k a1 a2 = some (r1, r2)) :
    Calls Tryz.prog 97 #[.int .u8 45, .string a1, .string a2] w fun e w' => e = .returned (.tuple #[.string r1, .int .i64 r2]) ∧ Below w.heap.size w w' := by
 have hu95 := Tryz.underlying95
 unfold calcF at h
 obtain ⟨⟨p, q, r, s, e1⟩, hp, h⟩ := Option.bind_eq_some_iff.mp h
 simp only at h
 by_cases c1 : e1 = 0
 rotate_left
 ·rw [if_neg c1] at h
  simp only [Option.some.injEq, Prod.mk.injEq] at h
  obtain ⟨rfl, rfl⟩ := h
  have c1b : (e1 != 0) = true := bne_iff_ne.mpr c1
  have c1c : (e1 == 0) = false := beq_eq_false_iff_ne.mpr c1
  go_enter Tryz.func97, Tryz.ntmps97
  go_wp2_with (first | ((with_reducible refine gc_ 90 rfl ?_); refine goB (w0 := w) (some 15) Tryz.func90 #[.string a1, .string a2] (Below.refl _ _) (rAnewPair.calls k a1 a2 p q r s e1 _ hL hp) ?_; intro w1 HB) | ((with_reducible refine gd_ 8 rfl ?_); refine bxE 8 #[.string (⟨#[]⟩ : ByteArray), .string (⟨#[]⟩ : ByteArray), .string (⟨#[]⟩ : ByteArray), .string (⟨#[]⟩ : ByteArray)] 95 ?_; intro gb hg wb hbox hbb; have hgl : w.heap.size ≤ gb := (by rw [hg]; exact HB.out.size); have HB2 := Z0.mk (below_step HB.out hbb); clear HB hg hbb; have HB := HB2; clear HB2; have hc0 : wb.cell? ⟨gb, 0, none⟩ = some (.string (⟨#[]⟩ : ByteArray)) := (blk_cell hbox 0).trans rfl; have hf0 := blk_frozen hbox 0; have hc1 : wb.cell? ⟨gb, 1, none⟩ = some (.string (⟨#[]⟩ : ByteArray)) := (blk_cell hbox 1).trans rfl; have hf1 := blk_frozen hbox 1; have hc2 : wb.cell? ⟨gb, 2, none⟩ = some (.string (⟨#[]⟩ : ByteArray)) := (blk_cell hbox 2).trans rfl; have hf2 := blk_frozen hbox 2; have hc3 : wb.cell? ⟨gb, 3, none⟩ = some (.string (⟨#[]⟩ : ByteArray)) := (blk_cell hbox 3).trans rfl; have hf3 := blk_frozen hbox 3))
  go_ret2
  exact ⟨rfl, below_set (below_set (below_set (below_set HB.out hgl) hgl) hgl) hgl⟩
 rw [if_pos c1] at h
 obtain ⟨⟨y1, y2, e2⟩, ho, h⟩ := Option.bind_eq_some_iff.mp h
 simp only at h
 have c1b : (e1 != 0) = false := bne_eq_false_iff_eq.mpr c1
 have c1c : (e1 == 0) = true := beq_iff_eq.mpr c1
 clear c1
 by_cases c2 : e2 = 0
 ·rw [if_pos c2] at h
  have c2b : (e2 != 0) = false := bne_eq_false_iff_eq.mpr c2
  have c2c : (e2 == 0) = true := beq_iff_eq.mpr c2
  clear c2
  have hw := h
  go_enter Tryz.func97, Tryz.ntmps97
  go_wp2_with (first | ((with_reducible refine gc_ 90 rfl ?_); refine goB (w0 := w) (some 15) Tryz.func90 #[.string a1, .string a2] (Below.refl _ _) (rAnewPair.calls k a1 a2 p q r s e1 _ hL hp) ?_; intro w1 HB) | ((with_reducible refine gd_ 8 rfl ?_); refine bxE 8 #[.string (⟨#[]⟩ : ByteArray), .string (⟨#[]⟩ : ByteArray), .string (⟨#[]⟩ : ByteArray), .string (⟨#[]⟩ : ByteArray)] 95 ?_; intro gb hg wb hbox hbb; have hgl : w.heap.size ≤ gb := (by rw [hg]; exact HB.out.size); have HB2 := Z0.mk (below_step HB.out hbb); clear HB hg hbb; have HB := HB2; clear HB2; have hc0 : wb.cell? ⟨gb, 0, none⟩ = some (.string (⟨#[]⟩ : ByteArray)) := (blk_cell hbox 0).trans rfl; have hf0 := blk_frozen hbox 0; have hc1 : wb.cell? ⟨gb, 1, none⟩ = some (.string (⟨#[]⟩ : ByteArray)) := (blk_cell hbox 1).trans rfl; have hf1 := blk_frozen hbox 1; have hc2 : wb.cell? ⟨gb, 2, none⟩ = some (.string (⟨#[]⟩ : ByteArray)) := (blk_cell hbox 2).trans rfl; have hf2 := blk_frozen hbox 2; have hc3 : wb.cell? ⟨gb, 3, none⟩ = some (.string (⟨#[]⟩ : ByteArray)) := (blk_cell hbox 3).trans rfl; have hf3 := blk_frozen hbox 3))
  obtain ⟨W, hW⟩ : ∃ W, ((((wb.setCell ⟨gb, 0, none⟩ (.string p)).setCell ⟨gb, 1, none⟩ (.string q)).setCell ⟨gb, 2, none⟩ (.string r)).setCell ⟨gb, 3, none⟩ (.string s)) = W := ⟨_, rfl⟩
  have hx : W.heap[gb]? = some (.cells #[.string p, .string q, .string r, .string s] 95 (0, 0)) := by
   rw [← hW]
   exact blk_put (cs := #[.string p, .string q, .string r, .string (⟨#[]⟩ : ByteArray)]) (blk_put (cs := #[.string p, .string q, .string (⟨#[]⟩ : ByteArray), .string (⟨#[]⟩ : ByteArray)]) (blk_put (cs := #[.string p, .string (⟨#[]⟩ : ByteArray), .string (⟨#[]⟩ : ByteArray), .string (⟨#[]⟩ : ByteArray)]) (blk_put hbox 0 _ rfl) 1 _ rfl) 2 _ rfl) 3 _ rfl
  have hBW : Below w.heap.size w W := by rw [← hW]; exact below_set (below_set (below_set (below_set HB.out hgl) hgl) hgl) hgl
  rw [hW]
  clear hW HB hbox
  have hxd : W.drew.heap[gb]? = some (.cells #[.string p, .string q, .string r, .string s] 95 (0, 0)) := hx
  have hBd : Below w.heap.size w W.drew := hBW.drew
  go_region_held3 (fun w' => w'.cell? ⟨gb, 0, none⟩ = some (.string p) ∧ w'.cell? ⟨gb, 1, none⟩ = some (.string q) ∧ w'.cell? ⟨gb, 2, none⟩ = some (.string r) ∧ w'.cell? ⟨gb, 3, none⟩ = some (.string s))
   (first | exact ⟨blk_cell hxd 0, blk_cell hxd 1, blk_cell hxd 2, blk_cell hxd 3⟩ | exact ⟨blk_cell hx2 0, blk_cell hx2 1, blk_cell hx2 2, blk_cell hx2 3⟩ | exact ⟨blk_cell hx3 0, blk_cell hx3 1, blk_cell hx3 2, blk_cell hx3 3⟩)
   (first
     | (go_at_call 133; refine (rops_calls _).mono ?_; rintro e w2 ⟨m, g1, g2, rfl, hm, hg1, hg2, hb2⟩
        have hx2 := (hb2.block gb (Array.getElem?_eq_some_iff.1 hxd).1).trans hxd
        have hB2 := below_step hBd hb2
        have hlk := run_look m (ropsE g1 g2) 4 45 1 _ w2 hm rfl)
     | (go_at_call 200; refine (rAsubop.calls k p q r s y1 y2 e2 g2 w2 hg2 (hL.below hB2) ho).mono ?_; rintro e w3 ⟨rfl, hb3⟩
        have hx3 := (hb3.block gb (Array.getElem?_eq_some_iff.1 hx2).1).trans hx2
        have HB := Z0.mk (below_step hB2 hb3)))
  all_goals go_wp2_with (first | ((with_reducible refine gc_ 84 rfl ?_); refine goB (w0 := w) (some 35) Tryz.func84 #[.string y1, .string y2] HB.out (rAwhole.calls k y1 y2 r1 r2 _ (hL.below HB.out) hw) ?_; clear HB; intro w5 HB))
  go_ret2
  exact ⟨rfl, HB.out⟩
 rw [if_neg c2] at h
 simp only [Option.some.injEq, Prod.mk.injEq] at h
 obtain ⟨rfl, rfl⟩ := h
 have c2b : (e2 != 0) = true := bne_iff_ne.mpr c2
 have c2c : (e2 == 0) = false := beq_eq_false_iff_ne.mpr c2
 go_enter Tryz.func97, Tryz.ntmps97
 go_wp2_with (first | ((with_reducible refine gc_ 90 rfl ?_); refine goB (w0 := w) (some 15) Tryz.func90 #[.string a1, .string a2] (Below.refl _ _) (rAnewPair.calls k a1 a2 p q r s e1 _ hL hp) ?_; intro w1 HB) | ((with_reducible refine gd_ 8 rfl ?_); refine bxE 8 #[.string (⟨#[]⟩ : ByteArray), .string (⟨#[]⟩ : ByteArray), .string (⟨#[]⟩ : ByteArray), .string (⟨#[]⟩ : ByteArray)] 95 ?_; intro gb hg wb hbox hbb; have hgl : w.heap.size ≤ gb := (by rw [hg]; exact HB.out.size); have HB2 := Z0.mk (below_step HB.out hbb); clear HB hg hbb; have HB := HB2; clear HB2; have hc0 : wb.cell? ⟨gb, 0, none⟩ = some (.string (⟨#[]⟩ : ByteArray)) := (blk_cell hbox 0).trans rfl; have hf0 := blk_frozen hbox 0; have hc1 : wb.cell? ⟨gb, 1, none⟩ = some (.string (⟨#[]⟩ : ByteArray)) := (blk_cell hbox 1).trans rfl; have hf1 := blk_frozen hbox 1; have hc2 : wb.cell? ⟨gb, 2, none⟩ = some (.string (⟨#[]⟩ : ByteArray)) := (blk_cell hbox 2).trans rfl; have hf2 := blk_frozen hbox 2; have hc3 : wb.cell? ⟨gb, 3, none⟩ = some (.string (⟨#[]⟩ : ByteArray)) := (blk_cell hbox 3).trans rfl; have hf3 := blk_frozen hbox 3))
 obtain ⟨W, hW⟩ : ∃ W, ((((wb.setCell ⟨gb, 0, none⟩ (.string p)).setCell ⟨gb, 1, none⟩ (.string q)).setCell ⟨gb, 2, none⟩ (.string r)).setCell ⟨gb, 3, none⟩ (.string s)) = W := ⟨_, rfl⟩
 have hx : W.heap[gb]? = some (.cells #[.string p, .string q, .string r, .string s] 95 (0, 0)) := by
  rw [← hW]
  exact blk_put (cs := #[.string p, .string q, .string r, .string (⟨#[]⟩ : ByteArray)]) (blk_put (cs := #[.string p, .string q, .string (⟨#[]⟩ : ByteArray), .string (⟨#[]⟩ : ByteArray)]) (blk_put (cs := #[.string p, .string (⟨#[]⟩ : ByteArray), .string (⟨#[]⟩ : ByteArray), .string (⟨#[]⟩ : ByteArray)]) (blk_put hbox 0 _ rfl) 1 _ rfl) 2 _ rfl) 3 _ rfl
 have hBW : Below w.heap.size w W := by rw [← hW]; exact below_set (below_set (below_set (below_set HB.out hgl) hgl) hgl) hgl
 rw [hW]
 clear hW HB hbox
 have hxd : W.drew.heap[gb]? = some (.cells #[.string p, .string q, .string r, .string s] 95 (0, 0)) := hx
 have hBd : Below w.heap.size w W.drew := hBW.drew
 go_region_held3 (fun w' => w'.cell? ⟨gb, 0, none⟩ = some (.string p) ∧ w'.cell? ⟨gb, 1, none⟩ = some (.string q) ∧ w'.cell? ⟨gb, 2, none⟩ = some (.string r) ∧ w'.cell? ⟨gb, 3, none⟩ = some (.string s))
  (first | exact ⟨blk_cell hxd 0, blk_cell hxd 1, blk_cell hxd 2, blk_cell hxd 3⟩ | exact ⟨blk_cell hx2 0, blk_cell hx2 1, blk_cell hx2 2, blk_cell hx2 3⟩ | exact ⟨blk_cell hx3 0, blk_cell hx3 1, blk_cell hx3 2, blk_cell hx3 3⟩)
  (first
    | (go_at_call 133; refine (rops_calls _).mono ?_; rintro e w2 ⟨m, g1, g2, rfl, hm, hg1, hg2, hb2⟩
       have hx2 := (hb2.block gb (Array.getElem?_eq_some_iff.1 hxd).1).trans hxd
       have hB2 := below_step hBd hb2
       have hlk := run_look m (ropsE g1 g2) 4 45 1 _ w2 hm rfl)
    | (go_at_call 200; refine (rAsubop.calls k p q r s y1 y2 e2 g2 w2 hg2 (hL.below hB2) ho).mono ?_; rintro e w3 ⟨rfl, hb3⟩
       have hx3 := (hb3.block gb (Array.getElem?_eq_some_iff.1 hx2).1).trans hx2
       have HB := Z0.mk (below_step hB2 hb3)))
 all_goals go_wp2
 go_ret2
 exact ⟨rfl, HB.out⟩
theorem calc42 (k : Nat) (a1 a2 : ByteArray) (r1 : ByteArray) (r2 : Int) (w : World) (hL : LaidW w) (h : calcF (rAoperations_1.f k) k a1 a2 = some (r1, r2)) :
    Calls Tryz.prog 97 #[.int .u8 42, .string a1, .string a2] w fun e w' => e = .returned (.tuple #[.string r1, .int .i64 r2]) ∧ Below w.heap.size w w' := by
 have hu95 := Tryz.underlying95
 unfold calcF at h
 obtain ⟨⟨p, q, r, s, e1⟩, hp, h⟩ := Option.bind_eq_some_iff.mp h
 simp only at h
 by_cases c1 : e1 = 0
 rotate_left
 ·rw [if_neg c1] at h
  simp only [Option.some.injEq, Prod.mk.injEq] at h
  obtain ⟨rfl, rfl⟩ := h
  have c1b : (e1 != 0) = true := bne_iff_ne.mpr c1
  have c1c : (e1 == 0) = false := beq_eq_false_iff_ne.mpr c1
  go_enter Tryz.func97, Tryz.ntmps97
  go_wp2_with (first | ((with_reducible refine gc_ 90 rfl ?_); refine goB (w0 := w) (some 15) Tryz.func90 #[.string a1, .string a2] (Below.refl _ _) (rAnewPair.calls k a1 a2 p q r s e1 _ hL hp) ?_; intro w1 HB) | ((with_reducible refine gd_ 8 rfl ?_); refine bxE 8 #[.string (⟨#[]⟩ : ByteArray), .string (⟨#[]⟩ : ByteArray), .string (⟨#[]⟩ : ByteArray), .string (⟨#[]⟩ : ByteArray)] 95 ?_; intro gb hg wb hbox hbb; have hgl : w.heap.size ≤ gb := (by rw [hg]; exact HB.out.size); have HB2 := Z0.mk (below_step HB.out hbb); clear HB hg hbb; have HB := HB2; clear HB2; have hc0 : wb.cell? ⟨gb, 0, none⟩ = some (.string (⟨#[]⟩ : ByteArray)) := (blk_cell hbox 0).trans rfl; have hf0 := blk_frozen hbox 0; have hc1 : wb.cell? ⟨gb, 1, none⟩ = some (.string (⟨#[]⟩ : ByteArray)) := (blk_cell hbox 1).trans rfl; have hf1 := blk_frozen hbox 1; have hc2 : wb.cell? ⟨gb, 2, none⟩ = some (.string (⟨#[]⟩ : ByteArray)) := (blk_cell hbox 2).trans rfl; have hf2 := blk_frozen hbox 2; have hc3 : wb.cell? ⟨gb, 3, none⟩ = some (.string (⟨#[]⟩ : ByteArray)) := (blk_cell hbox 3).trans rfl; have hf3 := blk_frozen hbox 3))
  go_ret2
  exact ⟨rfl, below_set (below_set (below_set (below_set HB.out hgl) hgl) hgl) hgl⟩
 rw [if_pos c1] at h
 obtain ⟨⟨y1, y2, e2⟩, ho, h⟩ := Option.bind_eq_some_iff.mp h
 simp only at h
 have c1b : (e1 != 0) = false := bne_eq_false_iff_eq.mpr c1
 have c1c : (e1 == 0) = true := beq_iff_eq.mpr c1
 clear c1
 by_cases c2 : e2 = 0
 ·rw [if_pos c2] at h
  have c2b : (e2 != 0) = false := bne_eq_false_iff_eq.mpr c2
  have c2c : (e2 == 0) = true := beq_iff_eq.mpr c2
  clear c2
  have hw := h
  go_enter Tryz.func97, Tryz.ntmps97
  go_wp2_with (first | ((with_reducible refine gc_ 90 rfl ?_); refine goB (w0 := w) (some 15) Tryz.func90 #[.string a1, .string a2] (Below.refl _ _) (rAnewPair.calls k a1 a2 p q r s e1 _ hL hp) ?_; intro w1 HB) | ((with_reducible refine gd_ 8 rfl ?_); refine bxE 8 #[.string (⟨#[]⟩ : ByteArray), .string (⟨#[]⟩ : ByteArray), .string (⟨#[]⟩ : ByteArray), .string (⟨#[]⟩ : ByteArray)] 95 ?_; intro gb hg wb hbox hbb; have hgl : w.heap.size ≤ gb := (by rw [hg]; exact HB.out.size); have HB2 := Z0.mk (below_step HB.out hbb); clear HB hg hbb; have HB := HB2; clear HB2; have hc0 : wb.cell? ⟨gb, 0, none⟩ = some (.string (⟨#[]⟩ : ByteArray)) := (blk_cell hbox 0).trans rfl; have hf0 := blk_frozen hbox 0; have hc1 : wb.cell? ⟨gb, 1, none⟩ = some (.string (⟨#[]⟩ : ByteArray)) := (blk_cell hbox 1).trans rfl; have hf1 := blk_frozen hbox 1; have hc2 : wb.cell? ⟨gb, 2, none⟩ = some (.string (⟨#[]⟩ : ByteArray)) := (blk_cell hbox 2).trans rfl; have hf2 := blk_frozen hbox 2; have hc3 : wb.cell? ⟨gb, 3, none⟩ = some (.string (⟨#[]⟩ : ByteArray)) := (blk_cell hbox 3).trans rfl; have hf3 := blk_frozen hbox 3))
  obtain ⟨W, hW⟩ : ∃ W, ((((wb.setCell ⟨gb, 0, none⟩ (.string p)).setCell ⟨gb, 1, none⟩ (.string q)).setCell ⟨gb, 2, none⟩ (.string r)).setCell ⟨gb, 3, none⟩ (.string s)) = W := ⟨_, rfl⟩
  have hx : W.heap[gb]? = some (.cells #[.string p, .string q, .string r, .string s] 95 (0, 0)) := by
   rw [← hW]
   exact blk_put (cs := #[.string p, .string q, .string r, .string (⟨#[]⟩ : ByteArray)]) (blk_put (cs := #[.string p, .string q, .string (⟨#[]⟩ : ByteArray), .string (⟨#[]⟩ : ByteArray)]) (blk_put (cs := #[.string p, .string (⟨#[]⟩ : ByteArray), .string (⟨#[]⟩ : ByteArray), .string (⟨#[]⟩ : ByteArray)]) (blk_put hbox 0 _ rfl) 1 _ rfl) 2 _ rfl) 3 _ rfl
  have hBW : Below w.heap.size w W := by rw [← hW]; exact below_set (below_set (below_set (below_set HB.out hgl) hgl) hgl) hgl
  rw [hW]
  clear hW HB hbox
  have hxd : W.drew.heap[gb]? = some (.cells #[.string p, .string q, .string r, .string s] 95 (0, 0)) := hx
  have hBd : Below w.heap.size w W.drew := hBW.drew
  go_region_held3 (fun w' => w'.cell? ⟨gb, 0, none⟩ = some (.string p) ∧ w'.cell? ⟨gb, 1, none⟩ = some (.string q) ∧ w'.cell? ⟨gb, 2, none⟩ = some (.string r) ∧ w'.cell? ⟨gb, 3, none⟩ = some (.string s))
   (first | exact ⟨blk_cell hxd 0, blk_cell hxd 1, blk_cell hxd 2, blk_cell hxd 3⟩ | exact ⟨blk_cell hx2 0, blk_cell hx2 1, blk_cell hx2 2, blk_cell hx2 3⟩ | exact ⟨blk_cell hx3 0, blk_cell hx3 1, blk_cell hx3 2, blk_cell hx3 3⟩)
   (first
     | (go_at_call 133; refine (rops_calls _).mono ?_; rintro e w2 ⟨m, g1, g2, rfl, hm, hg1, hg2, hb2⟩
        have hx2 := (hb2.block gb (Array.getElem?_eq_some_iff.1 hxd).1).trans hxd
        have hB2 := below_step hBd hb2
        have hlk := run_look m (ropsE g1 g2) 4 42 2 _ w2 hm rfl)
     | (go_at_call 174; refine (rAoperations_1.calls k p q r s y1 y2 e2 w2 (hL.below hB2) ho).mono ?_; rintro e w3 ⟨rfl, hb3⟩
        have hx3 := (hb3.block gb (Array.getElem?_eq_some_iff.1 hx2).1).trans hx2
        have HB := Z0.mk (below_step hB2 hb3)))
  all_goals go_wp2_with (first | ((with_reducible refine gc_ 84 rfl ?_); refine goB (w0 := w) (some 35) Tryz.func84 #[.string y1, .string y2] HB.out (rAwhole.calls k y1 y2 r1 r2 _ (hL.below HB.out) hw) ?_; clear HB; intro w5 HB))
  go_ret2
  exact ⟨rfl, HB.out⟩
 rw [if_neg c2] at h
 simp only [Option.some.injEq, Prod.mk.injEq] at h
 obtain ⟨rfl, rfl⟩ := h
 have c2b : (e2 != 0) = true := bne_iff_ne.mpr c2
 have c2c : (e2 == 0) = false := beq_eq_false_iff_ne.mpr c2
 go_enter Tryz.func97, Tryz.ntmps97
 go_wp2_with (first | ((with_reducible refine gc_ 90 rfl ?_); refine goB (w0 := w) (some 15) Tryz.func90 #[.string a1, .string a2] (Below.refl _ _) (rAnewPair.calls k a1 a2 p q r s e1 _ hL hp) ?_; intro w1 HB) | ((with_reducible refine gd_ 8 rfl ?_); refine bxE 8 #[.string (⟨#[]⟩ : ByteArray), .string (⟨#[]⟩ : ByteArray), .string (⟨#[]⟩ : ByteArray), .string (⟨#[]⟩ : ByteArray)] 95 ?_; intro gb hg wb hbox hbb; have hgl : w.heap.size ≤ gb := (by rw [hg]; exact HB.out.size); have HB2 := Z0.mk (below_step HB.out hbb); clear HB hg hbb; have HB := HB2; clear HB2; have hc0 : wb.cell? ⟨gb, 0, none⟩ = some (.string (⟨#[]⟩ : ByteArray)) := (blk_cell hbox 0).trans rfl; have hf0 := blk_frozen hbox 0; have hc1 : wb.cell? ⟨gb, 1, none⟩ = some (.string (⟨#[]⟩ : ByteArray)) := (blk_cell hbox 1).trans rfl; have hf1 := blk_frozen hbox 1; have hc2 : wb.cell? ⟨gb, 2, none⟩ = some (.string (⟨#[]⟩ : ByteArray)) := (blk_cell hbox 2).trans rfl; have hf2 := blk_frozen hbox 2; have hc3 : wb.cell? ⟨gb, 3, none⟩ = some (.string (⟨#[]⟩ : ByteArray)) := (blk_cell hbox 3).trans rfl; have hf3 := blk_frozen hbox 3))
 obtain ⟨W, hW⟩ : ∃ W, ((((wb.setCell ⟨gb, 0, none⟩ (.string p)).setCell ⟨gb, 1, none⟩ (.string q)).setCell ⟨gb, 2, none⟩ (.string r)).setCell ⟨gb, 3, none⟩ (.string s)) = W := ⟨_, rfl⟩
 have hx : W.heap[gb]? = some (.cells #[.string p, .string q, .string r, .string s] 95 (0, 0)) := by
  rw [← hW]
  exact blk_put (cs := #[.string p, .string q, .string r, .string (⟨#[]⟩ : ByteArray)]) (blk_put (cs := #[.string p, .string q, .string (⟨#[]⟩ : ByteArray), .string (⟨#[]⟩ : ByteArray)]) (blk_put (cs := #[.string p, .string (⟨#[]⟩ : ByteArray), .string (⟨#[]⟩ : ByteArray), .string (⟨#[]⟩ : ByteArray)]) (blk_put hbox 0 _ rfl) 1 _ rfl) 2 _ rfl) 3 _ rfl
 have hBW : Below w.heap.size w W := by rw [← hW]; exact below_set (below_set (below_set (below_set HB.out hgl) hgl) hgl) hgl
 rw [hW]
 clear hW HB hbox
 have hxd : W.drew.heap[gb]? = some (.cells #[.string p, .string q, .string r, .string s] 95 (0, 0)) := hx
 have hBd : Below w.heap.size w W.drew := hBW.drew
 go_region_held3 (fun w' => w'.cell? ⟨gb, 0, none⟩ = some (.string p) ∧ w'.cell? ⟨gb, 1, none⟩ = some (.string q) ∧ w'.cell? ⟨gb, 2, none⟩ = some (.string r) ∧ w'.cell? ⟨gb, 3, none⟩ = some (.string s))
  (first | exact ⟨blk_cell hxd 0, blk_cell hxd 1, blk_cell hxd 2, blk_cell hxd 3⟩ | exact ⟨blk_cell hx2 0, blk_cell hx2 1, blk_cell hx2 2, blk_cell hx2 3⟩ | exact ⟨blk_cell hx3 0, blk_cell hx3 1, blk_cell hx3 2, blk_cell hx3 3⟩)
  (first
    | (go_at_call 133; refine (rops_calls _).mono ?_; rintro e w2 ⟨m, g1, g2, rfl, hm, hg1, hg2, hb2⟩
       have hx2 := (hb2.block gb (Array.getElem?_eq_some_iff.1 hxd).1).trans hxd
       have hB2 := below_step hBd hb2
       have hlk := run_look m (ropsE g1 g2) 4 42 2 _ w2 hm rfl)
    | (go_at_call 174; refine (rAoperations_1.calls k p q r s y1 y2 e2 w2 (hL.below hB2) ho).mono ?_; rintro e w3 ⟨rfl, hb3⟩
       have hx3 := (hb3.block gb (Array.getElem?_eq_some_iff.1 hx2).1).trans hx2
       have HB := Z0.mk (below_step hB2 hb3)))
 all_goals go_wp2
 go_ret2
 exact ⟨rfl, HB.out⟩
theorem calc47 (k : Nat) (a1 a2 : ByteArray) (r1 : ByteArray) (r2 : Int) (w : World) (hL : LaidW w) (h : calcF (rAoperations_2.f k) k a1 a2 = some (r1, r2)) :
    Calls Tryz.prog 97 #[.int .u8 47, .string a1, .string a2] w fun e w' => e = .returned (.tuple #[.string r1, .int .i64 r2]) ∧ Below w.heap.size w w' := by
 have hu95 := Tryz.underlying95
 unfold calcF at h
 obtain ⟨⟨p, q, r, s, e1⟩, hp, h⟩ := Option.bind_eq_some_iff.mp h
 simp only at h
 by_cases c1 : e1 = 0
 rotate_left
 ·rw [if_neg c1] at h
  simp only [Option.some.injEq, Prod.mk.injEq] at h
  obtain ⟨rfl, rfl⟩ := h
  have c1b : (e1 != 0) = true := bne_iff_ne.mpr c1
  have c1c : (e1 == 0) = false := beq_eq_false_iff_ne.mpr c1
  go_enter Tryz.func97, Tryz.ntmps97
  go_wp2_with (first | ((with_reducible refine gc_ 90 rfl ?_); refine goB (w0 := w) (some 15) Tryz.func90 #[.string a1, .string a2] (Below.refl _ _) (rAnewPair.calls k a1 a2 p q r s e1 _ hL hp) ?_; intro w1 HB) | ((with_reducible refine gd_ 8 rfl ?_); refine bxE 8 #[.string (⟨#[]⟩ : ByteArray), .string (⟨#[]⟩ : ByteArray), .string (⟨#[]⟩ : ByteArray), .string (⟨#[]⟩ : ByteArray)] 95 ?_; intro gb hg wb hbox hbb; have hgl : w.heap.size ≤ gb := (by rw [hg]; exact HB.out.size); have HB2 := Z0.mk (below_step HB.out hbb); clear HB hg hbb; have HB := HB2; clear HB2; have hc0 : wb.cell? ⟨gb, 0, none⟩ = some (.string (⟨#[]⟩ : ByteArray)) := (blk_cell hbox 0).trans rfl; have hf0 := blk_frozen hbox 0; have hc1 : wb.cell? ⟨gb, 1, none⟩ = some (.string (⟨#[]⟩ : ByteArray)) := (blk_cell hbox 1).trans rfl; have hf1 := blk_frozen hbox 1; have hc2 : wb.cell? ⟨gb, 2, none⟩ = some (.string (⟨#[]⟩ : ByteArray)) := (blk_cell hbox 2).trans rfl; have hf2 := blk_frozen hbox 2; have hc3 : wb.cell? ⟨gb, 3, none⟩ = some (.string (⟨#[]⟩ : ByteArray)) := (blk_cell hbox 3).trans rfl; have hf3 := blk_frozen hbox 3))
  go_ret2
  exact ⟨rfl, below_set (below_set (below_set (below_set HB.out hgl) hgl) hgl) hgl⟩
 rw [if_pos c1] at h
 obtain ⟨⟨y1, y2, e2⟩, ho, h⟩ := Option.bind_eq_some_iff.mp h
 simp only at h
 have c1b : (e1 != 0) = false := bne_eq_false_iff_eq.mpr c1
 have c1c : (e1 == 0) = true := beq_iff_eq.mpr c1
 clear c1
 by_cases c2 : e2 = 0
 ·rw [if_pos c2] at h
  have c2b : (e2 != 0) = false := bne_eq_false_iff_eq.mpr c2
  have c2c : (e2 == 0) = true := beq_iff_eq.mpr c2
  clear c2
  have hw := h
  go_enter Tryz.func97, Tryz.ntmps97
  go_wp2_with (first | ((with_reducible refine gc_ 90 rfl ?_); refine goB (w0 := w) (some 15) Tryz.func90 #[.string a1, .string a2] (Below.refl _ _) (rAnewPair.calls k a1 a2 p q r s e1 _ hL hp) ?_; intro w1 HB) | ((with_reducible refine gd_ 8 rfl ?_); refine bxE 8 #[.string (⟨#[]⟩ : ByteArray), .string (⟨#[]⟩ : ByteArray), .string (⟨#[]⟩ : ByteArray), .string (⟨#[]⟩ : ByteArray)] 95 ?_; intro gb hg wb hbox hbb; have hgl : w.heap.size ≤ gb := (by rw [hg]; exact HB.out.size); have HB2 := Z0.mk (below_step HB.out hbb); clear HB hg hbb; have HB := HB2; clear HB2; have hc0 : wb.cell? ⟨gb, 0, none⟩ = some (.string (⟨#[]⟩ : ByteArray)) := (blk_cell hbox 0).trans rfl; have hf0 := blk_frozen hbox 0; have hc1 : wb.cell? ⟨gb, 1, none⟩ = some (.string (⟨#[]⟩ : ByteArray)) := (blk_cell hbox 1).trans rfl; have hf1 := blk_frozen hbox 1; have hc2 : wb.cell? ⟨gb, 2, none⟩ = some (.string (⟨#[]⟩ : ByteArray)) := (blk_cell hbox 2).trans rfl; have hf2 := blk_frozen hbox 2; have hc3 : wb.cell? ⟨gb, 3, none⟩ = some (.string (⟨#[]⟩ : ByteArray)) := (blk_cell hbox 3).trans rfl; have hf3 := blk_frozen hbox 3))
  obtain ⟨W, hW⟩ : ∃ W, ((((wb.setCell ⟨gb, 0, none⟩ (.string p)).setCell ⟨gb, 1, none⟩ (.string q)).setCell ⟨gb, 2, none⟩ (.string r)).setCell ⟨gb, 3, none⟩ (.string s)) = W := ⟨_, rfl⟩
  have hx : W.heap[gb]? = some (.cells #[.string p, .string q, .string r, .string s] 95 (0, 0)) := by
   rw [← hW]
   exact blk_put (cs := #[.string p, .string q, .string r, .string (⟨#[]⟩ : ByteArray)]) (blk_put (cs := #[.string p, .string q, .string (⟨#[]⟩ : ByteArray), .string (⟨#[]⟩ : ByteArray)]) (blk_put (cs := #[.string p, .string (⟨#[]⟩ : ByteArray), .string (⟨#[]⟩ : ByteArray), .string (⟨#[]⟩ : ByteArray)]) (blk_put hbox 0 _ rfl) 1 _ rfl) 2 _ rfl) 3 _ rfl
  have hBW : Below w.heap.size w W := by rw [← hW]; exact below_set (below_set (below_set (below_set HB.out hgl) hgl) hgl) hgl
  rw [hW]
  clear hW HB hbox
  have hxd : W.drew.heap[gb]? = some (.cells #[.string p, .string q, .string r, .string s] 95 (0, 0)) := hx
  have hBd : Below w.heap.size w W.drew := hBW.drew
  go_region_held3 (fun w' => w'.cell? ⟨gb, 0, none⟩ = some (.string p) ∧ w'.cell? ⟨gb, 1, none⟩ = some (.string q) ∧ w'.cell? ⟨gb, 2, none⟩ = some (.string r) ∧ w'.cell? ⟨gb, 3, none⟩ = some (.string s))
   (first | exact ⟨blk_cell hxd 0, blk_cell hxd 1, blk_cell hxd 2, blk_cell hxd 3⟩ | exact ⟨blk_cell hx2 0, blk_cell hx2 1, blk_cell hx2 2, blk_cell hx2 3⟩ | exact ⟨blk_cell hx3 0, blk_cell hx3 1, blk_cell hx3 2, blk_cell hx3 3⟩)
   (first
     | (go_at_call 133; refine (rops_calls _).mono ?_; rintro e w2 ⟨m, g1, g2, rfl, hm, hg1, hg2, hb2⟩
        have hx2 := (hb2.block gb (Array.getElem?_eq_some_iff.1 hxd).1).trans hxd
        have hB2 := below_step hBd hb2
        have hlk := run_look m (ropsE g1 g2) 4 47 3 _ w2 hm rfl)
     | (go_at_call 175; refine (rAoperations_2.calls k p q r s y1 y2 e2 w2 (hL.below hB2) ho).mono ?_; rintro e w3 ⟨rfl, hb3⟩
        have hx3 := (hb3.block gb (Array.getElem?_eq_some_iff.1 hx2).1).trans hx2
        have HB := Z0.mk (below_step hB2 hb3)))
  all_goals go_wp2_with (first | ((with_reducible refine gc_ 84 rfl ?_); refine goB (w0 := w) (some 35) Tryz.func84 #[.string y1, .string y2] HB.out (rAwhole.calls k y1 y2 r1 r2 _ (hL.below HB.out) hw) ?_; clear HB; intro w5 HB))
  go_ret2
  exact ⟨rfl, HB.out⟩
 rw [if_neg c2] at h
 simp only [Option.some.injEq, Prod.mk.injEq] at h
 obtain ⟨rfl, rfl⟩ := h
 have c2b : (e2 != 0) = true := bne_iff_ne.mpr c2
 have c2c : (e2 == 0) = false := beq_eq_false_iff_ne.mpr c2
 go_enter Tryz.func97, Tryz.ntmps97
 go_wp2_with (first | ((with_reducible refine gc_ 90 rfl ?_); refine goB (w0 := w) (some 15) Tryz.func90 #[.string a1, .string a2] (Below.refl _ _) (rAnewPair.calls k a1 a2 p q r s e1 _ hL hp) ?_; intro w1 HB) | ((with_reducible refine gd_ 8 rfl ?_); refine bxE 8 #[.string (⟨#[]⟩ : ByteArray), .string (⟨#[]⟩ : ByteArray), .string (⟨#[]⟩ : ByteArray), .string (⟨#[]⟩ : ByteArray)] 95 ?_; intro gb hg wb hbox hbb; have hgl : w.heap.size ≤ gb := (by rw [hg]; exact HB.out.size); have HB2 := Z0.mk (below_step HB.out hbb); clear HB hg hbb; have HB := HB2; clear HB2; have hc0 : wb.cell? ⟨gb, 0, none⟩ = some (.string (⟨#[]⟩ : ByteArray)) := (blk_cell hbox 0).trans rfl; have hf0 := blk_frozen hbox 0; have hc1 : wb.cell? ⟨gb, 1, none⟩ = some (.string (⟨#[]⟩ : ByteArray)) := (blk_cell hbox 1).trans rfl; have hf1 := blk_frozen hbox 1; have hc2 : wb.cell? ⟨gb, 2, none⟩ = some (.string (⟨#[]⟩ : ByteArray)) := (blk_cell hbox 2).trans rfl; have hf2 := blk_frozen hbox 2; have hc3 : wb.cell? ⟨gb, 3, none⟩ = some (.string (⟨#[]⟩ : ByteArray)) := (blk_cell hbox 3).trans rfl; have hf3 := blk_frozen hbox 3))
 obtain ⟨W, hW⟩ : ∃ W, ((((wb.setCell ⟨gb, 0, none⟩ (.string p)).setCell ⟨gb, 1, none⟩ (.string q)).setCell ⟨gb, 2, none⟩ (.string r)).setCell ⟨gb, 3, none⟩ (.string s)) = W := ⟨_, rfl⟩
 have hx : W.heap[gb]? = some (.cells #[.string p, .string q, .string r, .string s] 95 (0, 0)) := by
  rw [← hW]
  exact blk_put (cs := #[.string p, .string q, .string r, .string (⟨#[]⟩ : ByteArray)]) (blk_put (cs := #[.string p, .string q, .string (⟨#[]⟩ : ByteArray), .string (⟨#[]⟩ : ByteArray)]) (blk_put (cs := #[.string p, .string (⟨#[]⟩ : ByteArray), .string (⟨#[]⟩ : ByteArray), .string (⟨#[]⟩ : ByteArray)]) (blk_put hbox 0 _ rfl) 1 _ rfl) 2 _ rfl) 3 _ rfl
 have hBW : Below w.heap.size w W := by rw [← hW]; exact below_set (below_set (below_set (below_set HB.out hgl) hgl) hgl) hgl
 rw [hW]
 clear hW HB hbox
 have hxd : W.drew.heap[gb]? = some (.cells #[.string p, .string q, .string r, .string s] 95 (0, 0)) := hx
 have hBd : Below w.heap.size w W.drew := hBW.drew
 go_region_held3 (fun w' => w'.cell? ⟨gb, 0, none⟩ = some (.string p) ∧ w'.cell? ⟨gb, 1, none⟩ = some (.string q) ∧ w'.cell? ⟨gb, 2, none⟩ = some (.string r) ∧ w'.cell? ⟨gb, 3, none⟩ = some (.string s))
  (first | exact ⟨blk_cell hxd 0, blk_cell hxd 1, blk_cell hxd 2, blk_cell hxd 3⟩ | exact ⟨blk_cell hx2 0, blk_cell hx2 1, blk_cell hx2 2, blk_cell hx2 3⟩ | exact ⟨blk_cell hx3 0, blk_cell hx3 1, blk_cell hx3 2, blk_cell hx3 3⟩)
  (first
    | (go_at_call 133; refine (rops_calls _).mono ?_; rintro e w2 ⟨m, g1, g2, rfl, hm, hg1, hg2, hb2⟩
       have hx2 := (hb2.block gb (Array.getElem?_eq_some_iff.1 hxd).1).trans hxd
       have hB2 := below_step hBd hb2
       have hlk := run_look m (ropsE g1 g2) 4 47 3 _ w2 hm rfl)
    | (go_at_call 175; refine (rAoperations_2.calls k p q r s y1 y2 e2 w2 (hL.below hB2) ho).mono ?_; rintro e w3 ⟨rfl, hb3⟩
       have hx3 := (hb3.block gb (Array.getElem?_eq_some_iff.1 hx2).1).trans hx2
       have HB := Z0.mk (below_step hB2 hb3)))
 all_goals go_wp2
 go_ret2
 exact ⟨rfl, HB.out⟩
theorem rAcalculate.calls (k : Nat) (a0 : Int) (a1 : ByteArray) (a2 : ByteArray) (r1 : ByteArray) (r2 : Int) (w : World) (hL : LaidW w) (h : rAcalculate.f k a0 a1 a2 = some (r1, r2)) :
    Calls Tryz.prog 97 #[.int .u8 a0, .string a1, .string a2] w fun e w' => e = .returned (.tuple #[.string r1, .int .i64 r2]) ∧ Below w.heap.size w w' := by
 unfold rAcalculate.f at h
 split at h
 ·rename_i e; subst e; exact calc43 k a1 a2 r1 r2 w hL h
 split at h
 ·rename_i e; subst e; exact calc45 k a1 a2 r1 r2 w hL h
 split at h
 ·rename_i e; subst e; exact calc42 k a1 a2 r1 r2 w hL h
 split at h
 ·rename_i e; subst e; exact calc47 k a1 a2 r1 r2 w hL h
 cases h
end Go.Proofs.YthnfajboebaajaaGreatDoor
namespace Go.Proofs.YthnfajboebaajaaGreatDoor.PA
open Go.RowKit Go.Proofs.WWords Go.Proofs.WLast Go.Proofs.WMore
attribute [local go_sem] max2_int min2_int max_two min_two max_three min_three max_four min_four
set_option linter.unusedVariables false
set_option linter.unusedSimpArgs false
theorem rAAdd.calls (k : Nat) (a0 : ByteArray) (a1 : ByteArray) (r1 : ByteArray) (r2 : Int) (w : World) (hL : LaidW w) (h : rAAdd.f k a0 a1 = some (r1, r2)) :
  Calls Tryz.prog 43 #[.string a0, .string a1] w fun e w' => e = .returned (.tuple #[.string r1, .int .i64 r2]) ∧ Below w.heap.size w w' := by
 have HB := Z0.mk (Below.refl w.heap.size w)
 have H := h
 clear h
 unfold rAAdd.f at H
 obtain ⟨⟨t411, t412⟩, A3, H⟩ := bnd H
 try dsimp only at H
 simp only [Option.some.injEq, Prod.mk.injEq] at H
 obtain ⟨rfl, rfl⟩ := H
 go_enter Tryz.func43, Tryz.ntmps43
 go_wp2_with (first | ((with_reducible refine gc_ 97 rfl ?_); refine goB (some 8) Tryz.func97 #[.int .u8 43, .string a0, .string a1] bq (rAcalculate.calls k 43 a0 a1 t411 t412 _ (hL.below bq) A3.out) ?_; clear HB; intro w4 HB))
 go_ret2
 exact finE
theorem rADiv.calls (k : Nat) (a0 : ByteArray) (a1 : ByteArray) (r1 : ByteArray) (r2 : Int) (w : World) (hL : LaidW w) (h : rADiv.f k a0 a1 = some (r1, r2)) :
  Calls Tryz.prog 48 #[.string a0, .string a1] w fun e w' => e = .returned (.tuple #[.string r1, .int .i64 r2]) ∧ Below w.heap.size w w' := by
 have HB := Z0.mk (Below.refl w.heap.size w)
 have H := h
 clear h
 unfold rADiv.f at H
 obtain ⟨⟨t413, t414⟩, A3, H⟩ := bnd H
 try dsimp only at H
 simp only [Option.some.injEq, Prod.mk.injEq] at H
 obtain ⟨rfl, rfl⟩ := H
 go_enter Tryz.func48, Tryz.ntmps48
 go_wp2_with (first | ((with_reducible refine gc_ 97 rfl ?_); refine goB (some 8) Tryz.func97 #[.int .u8 47, .string a0, .string a1] bq (rAcalculate.calls k 47 a0 a1 t413 t414 _ (hL.below bq) A3.out) ?_; clear HB; intro w4 HB))
 go_ret2
 exact finE
theorem rANum.calls (k : Nat) (a0 : ByteArray) (r1 : ByteArray) (r2 : Int) (w : World) (hL : LaidW w) (h : rANum.f k a0 = some (r1, r2)) :
  Calls Tryz.prog 18 #[.string a0] w fun e w' => e = .returned (.tuple #[.string r1, .int .i64 r2]) ∧ Below w.heap.size w w' := by
 have HB := Z0.mk (Below.refl w.heap.size w)
 have H := h
 clear h
 unfold rANum.f at H
 obtain ⟨t223, A2, H⟩ := bnd H
 rcases je H with ⟨-, c3b0, c3b1, H⟩ | ⟨c3, c3b0, c3b1, H⟩
 ·obtain ⟨⟨t224, t225⟩, A4, H⟩ := bnd H
  try dsimp only at H
  simp only [Option.some.injEq, Prod.mk.injEq] at H
  obtain ⟨rfl, rfl⟩ := H
  go_enter Tryz.func18, Tryz.ntmps18
  go_wp2_with (first | ((with_reducible refine gc_ 28 rfl ?_); refine goB (some 8) Tryz.func28 #[.string a0] bq (rACheck.calls k a0 t223 _ (hL.below bq) A2.out) ?_; clear HB; intro w5 HB) | ((with_reducible refine gc_ 71 rfl ?_); refine goB (some 14) Tryz.func71 #[.string a0] bq (rAsplit.calls a0 t224 t225 _ A4.out) ?_; clear HB; intro w6 HB))
  go_ret2
  exact finE
 simp only [Option.some.injEq, Prod.mk.injEq] at H
 obtain ⟨rfl, rfl⟩ := H
 go_enter Tryz.func18, Tryz.ntmps18
 go_wp2_with (first | ((with_reducible refine gc_ 28 rfl ?_); refine goB (some 8) Tryz.func28 #[.string a0] bq (rACheck.calls k a0 t223 _ (hL.below bq) A2.out) ?_; clear HB; intro w7 HB))
 go_ret2
 exact finE
end Go.Proofs.YthnfajboebaajaaGreatDoor.PA
