import Derived.Test.YtgihllbgjpcapaaGreatDoorAG11
import Derived.Test.YtgihllbgjpcapaaGreatDoorAG10
import Derived.Test.YtgihllbgjpcapaaGreatDoorRows
import Derived.Test.YtgihllbgjpcapaaGreatDoorAG1
import Derived.ProofKit
import Derived.OpenShut
import Derived.Lay
import Derived.LaidOnce
import Derived.SevenTiedAt
import Derived.Test.YtgihllbgjpcapaaGreatDoorAW
import Derived.Deep.Strs
import Derived.ChangeSlices
import Derived.Carry
set_option maxHeartbeats 8000000
set_option maxRecDepth 100000
set_option linter.unusedVariables false
namespace Go.Proofs.YtgihllbgjpcapaaGreatDoor.PA
set_option linter.unusedVariables false
set_option linter.unusedSimpArgs false
open Go.RowKit Go.Shelf Go.Proofs.WWords Go.Proofs.WLast Go.Proofs.WMore
theorem line_ok (A : Option Addr) (n c : Nat) (s : ByteArray) (w : World) :
  Calls Tryz.prog 34 #[.string s, .slice A n c] w fun e w' => e = .returned (.agg #[.slice A n c, .string s]) ∧ Below w.heap.size w w' := by
 have HB := Z0.mk (Below.refl w.heap.size w)
 have hu := Tryz.underlying25
 go_enter Tryz.func34, Tryz.ntmps34
 go_upto_region 1 with (fail)
 refine al1 ?_
 intro W hb B0
 replace HB := fB HB hb
 obtain ⟨p0, p1, f0, f1⟩ := b2 B0
 clear hb
 go_wp2
 refine bodyPost_ret (results_cell_row rfl _ _ w.heap.size 25 #[.slice A n c, .string s] (0, 0) _ rfl (blk_put (blk_put B0.out 0 _ rfl) 1 _ rfl) hu rfl (by kernel_rfl)) rfl ?_
 exact ⟨rfl, below_set (below_set HB.out (by omega)) (by omega)⟩
section
variable {P : Program} {ops : Array Oper} {Q : Exit → Act → World → Prop} {rest : List Oper} {o1 o2 : Oper} {a : Act} {W : World}
theorem newL {N : Tmp} {t t' : TypeId} {p : Operand} {vo : Operand} (z0 z1 x y : Value)
  (K : ∀ g w', W.heap.size ≤ g → w'.heap[g]? = some (.cells #[x, y] t (0, 0)) → Below W.heap.size W w' → wpList P ops Q rest (a.put (some N) (.pointer (some ⟨g, 0, none⟩))) w')
  (hop2 : o2.op = .store t' p vo := by rfl)
  (hd : o1.dst = some N := by rfl) (hg : o1.guard = none := by rfl) (hg2 : o2.guard = none := by rfl) (hN : o2.dst = none := by rfl)
  (hr : Sem.run P (execOp a.eval o1) W = Result.ok (Next.value (Value.pointer (some ⟨W.heap.size, 0, none⟩))) (W.alloc (Obj.cells #[z0, z1] t)) := by first | (go_simp; done) | (go_simp; rfl))
  (hr2 : ∀ (g : Nat) (w1 : World), w1.cell? ⟨g, 0, none⟩ = some z0 → w1.cell? ⟨g, 1, none⟩ = some z1 → w1.frozen? ⟨g, 0, none⟩ = false → w1.frozen? ⟨g, 1, none⟩ = false →
   (execOp (a.put (some N) (.pointer (some ⟨g, 0, none⟩))).eval o2).run P w1 = .ok .skip ((w1.setCell ⟨g, 0, none⟩ x).setCell ⟨g, 1, none⟩ y) := by (intro g w1 k0 k1 k2 k3; simp only [Act.put, List.setIfInBounds_toArray, List.set_cons_zero, List.set_cons_succ]; first | (go_simp; done) | (go_simp; rfl))) : wpList P ops Q (o1 :: o2 :: rest) a W := by
  refine box_event hg hd hr ?_
  intro g hgs w1 hb hbl
  obtain ⟨k0, k1, k2, k3⟩ := b2 ⟨hb⟩
  refine wpList_plain hg2 fun K' hK => ?_
  unfold Oper.wp
  rw [hd, hr2 g w1 k0 k1 k2 k3]
  show K' ((a.put (some N) _).put o2.dst undef) _
  rw [hN]
  refine hK _ _ (K g _ (by omega) (blk_put (blk_put hb 0 x rfl) 1 y rfl) ?_)
  exact below_set (below_set hbl (by omega)) (by omega)
theorem newL2 {o3 o4 : Oper} {N M : Tmp} {t t3 t4 : TypeId} {p3 v3 p4 v4 : Operand} (z0 z1 x y x' y' : Value)
  (K : ∀ g g' w', W.heap.size ≤ g → W.heap.size ≤ g' → g ≠ g' → w'.heap[g]? = some (.cells #[x, y] t (0, 0)) → w'.heap[g']? = some (.cells #[x', y'] t (0, 0)) → Below W.heap.size W w' → wpList P ops Q rest ((a.put (some N) (.pointer (some ⟨g, 0, none⟩))).put (some M) (.pointer (some ⟨g', 0, none⟩))) w')
  (hop3 : o3.op = .store t3 p3 v3 := by rfl) (hop4 : o4.op = .store t4 p4 v4 := by rfl)
  (hd1 : o1.dst = some N := by rfl) (hg1 : o1.guard = none := by rfl) (hd2 : o2.dst = some M := by rfl) (hg2 : o2.guard = none := by rfl) (hg3 : o3.guard = none := by rfl) (hN3 : o3.dst = none := by rfl) (hg4 : o4.guard = none := by rfl) (hN4 : o4.dst = none := by rfl)
  (hr1 : Sem.run P (execOp a.eval o1) W = Result.ok (Next.value (Value.pointer (some ⟨W.heap.size, 0, none⟩))) (W.alloc (Obj.cells #[z0, z1] t)) := by first | (go_simp; done) | (go_simp; rfl))
  (hr2 : ∀ (a : Act) (W : World), Sem.run P (execOp a.eval o2) W = Result.ok (Next.value (Value.pointer (some ⟨W.heap.size, 0, none⟩))) (W.alloc (Obj.cells #[z0, z1] t)) := by (intro a W; first | (go_simp; done) | (go_simp; rfl)))
  (hr3 : ∀ (g g' : Nat) (w1 : World), w1.cell? ⟨g, 0, none⟩ = some z0 → w1.cell? ⟨g, 1, none⟩ = some z1 → w1.frozen? ⟨g, 0, none⟩ = false → w1.frozen? ⟨g, 1, none⟩ = false →
   (execOp ((a.put (some N) (.pointer (some ⟨g, 0, none⟩))).put (some M) (.pointer (some ⟨g', 0, none⟩))).eval o3).run P w1 = .ok .skip ((w1.setCell ⟨g, 0, none⟩ x).setCell ⟨g, 1, none⟩ y) := by (intro g g' w1 k0 k1 k2 k3; simp only [Act.put, List.setIfInBounds_toArray, List.set_cons_zero, List.set_cons_succ]; first | (go_simp; done) | (go_simp; rfl)))
  (hr4 : ∀ (g g' : Nat) (w1 : World), w1.cell? ⟨g', 0, none⟩ = some z0 → w1.cell? ⟨g', 1, none⟩ = some z1 → w1.frozen? ⟨g', 0, none⟩ = false → w1.frozen? ⟨g', 1, none⟩ = false →
   (execOp ((a.put (some N) (.pointer (some ⟨g, 0, none⟩))).put (some M) (.pointer (some ⟨g', 0, none⟩))).eval o4).run P w1 = .ok .skip ((w1.setCell ⟨g', 0, none⟩ x').setCell ⟨g', 1, none⟩ y') := by (intro g g' w1 k0 k1 k2 k3; simp only [Act.put, List.setIfInBounds_toArray, List.set_cons_zero, List.set_cons_succ]; first | (go_simp; done) | (go_simp; rfl))) : wpList P ops Q (o1 :: o2 :: o3 :: o4 :: rest) a W := by
  refine box_event hg1 hd1 hr1 ?_
  intro g hgs w1 hb hbl
  rw [hd1]
  refine box_event hg2 hd2 (hr2 _ _) ?_
  intro g' hgs' w2 hb2 hbl2
  rw [hd2]
  have hb1 := (hbl2.block g (Array.getElem?_eq_some_iff.1 hb).1).trans hb
  have hlt : g < w1.heap.size := (Array.getElem?_eq_some_iff.1 hb).1
  have hne : g ≠ g' := by omega
  have hsz := hbl.size
  obtain ⟨k0, k1, k2, k3⟩ := b2 ⟨hb1⟩
  refine wpList_plain hg3 fun K' hK => ?_
  unfold Oper.wp
  rw [hr3 g g' w2 k0 k1 k2 k3]
  show K' ((_ : Act).put o3.dst undef) _
  rw [hN3]
  refine hK ((a.put (some N) (.pointer (some ⟨g, 0, none⟩))).put (some M) (.pointer (some ⟨g', 0, none⟩))) _ ?_
  have hb2' := blk_far (p := ⟨g, 1, none⟩) (blk_far (p := ⟨g, 0, none⟩) hb2 (Ne.symm hne) x) (Ne.symm hne) y
  obtain ⟨k0, k1, k2, k3⟩ := b2 ⟨hb2'⟩
  refine wpList_plain hg4 fun K' hK => ?_
  unfold Oper.wp
  rw [hr4 g g' _ k0 k1 k2 k3]
  show K' ((_ : Act).put o4.dst undef) _
  rw [hN4]
  refine hK _ _ (K g g' _ (by omega) (by omega) hne (blk_far (p := ⟨g', 1, none⟩) (blk_far (p := ⟨g', 0, none⟩) (blk_put (blk_put hb1 0 x rfl) 1 y rfl) hne x') hne y') (blk_put (blk_put hb2' 0 x' rfl) 1 y' rfl) ?_)
  have hbl3 := below_step hbl hbl2
  exact below_set (below_set (below_set (below_set hbl3 (by omega)) (by omega)) (by omega)) (by omega)
end
def LinV (w : World) (n : Nat) (l : List ByteArray) (s : ByteArray) (z : Int) (e : Ending) (w' : World) : Prop := ∃ X d, e = .returned (.tuple #[.agg #[.slice X n d, .string s], .int .i64 z]) ∧ n ≤ d ∧ Kd.string.C w' X n l ∧ Below w.heap.size w w'
theorem LinR.v {w w' : World} {lo : Nat} {r : List ByteArray × ByteArray × Int} {e : Ending} {l : List ByteArray} {s : ByteArray} {z : Int} {n : Nat} (h : LinR w lo r e w') (hr : r = (l, s, z)) (hn : l.length = n) : LinV w n l s z e w' := by
  subst hr hn
  obtain ⟨X, d, h1, h2, h3, -, h5⟩ := h
  exact ⟨X, d, h1, h2, h3, h5⟩
def IntV (w : World) (n : Nat) (l : List ByteArray) (s t : ByteArray) (z : Int) (e : Ending) (w' : World) : Prop := ∃ X d, e = .returned (.tuple #[.slice X n d, .string s, .string t, .int .i64 z]) ∧ n ≤ d ∧ Kd.string.C w' X n l ∧ Below w.heap.size w w'
theorem IntR.v {w w' : World} {r : List ByteArray × ByteArray × ByteArray × Int} {e : Ending} {l : List ByteArray} {s t : ByteArray} {z : Int} {n : Nat} (h : IntR w r e w') (hr : r = (l, s, t, z)) (hn : l.length = n) : IntV w n l s t z e w' := by
  subst hr hn
  exact h
theorem lawake_ok (w : World) (hL : LaidW w) :
  Calls Tryz.prog 9 #[] w fun e w' => e = .returned (.bool true) ∧ Below w.heap.size w w' := by
 have HB := Z0.mk (Below.refl w.heap.size w)
 have hu := Tryz.underlying25
 have ht := Tryz.underlying22
 have hLine : HasF 34 := ⟨_, Tryz.func34, by kernel_rfl, rfl⟩
 go_enter Tryz.func9, Tryz.ntmps9
 go_upto_region 2 with (first
  | ((with_reducible refine gd_ 17 rfl ?_); refine litS tl ?_; intro A1 c1 w1 hb hc1 C1; replace C1 := Z0.mk C1; replace HB := fB HB hb; clear hb)
  | ((with_reducible refine gd_ 19 rfl ?_); refine litS tm ?_; intro A2 c2 w2 hb hc2 C2; replace C1 := Z0.mk (Kd.C_below C1.out hb); replace C2 := Z0.mk C2; replace HB := fB HB hb; clear hb)
  | ((with_reducible refine gd_ 18 rfl ?_); refine gL 18 Tryz.func34 (line_ok A1 2 c1 ⟨#[52]⟩ _) ?_; rintro _ w3 ⟨rfl, hb⟩; refine ⟨_, rfl, ?_⟩; replace C1 := Z0.mk (Kd.C_below C1.out hb); replace HB := fB HB hb; clear hb)
  | ((with_reducible refine gd_ 20 rfl ?_); refine gL 20 Tryz.func34 (line_ok A2 2 c2 ⟨#[49, 47, 51]⟩ _) ?_; rintro _ w4 ⟨rfl, hb⟩; refine ⟨_, rfl, ?_⟩; replace C1 := Z0.mk (Kd.C_below C1.out hb); replace C2 := Z0.mk (Kd.C_below C2.out hb); replace HB := fB HB hb; clear hb)
  | ((with_reducible refine gd_ 1 rfl ?_); refine newL2 (.slice none 0 0) (.string ⟨#[]⟩) (.slice A1 2 c1) (.string ⟨#[52]⟩) (.slice A2 2 c2) (.string ⟨#[49, 47, 51]⟩) ?_; intro g1 g2 w5 hg1 hg2 hne B1 B2 hb; replace B1 := Z0.mk B1; replace B2 := Z0.mk B2; replace C1 := Z0.mk (Kd.C_below C1.out hb); replace C2 := Z0.mk (Kd.C_below C2.out hb); replace HB := fB HB hb; clear hb))
 have hd2 : 2 ≤ c1 := hc1
 have hd3 : 2 ≤ c2 := hc2
 have ol : ∀ s ∈ tl, Okt s := fun s hs => Okt.of (by revert s; decide)
 have om : ∀ s ∈ tm, Okt s := fun s hs => Okt.of (by revert s; decide)
 have ok : ∀ s : ByteArray, s.size ≤ 10 → Okt s := fun s h => Okt.of (by omega)
 have hne' := Z0.mk hne
 replace hg1 := Z0.mk hg1
 replace hg2 := Z0.mk hg2
 clear hc1 hc2
 obtain ⟨p0, p1, -, -⟩ := b2 B1
 obtain ⟨q0, q1, -, -⟩ := b2 B2
 go_upto_region 3 with (first
  | ((with_reducible refine gc_ 21 rfl ?_); refine gL 24 Tryz.func21 ((Add_ok A1 A2 2 c1 2 c2 tl tm ⟨#[52]⟩ ⟨#[49, 47, 51]⟩ _ (hL.below HB.out) C1 C2 rfl rfl (by decide) (by decide) ol om (ok _ (by decide)) (ok _ (by decide))).mono fun e w' h => h.v awAdd rfl) ?_; rintro _ w6 ⟨X3, d3, rfl, hd3, C3, hb⟩; refine ⟨_, rfl, ?_⟩; replace C3 := Z0.mk C3; replace B1 := fk B1 hb; replace B2 := fk B2 hb; replace C1 := Z0.mk (Kd.C_below C1.out hb); replace C2 := Z0.mk (Kd.C_below C2.out hb); replace HB := fB HB hb; clear hb p0 p1 q0 q1)
  | ((with_reducible refine gd_ 3 rfl ?_); refine newL (.slice none 0 0) (.string ⟨#[]⟩) (.slice X3 2 d3) (.string ⟨#[49, 51, 47, 51]⟩) ?_; intro g3 w7 hg3 B3 hb; replace B3 := Z0.mk B3; replace B1 := fk B1 hb; replace B2 := fk B2 hb; replace C1 := Z0.mk (Kd.C_below C1.out hb); replace C2 := Z0.mk (Kd.C_below C2.out hb); replace C3 := Z0.mk (Kd.C_below C3.out hb); replace HB := fB HB hb; clear hb hg3))
 obtain ⟨p0, p1, -, -⟩ := b2 B1
 have oe : ∀ s ∈ ([⟨#[50]⟩, ⟨#[49, 47, 51]⟩] : List ByteArray), Okt s := fun s hs => Okt.of (by revert s; decide)
 go_upto_region 4 with (first
  | ((with_reducible refine gd_ 29 rfl ?_); refine litS [⟨#[50]⟩, ⟨#[49, 47, 51]⟩] ?_; intro A4 c4 w8 hb hc4 C4; replace C4 := Z0.mk C4; replace B1 := fk B1 hb; replace B2 := fk B2 hb; replace B3 := fk B3 hb; replace C1 := Z0.mk (Kd.C_below C1.out hb); replace C2 := Z0.mk (Kd.C_below C2.out hb); replace C3 := Z0.mk (Kd.C_below C3.out hb); replace HB := fB HB hb; clear hb p0 p1 hc4)
  | ((with_reducible refine gc_ 19 rfl ?_); refine gL 30 Tryz.func19 (Eval_ok A1 A4 2 c1 2 c4 tl [⟨#[50]⟩, ⟨#[49, 47, 51]⟩] ⟨#[52]⟩ _ (hL.below HB.out) C1 C4 rfl rfl (by decide) (by decide) ol oe (ok _ (by decide))) ?_; rw [awEval]; rintro _ w9 ⟨rfl, hb⟩; refine ⟨_, rfl, ?_⟩; clear C4; replace B1 := fk B1 hb; replace B2 := fk B2 hb; replace B3 := fk B3 hb; replace C1 := Z0.mk (Kd.C_below C1.out hb); replace C2 := Z0.mk (Kd.C_below C2.out hb); replace C3 := Z0.mk (Kd.C_below C3.out hb); replace HB := fB HB hb; clear hb))
 obtain ⟨p0, p1, -, -⟩ := b2 B1
 obtain ⟨q0, q1, -, -⟩ := b2 B2
 go_upto_region 5 with (first
  | ((with_reducible refine gc_ 10 rfl ?_); refine gL 36 Tryz.func10 ((Substitute_ok A1 A2 2 c1 2 c2 1 tl tm ⟨#[52]⟩ ⟨#[49, 47, 51]⟩ _ (hL.below HB.out) C1 C2 rfl rfl (by decide) (by decide) ol om (ok _ (by decide)) (ok _ (by decide))).mono fun e w' h => h.v awSub rfl) ?_; rintro _ w10 ⟨X7, d7, rfl, hd7, C7, hb⟩; refine ⟨_, rfl, ?_⟩; replace C7 := Z0.mk C7; replace B1 := fk B1 hb; replace B2 := fk B2 hb; replace B3 := fk B3 hb; replace C1 := Z0.mk (Kd.C_below C1.out hb); replace C2 := Z0.mk (Kd.C_below C2.out hb); replace C3 := Z0.mk (Kd.C_below C3.out hb); replace HB := fB HB hb; clear hb p0 p1 q0 q1)
  | ((with_reducible refine gd_ 7 rfl ?_); refine newL (.slice none 0 0) (.string ⟨#[]⟩) (.slice X7 2 d7) (.string ⟨#[51]⟩) ?_; intro g7 w11 hg7 B7 hb; replace B7 := Z0.mk B7; replace B1 := fk B1 hb; replace B2 := fk B2 hb; replace B3 := fk B3 hb; replace C1 := Z0.mk (Kd.C_below C1.out hb); replace C2 := Z0.mk (Kd.C_below C2.out hb); replace C3 := Z0.mk (Kd.C_below C3.out hb); replace C7 := Z0.mk (Kd.C_below C7.out hb); replace HB := fB HB hb; clear hb hg7))
 obtain ⟨p0, p1, -, -⟩ := b2 B1
 go_upto_region 6 with ((with_reducible refine gc_ 23 rfl ?_); refine gL 41 Tryz.func23 ((Integral_ok A1 2 c1 tl ⟨#[52]⟩ _ (hL.below HB.out) C1 rfl (by decide) hd2 ol (ok _ (by decide))).mono fun e w' h => h.v awInt rfl) ?_; rintro _ w12 ⟨X9, d9, rfl, hd9, C9, hb⟩; refine ⟨_, rfl, ?_⟩; replace C9 := Z0.mk C9; replace B1 := fk B1 hb; replace B2 := fk B2 hb; replace B3 := fk B3 hb; replace B7 := fk B7 hb; replace C1 := Z0.mk (Kd.C_below C1.out hb); replace C2 := Z0.mk (Kd.C_below C2.out hb); replace C3 := Z0.mk (Kd.C_below C3.out hb); replace C7 := Z0.mk (Kd.C_below C7.out hb); replace HB := fB HB hb; clear hb p0 p1)
 obtain ⟨p0, p1, -, -⟩ := b2 B1
 go_upto_region 7 with (first
  | ((with_reducible refine gd_ 48 rfl ?_); refine litR (Kd.int .i64) [1, 0] [.int .i64 1, .int .i64 0] (Kd.reps_scalar [1, 0]) ?_; intro v5 w13 hb HO; obtain ⟨A5, c5, rfl, hc5, C5⟩ := Kd.R_reads HO.out; replace C5 := Z0.mk C5; clear HO; replace B1 := fk B1 hb; replace B2 := fk B2 hb; replace B3 := fk B3 hb; replace B7 := fk B7 hb; replace C1 := Z0.mk (Kd.C_below C1.out hb); replace C2 := Z0.mk (Kd.C_below C2.out hb); replace C3 := Z0.mk (Kd.C_below C3.out hb); replace C7 := Z0.mk (Kd.C_below C7.out hb); replace C9 := Z0.mk (Kd.C_below C9.out hb); replace HB := fB HB hb; clear hb p0 p1 hc5)
  | ((with_reducible refine gc_ 13 rfl ?_); refine gL 49 Tryz.func13 ((Rename_ok A1 A5 2 c1 2 c5 tl ⟨#[52]⟩ [1, 0] 2 _ (hL.below HB.out) C1 C5 rfl rfl (by decide) (by decide) ol (ok _ (by decide))).mono fun e w' h => h.v awRen1 rfl) ?_; rintro _ w14 ⟨X13, d13, rfl, hd13, C13, hb⟩; refine ⟨_, rfl, ?_⟩; replace C13 := Z0.mk C13; clear C5; replace B1 := fk B1 hb; replace B2 := fk B2 hb; replace B3 := fk B3 hb; replace B7 := fk B7 hb; replace C1 := Z0.mk (Kd.C_below C1.out hb); replace C2 := Z0.mk (Kd.C_below C2.out hb); replace C3 := Z0.mk (Kd.C_below C3.out hb); replace C7 := Z0.mk (Kd.C_below C7.out hb); replace C9 := Z0.mk (Kd.C_below C9.out hb); replace HB := fB HB hb; clear hb)
  | ((with_reducible refine gd_ 13 rfl ?_); refine newL (.slice none 0 0) (.string ⟨#[]⟩) (.slice X13 2 d13) (.string ⟨#[52]⟩) ?_; intro g13 w15 hg13 B13 hb; replace B13 := Z0.mk B13; replace B1 := fk B1 hb; replace B2 := fk B2 hb; replace B3 := fk B3 hb; replace B7 := fk B7 hb; replace C1 := Z0.mk (Kd.C_below C1.out hb); replace C2 := Z0.mk (Kd.C_below C2.out hb); replace C3 := Z0.mk (Kd.C_below C3.out hb); replace C7 := Z0.mk (Kd.C_below C7.out hb); replace C9 := Z0.mk (Kd.C_below C9.out hb); replace C13 := Z0.mk (Kd.C_below C13.out hb); replace HB := fB HB hb; clear hb hg13))
 obtain ⟨p0, p1, -, -⟩ := b2 B1
 go_upto_region 8 with (first
  | ((with_reducible refine gd_ 54 rfl ?_); refine litR (Kd.int .i64) [0, 0] [.int .i64 0, .int .i64 0] (Kd.reps_scalar [0, 0]) ?_; intro v6 w16 hb HO; obtain ⟨A6, c6, rfl, hc6, C6⟩ := Kd.R_reads HO.out; replace C6 := Z0.mk C6; clear HO; replace B1 := fk B1 hb; replace B2 := fk B2 hb; replace B3 := fk B3 hb; replace B7 := fk B7 hb; replace B13 := fk B13 hb; replace C1 := Z0.mk (Kd.C_below C1.out hb); replace C2 := Z0.mk (Kd.C_below C2.out hb); replace C3 := Z0.mk (Kd.C_below C3.out hb); replace C7 := Z0.mk (Kd.C_below C7.out hb); replace C9 := Z0.mk (Kd.C_below C9.out hb); replace C13 := Z0.mk (Kd.C_below C13.out hb); replace HB := fB HB hb; clear hb p0 p1 hc6)
  | ((with_reducible refine gc_ 13 rfl ?_); refine gL 55 Tryz.func13 ((Rename_ok A1 A6 2 c1 2 c6 tl ⟨#[52]⟩ [0, 0] 1 _ (hL.below HB.out) C1 C6 rfl rfl (by decide) (by decide) ol (ok _ (by decide))).mono fun e w' h => h.v awRen2 rfl) ?_; rintro _ w17 ⟨X15, d15, rfl, hd15, C15, hb⟩; refine ⟨_, rfl, ?_⟩; replace C15 := Z0.mk C15; clear C6; replace B1 := fk B1 hb; replace B2 := fk B2 hb; replace B3 := fk B3 hb; replace B7 := fk B7 hb; replace B13 := fk B13 hb; replace C1 := Z0.mk (Kd.C_below C1.out hb); replace C2 := Z0.mk (Kd.C_below C2.out hb); replace C3 := Z0.mk (Kd.C_below C3.out hb); replace C7 := Z0.mk (Kd.C_below C7.out hb); replace C9 := Z0.mk (Kd.C_below C9.out hb); replace C13 := Z0.mk (Kd.C_below C13.out hb); replace HB := fB HB hb; clear hb)
  | ((with_reducible refine gd_ 15 rfl ?_); refine newL (.slice none 0 0) (.string ⟨#[]⟩) (.slice X15 1 d15) (.string ⟨#[52]⟩) ?_; intro g15 w18 hg15 B15 hb; replace B15 := Z0.mk B15; replace B1 := fk B1 hb; replace B2 := fk B2 hb; replace B3 := fk B3 hb; replace B7 := fk B7 hb; replace B13 := fk B13 hb; replace C1 := Z0.mk (Kd.C_below C1.out hb); replace C2 := Z0.mk (Kd.C_below C2.out hb); replace C3 := Z0.mk (Kd.C_below C3.out hb); replace C7 := Z0.mk (Kd.C_below C7.out hb); replace C9 := Z0.mk (Kd.C_below C9.out hb); replace C13 := Z0.mk (Kd.C_below C13.out hb); replace C15 := Z0.mk (Kd.C_below C15.out hb); replace HB := fB HB hb; clear hb hg15))
 obtain ⟨NN, hNN⟩ : ∃ NN : World → Prop, Z0 (NN = fun u => Below w.heap.size w u ∧ u.heap[g3]? = some (.cells #[.slice X3 2 d3, .string ⟨#[49, 51, 47, 51]⟩] 25 (0, 0)) ∧ u.heap[g7]? = some (.cells #[.slice X7 2 d7, .string ⟨#[51]⟩] 25 (0, 0)) ∧ u.heap[g13]? = some (.cells #[.slice X13 2 d13, .string ⟨#[52]⟩] 25 (0, 0)) ∧ u.heap[g15]? = some (.cells #[.slice X15 1 d15, .string ⟨#[52]⟩] 25 (0, 0)) ∧ Kd.string.C u X3 2 [⟨#[51, 47, 50]⟩, ⟨#[45, 51]⟩] ∧ Kd.string.C u X7 2 [⟨#[45, 53, 47, 50]⟩, ⟨#[48]⟩] ∧ Kd.string.C u X9 2 [⟨#[49]⟩, ⟨#[45, 54]⟩] ∧ Kd.string.C u X13 2 [⟨#[45, 51]⟩, ⟨#[49, 47, 50]⟩] ∧ Kd.string.C u X15 1 [⟨#[45, 53, 47, 50]⟩]) := ⟨_, ⟨rfl⟩⟩
 have hN0 : NN w18 := by rw [hNN.out]; exact ⟨HB.out, B3.out, B7.out, B13.out, B15.out, C3.out, C7.out, C9.out, C13.out, C15.out⟩
 have hNon : ∀ u u', NN u → Below u.heap.size u u' → NN u' := fun u u' h hb => by
  rw [hNN.out] at h ⊢
  obtain ⟨h1, h2, h3, h4, h5, h6, h7, h8, h9, h10⟩ := h
  exact ⟨below_step h1 hb, blk_below h2 hb, blk_below h3 hb, blk_below h4 hb, blk_below h5 hb, Kd.C_below h6 hb, Kd.C_below h7 hb, Kd.C_below h8 hb, Kd.C_below h9 hb, Kd.C_below h10 hb⟩
 clear B1 B2 B3 B7 B13 B15 C1 C2 C3 C7 C9 C13 C15 HB
 obtain ⟨S8_, hS8_⟩ : ∃ S_ : World → Prop, Z0 (S_ = fun u => u.cell? ⟨g3, 0, none⟩ = some (.slice X3 2 d3) ∧ u.cell? ⟨g3, 1, none⟩ = some (.string ⟨#[49, 51, 47, 51]⟩) ∧ u.cell? ⟨g7, 0, none⟩ = some (.slice X7 2 d7) ∧ u.cell? ⟨g7, 1, none⟩ = some (.string ⟨#[51]⟩)) := ⟨_, ⟨rfl⟩⟩
 have hNS : ∀ u, NN u → S8_ u := fun u h => by
  rw [hNN.out] at h
  obtain ⟨h1, h2, h3, h4, h5, h6, h7, h8, h9, h10⟩ := h
  rw [hS8_.out]
  exact ⟨(b2 ⟨h2⟩).1, (b2 ⟨h2⟩).2.1, (b2 ⟨h3⟩).1, (b2 ⟨h3⟩).2.1⟩
 have hN0' := hNon _ _ hN0 (Below.refl _ _).drew
 refine start_ (n := 30) (S := S8_) (ds := []) _ (by kernel_rfl) rfl rfl (hNS _ hN0') (fun _ => ?_)
 replace hN0 := hN0'
 clear hN0'
 generalize w18.drew = V0 at *
 refine tp 0 58 ?_
 refine tp 1 59 ?_
 refine tp 2 60 ?_
 refine tp 3 61 ?_
 refine tp 4 62 ?_
 refine tp 5 63 ?_
 refine tp 6 64 ?_
 refine tp 7 65 ?_
 refine tp 8 66 ?_
 refine tp 9 67 ?_
 refine tp 10 68 ?_
 refine tp 11 69 ?_
 refine tp 12 70 ?_
 refine tk 13 71 (v := .agg #[.slice X3 2 d3, .string ⟨#[49, 51, 47, 51]⟩]) (hNS _ hN0) ?_ (hy := by refine Or.inl ⟨by rfl, ?_⟩; intro w' hs; rw [hS8_.out] at hs; obtain ⟨h0, h1, h2, h3⟩ := hs; go_simp; try with_reducible rfl)
 refine ev1 14 72 (v := .slice (some ⟨V0.heap.size, 0, none⟩) 2 2) (w1 := V0.alloc (.cells #[.string ⟨#[51, 47, 50]⟩, .string ⟨#[45, 51]⟩] 23)) ?hr14 ?_
 case hr14 => go_simp; try rfl
 have hb := below_alloc (Below.refl V0.heap.size V0) (.cells #[.string ⟨#[51, 47, 50]⟩, .string ⟨#[45, 51]⟩] 23)
 have CC := (litC V0 23 [⟨#[51, 47, 50]⟩, ⟨#[45, 51]⟩]).out
 replace hN0 := hNon _ _ hN0 hb
 refine ⟨hNS _ hN0, ?_⟩
 clear hb
 simp only [Act.put, List.setIfInBounds_toArray, List.set_cons_zero, List.set_cons_succ]
 have CC : Kd.string.C (V0.alloc (.cells #[.string ⟨#[51, 47, 50]⟩, .string ⟨#[45, 51]⟩] 23)) (some ⟨V0.heap.size, 0, none⟩) 2 [⟨#[51, 47, 50]⟩, ⟨#[45, 51]⟩] := CC
 generalize hgz : V0.heap.size = gz14__ at *
 clear hgz
 generalize V0.alloc (.cells #[.string ⟨#[51, 47, 50]⟩, .string ⟨#[45, 51]⟩] 23) = Va14__ at *
 refine cl 15 73 hLine (line_ok (some ⟨gz14__, 0, none⟩) 2 2 ⟨#[49, 51, 47, 51]⟩ Va14__) ?_ (hd := by simp)
 rintro _ W__15 ⟨rfl, hb⟩
 replace hN0 := hNon _ _ hN0 hb
 replace CC := Kd.C_below CC hb
 refine ⟨_, rfl, hNS _ hN0, _, (by (simp only [Act.put, List.setIfInBounds_toArray, List.set_cons_zero, List.set_cons_succ]); rfl), ?_⟩
 clear hb
 refine cl 16 74 ⟨_, Tryz.func12, by kernel_rfl, rfl⟩ (Same_ok X3 (some ⟨gz14__, 0, none⟩) 2 2 d3 2 [⟨#[51, 47, 50]⟩, ⟨#[45, 51]⟩] ⟨#[49, 51, 47, 51]⟩ W__15 (by rw [hNN.out] at hN0; exact ⟨hN0.2.2.2.2.2.1⟩) ⟨CC⟩ rfl rfl (by decide)) ?_ (hd := by simp)
 rintro _ W__16 ⟨rfl, hb⟩
 replace hN0 := hNon _ _ hN0 hb
 refine ⟨_, rfl, hNS _ hN0, _, (by (simp only [Act.put, List.setIfInBounds_toArray, List.set_cons_zero, List.set_cons_succ]); rfl), ?_⟩
 clear hb
 refine tp 17 75 ?_
 refine tp 18 76 ?_
 refine tp 19 77 ?_
 refine tp 20 78 ?_
 refine tp 21 79 ?_
 refine tp 22 80 ?_
 refine tp 23 81 ?_
 refine tk 24 82 (v := .agg #[.slice X7 2 d7, .string ⟨#[51]⟩]) (hNS _ hN0) ?_ (hy := by refine Or.inl ⟨by rfl, ?_⟩; intro w' hs; rw [hS8_.out] at hs; obtain ⟨h0, h1, h2, h3⟩ := hs; go_simp; try with_reducible rfl)
 refine ev1 25 83 (v := .slice (some ⟨W__16.heap.size, 0, none⟩) 2 2) (w1 := W__16.alloc (.cells #[.string ⟨#[45, 53, 47, 50]⟩, .string ⟨#[48]⟩] 23)) ?hr25 ?_
 case hr25 => go_simp; try rfl
 have hb := below_alloc (Below.refl W__16.heap.size W__16) (.cells #[.string ⟨#[45, 53, 47, 50]⟩, .string ⟨#[48]⟩] 23)
 have CC := (litC W__16 23 [⟨#[45, 53, 47, 50]⟩, ⟨#[48]⟩]).out
 replace hN0 := hNon _ _ hN0 hb
 refine ⟨hNS _ hN0, ?_⟩
 clear hb
 simp only [Act.put, List.setIfInBounds_toArray, List.set_cons_zero, List.set_cons_succ]
 have CC : Kd.string.C (W__16.alloc (.cells #[.string ⟨#[45, 53, 47, 50]⟩, .string ⟨#[48]⟩] 23)) (some ⟨W__16.heap.size, 0, none⟩) 2 [⟨#[45, 53, 47, 50]⟩, ⟨#[48]⟩] := CC
 generalize hgz : W__16.heap.size = gz25__ at *
 clear hgz
 generalize W__16.alloc (.cells #[.string ⟨#[45, 53, 47, 50]⟩, .string ⟨#[48]⟩] 23) = Wa25__ at *
 refine cl 26 84 hLine (line_ok (some ⟨gz25__, 0, none⟩) 2 2 ⟨#[51]⟩ Wa25__) ?_ (hd := by simp)
 rintro _ W__26 ⟨rfl, hb⟩
 replace hN0 := hNon _ _ hN0 hb
 replace CC := Kd.C_below CC hb
 refine ⟨_, rfl, hNS _ hN0, _, (by (simp only [Act.put, List.setIfInBounds_toArray, List.set_cons_zero, List.set_cons_succ]); rfl), ?_⟩
 clear hb
 refine cl 27 85 ⟨_, Tryz.func12, by kernel_rfl, rfl⟩ (Same_ok X7 (some ⟨gz25__, 0, none⟩) 2 2 d7 2 [⟨#[45, 53, 47, 50]⟩, ⟨#[48]⟩] ⟨#[51]⟩ W__26 (by rw [hNN.out] at hN0; exact ⟨hN0.2.2.2.2.2.2.1⟩) ⟨CC⟩ rfl rfl (by decide)) ?_ (hd := by simp)
 rintro _ W__27 ⟨rfl, hb⟩
 replace hN0 := hNon _ _ hN0 hb
 refine ⟨_, rfl, hNS _ hN0, _, (by (simp only [Act.put, List.setIfInBounds_toArray, List.set_cons_zero, List.set_cons_succ]); rfl), ?_⟩
 clear hb
 refine tp 28 86 ?_
 refine tp 29 87 ?_
 refine done_ (by kernel_rfl) ?_
 clear hNS
 go_upto_region 10 with (fail)
 obtain ⟨S1_, hS1_⟩ : ∃ S_ : World → Prop, Z0 (S_ = fun u => u.cell? ⟨g13, 0, none⟩ = some (.slice X13 2 d13) ∧ u.cell? ⟨g13, 1, none⟩ = some (.string ⟨#[52]⟩) ∧ u.cell? ⟨g15, 0, none⟩ = some (.slice X15 1 d15) ∧ u.cell? ⟨g15, 1, none⟩ = some (.string ⟨#[52]⟩)) := ⟨_, ⟨rfl⟩⟩
 have hNS : ∀ u, NN u → S1_ u := fun u h => by
  rw [hNN.out] at h
  obtain ⟨h1, h2, h3, h4, h5, h6, h7, h8, h9, h10⟩ := h
  rw [hS1_.out]
  exact ⟨(b2 ⟨h4⟩).1, (b2 ⟨h4⟩).2.1, (b2 ⟨h5⟩).1, (b2 ⟨h5⟩).2.1⟩
 have hN0' := hNon _ _ hN0 (Below.refl _ _).drew
 refine start_ (n := 24) (S := S1_) (ds := []) _ (by kernel_rfl) rfl rfl (hNS _ hN0') (fun _ => ?_)
 replace hN0 := hN0'
 clear hN0'
 generalize W__27.drew = U0 at *
 refine tp 0 88 ?_
 refine ev1 1 89 (v := .slice (some ⟨U0.heap.size, 0, none⟩) 2 2) (w1 := U0.alloc (.cells #[.string ⟨#[49]⟩, .string ⟨#[45, 54]⟩] 51)) ?hr1 ?_
 case hr1 => go_simp; try rfl
 have hb := below_alloc (Below.refl U0.heap.size U0) (.cells #[.string ⟨#[49]⟩, .string ⟨#[45, 54]⟩] 51)
 have CC := (litC U0 51 [⟨#[49]⟩, ⟨#[45, 54]⟩]).out
 replace hN0 := hNon _ _ hN0 hb
 refine ⟨hNS _ hN0, ?_⟩
 clear hb
 simp only [Act.put, List.setIfInBounds_toArray, List.set_cons_zero, List.set_cons_succ]
 have CC : Kd.string.C (U0.alloc (.cells #[.string ⟨#[49]⟩, .string ⟨#[45, 54]⟩] 51)) (some ⟨U0.heap.size, 0, none⟩) 2 [⟨#[49]⟩, ⟨#[45, 54]⟩] := CC
 generalize hgz : U0.heap.size = gz1__ at *
 clear hgz
 generalize U0.alloc (.cells #[.string ⟨#[49]⟩, .string ⟨#[45, 54]⟩] 51) = Ua1__ at *
 refine cl 2 90 ⟨_, Tryz.func29, by kernel_rfl, rfl⟩ (SameInts_ok X9 (some ⟨gz1__, 0, none⟩) 2 2 d9 2 [⟨#[49]⟩, ⟨#[45, 54]⟩] Ua1__ (by rw [hNN.out] at hN0; exact ⟨hN0.2.2.2.2.2.2.2.1⟩) ⟨CC⟩ rfl rfl (by decide)) ?_ (hd := by simp)
 rintro _ W__2 ⟨rfl, hb⟩
 replace hN0 := hNon _ _ hN0 hb
 refine ⟨_, rfl, hNS _ hN0, _, (by (simp only [Act.put, List.setIfInBounds_toArray, List.set_cons_zero, List.set_cons_succ]); rfl), ?_⟩
 clear hb
 refine tp 3 91 ?_
 refine tp 4 92 ?_
 refine tp 5 93 ?_
 refine tp 6 94 ?_
 refine tp 7 95 ?_
 refine tp 8 96 ?_
 refine tp 9 97 ?_
 refine tp 10 98 ?_
 refine tp 11 99 ?_
 refine tk 12 100 (v := .agg #[.slice X13 2 d13, .string ⟨#[52]⟩]) (hNS _ hN0) ?_ (hy := by refine Or.inl ⟨by rfl, ?_⟩; intro w' hs; rw [hS1_.out] at hs; obtain ⟨h0, h1, h2, h3⟩ := hs; go_simp; try with_reducible rfl)
 refine ev1 13 101 (v := .slice (some ⟨W__2.heap.size, 0, none⟩) 2 2) (w1 := W__2.alloc (.cells #[.string ⟨#[45, 51]⟩, .string ⟨#[49, 47, 50]⟩] 23)) ?hr13 ?_
 case hr13 => go_simp; try rfl
 have hb := below_alloc (Below.refl W__2.heap.size W__2) (.cells #[.string ⟨#[45, 51]⟩, .string ⟨#[49, 47, 50]⟩] 23)
 have CC := (litC W__2 23 [⟨#[45, 51]⟩, ⟨#[49, 47, 50]⟩]).out
 replace hN0 := hNon _ _ hN0 hb
 refine ⟨hNS _ hN0, ?_⟩
 clear hb
 simp only [Act.put, List.setIfInBounds_toArray, List.set_cons_zero, List.set_cons_succ]
 have CC : Kd.string.C (W__2.alloc (.cells #[.string ⟨#[45, 51]⟩, .string ⟨#[49, 47, 50]⟩] 23)) (some ⟨W__2.heap.size, 0, none⟩) 2 [⟨#[45, 51]⟩, ⟨#[49, 47, 50]⟩] := CC
 generalize hgz : W__2.heap.size = gz13__ at *
 clear hgz
 generalize W__2.alloc (.cells #[.string ⟨#[45, 51]⟩, .string ⟨#[49, 47, 50]⟩] 23) = Wa13__ at *
 refine cl 14 102 hLine (line_ok (some ⟨gz13__, 0, none⟩) 2 2 ⟨#[52]⟩ Wa13__) ?_ (hd := by simp)
 rintro _ W__14 ⟨rfl, hb⟩
 replace hN0 := hNon _ _ hN0 hb
 replace CC := Kd.C_below CC hb
 refine ⟨_, rfl, hNS _ hN0, _, (by (simp only [Act.put, List.setIfInBounds_toArray, List.set_cons_zero, List.set_cons_succ]); rfl), ?_⟩
 clear hb
 refine cl 15 103 ⟨_, Tryz.func12, by kernel_rfl, rfl⟩ (Same_ok X13 (some ⟨gz13__, 0, none⟩) 2 2 d13 2 [⟨#[45, 51]⟩, ⟨#[49, 47, 50]⟩] ⟨#[52]⟩ W__14 (by rw [hNN.out] at hN0; exact ⟨hN0.2.2.2.2.2.2.2.2.1⟩) ⟨CC⟩ rfl rfl (by decide)) ?_ (hd := by simp)
 rintro _ W__15 ⟨rfl, hb⟩
 replace hN0 := hNon _ _ hN0 hb
 refine ⟨_, rfl, hNS _ hN0, _, (by (simp only [Act.put, List.setIfInBounds_toArray, List.set_cons_zero, List.set_cons_succ]); rfl), ?_⟩
 clear hb
 refine tp 16 104 ?_
 refine tp 17 105 ?_
 refine tk 18 106 (v := .agg #[.slice X15 1 d15, .string ⟨#[52]⟩]) (hNS _ hN0) ?_ (hy := by refine Or.inl ⟨by rfl, ?_⟩; intro w' hs; rw [hS1_.out] at hs; obtain ⟨h0, h1, h2, h3⟩ := hs; go_simp; try with_reducible rfl)
 refine ev1 19 107 (v := .slice (some ⟨W__15.heap.size, 0, none⟩) 1 1) (w1 := W__15.alloc (.cells #[.string ⟨#[45, 53, 47, 50]⟩] 23)) ?hr19 ?_
 case hr19 => go_simp; try rfl
 have hb := below_alloc (Below.refl W__15.heap.size W__15) (.cells #[.string ⟨#[45, 53, 47, 50]⟩] 23)
 have CC := (litC W__15 23 [⟨#[45, 53, 47, 50]⟩]).out
 replace hN0 := hNon _ _ hN0 hb
 refine ⟨hNS _ hN0, ?_⟩
 clear hb
 simp only [Act.put, List.setIfInBounds_toArray, List.set_cons_zero, List.set_cons_succ]
 have CC : Kd.string.C (W__15.alloc (.cells #[.string ⟨#[45, 53, 47, 50]⟩] 23)) (some ⟨W__15.heap.size, 0, none⟩) 1 [⟨#[45, 53, 47, 50]⟩] := CC
 generalize hgz : W__15.heap.size = gz19__ at *
 clear hgz
 generalize W__15.alloc (.cells #[.string ⟨#[45, 53, 47, 50]⟩] 23) = Wa19__ at *
 refine cl 20 108 hLine (line_ok (some ⟨gz19__, 0, none⟩) 1 1 ⟨#[52]⟩ Wa19__) ?_ (hd := by simp)
 rintro _ W__20 ⟨rfl, hb⟩
 replace hN0 := hNon _ _ hN0 hb
 replace CC := Kd.C_below CC hb
 refine ⟨_, rfl, hNS _ hN0, _, (by (simp only [Act.put, List.setIfInBounds_toArray, List.set_cons_zero, List.set_cons_succ]); rfl), ?_⟩
 clear hb
 refine cl 21 109 ⟨_, Tryz.func12, by kernel_rfl, rfl⟩ (Same_ok X15 (some ⟨gz19__, 0, none⟩) 1 1 d15 1 [⟨#[45, 53, 47, 50]⟩] ⟨#[52]⟩ W__20 (by rw [hNN.out] at hN0; exact ⟨hN0.2.2.2.2.2.2.2.2.2⟩) ⟨CC⟩ rfl rfl (by decide)) ?_ (hd := by simp)
 rintro _ W__21 ⟨rfl, hb⟩
 replace hN0 := hNon _ _ hN0 hb
 refine ⟨_, rfl, hNS _ hN0, _, (by (simp only [Act.put, List.setIfInBounds_toArray, List.set_cons_zero, List.set_cons_succ]); rfl), ?_⟩
 clear hb
 refine tp 22 110 ?_
 refine tp 23 0 ?_
 refine done_ (by kernel_rfl) ?_
 rw [hNN.out] at hN0
 replace HB := Z0.mk hN0.1
 clear hNS hNon hN0 CC
 go_wp2
 go_ret
 exact ⟨rfl, HB.out⟩
instance nt_awake : Ctr 9 (type_of% @lawake_ok) := ⟨@lawake_ok, _, Tryz.func9, by kernel_rfl, rfl⟩
theorem fin_len (qs : List Rat) (q : Rat) : (fin qs q).1.length ≤ 32 := by
 rcases Classical.em (fine qs q) with h | h
 · rw [fin_pos h]; show (qs.map Sv.rtxt).length ≤ 32; rw [List.length_map]; exact h.1
 · rw [fin_neg h]; exact Nat.zero_le _
theorem constS_len (n : Int) (c : ByteArray) : (constS n c).1.length ≤ 32 := by
 unfold constS
 split
 · exact Nat.zero_le _
 · split
   · show (zeros n.toNat).length ≤ 32
     unfold zeros
     simp; omega
   · exact Nat.zero_le _
theorem varS_len (n i : Int) : (varS n i).1.length ≤ 32 := by
 unfold varS
 split
 · exact Nat.zero_le _
 · split
   · exact Nat.zero_le _
   · show ((zeros n.toNat).set _ _).length ≤ 32
     unfold zeros
     simp; omega
theorem addS_len (l : List ByteArray) (s : ByteArray) (m : List ByteArray) (t : ByteArray) : (addS l s m t).1.length ≤ 32 := by
 unfold addS
 split
 · exact fin_len _ _
 · exact Nat.zero_le _
theorem scaleS_len (l : List ByteArray) (s c : ByteArray) : (scaleS l s c).1.length ≤ 32 := by
 unfold scaleS
 split
 · split
   · exact fin_len _ _
   · exact Nat.zero_le _
 · exact Nat.zero_le _
theorem subS_len (l : List ByteArray) (s : ByteArray) (i : Int) (m : List ByteArray) (t : ByteArray) : (subS l s i m t).1.length ≤ 32 := by
 unfold subS
 split
 · split
   · exact Nat.zero_le _
   · exact fin_len _ _
 · exact Nat.zero_le _
theorem renS_len (l : List ByteArray) (s : ByteArray) (tv : List Int) (n : Int) : (renS l s tv n).1.length ≤ 32 := by
 unfold renS
 split
 · split
   · exact Nat.zero_le _
   · split
     · split
       · exact fin_len _ _
       · exact Nat.zero_le _
     · exact Nat.zero_le _
 · exact Nat.zero_le _
theorem intS_len (l : List ByteArray) (s : ByteArray) : (intS l s).1.length ≤ 32 := by
 unfold intS
 split
 · rename_i h
   have := (of_chkL h).1
   split
   · show ((l.map rv).map _).length ≤ 32
     rw [List.length_map, List.length_map]; exact this
   · exact Nat.zero_le _
 · exact Nat.zero_le _
theorem trip3 (r : List ByteArray × ByteArray × Int) : ∃ l s z, r = (l, s, z) := ⟨_, _, _, rfl⟩
theorem of_fewB {l : List ByteArray} {s : ByteArray} (h : fewB l s = true) : l.length ≤ 40 ∧ s.size ≤ 450 ∧ ∀ x ∈ l, x.size ≤ 450 := by
 unfold fewB at h
 rw [Bool.and_eq_true, Bool.and_eq_true, List.all_eq_true] at h
 exact ⟨of_decide_eq_true h.1, of_decide_eq_true h.2.1, fun x hx => of_decide_eq_true (h.2.2 x hx)⟩
end Go.Proofs.YtgihllbgjpcapaaGreatDoor.PA
namespace Go.Proofs.YtgihllbgjpcapaaGreatDoor.Rb
set_option linter.unusedVariables false
open Go.ChangeShapes Go.WideShapes Go.ChangeAt Go.RowKit
theorem and_ {a b : Bool} (h : a = true) (k : b = true) : (a && b) = true := by rw [h, k]; rfl
theorem own : ownKnob Tryz.prog.godebug = none := by kernel_rfl
abbrev laid : List (String × DataW Unit) := Rows.linearSubstitutesRow.laid
theorem shaped (os : Os) (args : Array Value) : ((World.laidAll Tryz.prog os laid).forCall (fun _ _ => 0) ⟨#[], args, []⟩).Shaped Tryz.checked.prog := World.shaped_of_ZipB (by kernel_rfl) (by kernel_rfl)
theorem met (os : Os) (args : Array Value) : laidMetH Tryz.prog laid ((World.laidAll Tryz.prog os laid).forCall (fun _ _ => 0) ⟨#[], args, []⟩).memory := by
 rw [MakeChecks.laidMetH_plain _ _ _ (by kernel_rfl)]
 exact laidMet_laidAll _ (by kernel_rfl) (by kernel_rfl)
theorem gPow : Tryz.prog.globalNamed "internal/strconv.uint64pow10" = some 5 := by kernel_rfl
theorem tPow : (Tryz.prog.globals[5]?).map (·.type) = some 250 := by kernel_rfl
theorem dPow : (Rows.laid_internal_strconv_uint64pow10 : DataW Unit) = Lib.tabData .u64 Lib.pow10Tab := rfl
theorem of_laid {W : World} (h : laidMetH Tryz.prog laid W) : LaidW W := by
 rw [MakeChecks.laidMetH_plain _ _ _ (by kernel_rfl)] at h
 obtain ⟨_, ⟨_, _, _, _, _, _, _, _, _, _, ⟨_, _, _, _, _, _, _, _, _, _, ⟨g', t', cs, fuel, p, q, hg', ht', hvar, hd, _⟩, _⟩, _⟩, _⟩ := h
 obtain rfl := Option.some.inj (gPow.symm.trans hg')
 obtain rfl := Option.some.inj (tPow.symm.trans ht')
 unfold LaidW Lib.TabIs
 rw [hvar, ← Lib.cells_of_tab Tryz.underlying250 Tryz.underlying222 (by kernel_rfl) (by kernel_rfl) (dPow ▸ hd)]
end Go.Proofs.YtgihllbgjpcapaaGreatDoor.Rb
namespace Go.Proofs.YtgihllbgjpcapaaGreatDoor.Ro
set_option linter.unusedVariables false
open Go.ChangeShapes Go.WideShapes Go.ChangeAt Go.RowKit Go.Proofs.WWords Go.Proofs.WLast Go.Proofs.WMore
section
variable {H : Type} {enc : TypeId × Value → H} {P : Program} {W : World}
theorem maxLen_le : maxLen ≤ 9223372036854775807 := by unfold maxLen; decide
theorem cSl {fuel : Nat} {t e : TypeId} {cs : List Value} {x : DataW H × List MemPlace} (ht : P.underlying t = some (.slice e)) (he : P.underlying e = some .string) (hc : P.cellsOf e = 1) (h : DataW.trod enc P W 0 (fun _ => true) true fuel t cs = some x) :
  ∃ A c l, cs = [.slice A l.length c] ∧ l.length ≤ c ∧ Kd.string.C W A l.length l := by
 rcases Deep.open_strs ht he hc h with ⟨rfl, -⟩ | ⟨a, len, cap, m, Sx, rfl, -, hl, hm, hmm, -, hx⟩
 · exact ⟨none, 0, [], rfl, Nat.le_refl _, Kd.C_nil _ _⟩
 · have hlen : ((List.range len).map Sx).length = len := by rw [List.length_map, List.length_range]
   refine ⟨some a, cap, (List.range len).map Sx, by rw [hlen], by rw [hlen]; exact hl, ?_⟩
   rw [hlen]
   have := maxLen_le
   refine Kd.C_of_reads (d := ByteArray.empty) ⟨hlen, by omega, fun _ => ⟨a, rfl, fun j hj => ?_⟩⟩
   have h2 := (hx j (by rw [hmm]; simp; omega)).1
   rw [h2]
   simp [List.getD, hj]
theorem opSl {t e : TypeId} {v : Value} {d : DataW H} {p : List MemPlace} (ht : P.underlying t = some (.slice e)) (he : P.underlying e = some .string) (hc : P.cellsOf e = 1) (hval : Value.okWide P W .any 0 t v) (h : DataW.Trod enc P W 0 (fun _ => true) true t v d p) :
  ∃ A c l, v = .slice A l.length c ∧ l.length ≤ c ∧ Kd.string.C W A l.length l := by
 obtain ⟨a, n, c, rfl⟩ := okWide_slice ht hval
 obtain ⟨fuel, hf⟩ := h
 obtain ⟨A, c', l, e1, h1, h2⟩ := cSl ht he hc hf
 have e1 : [Value.slice a n c] = [Value.slice A l.length c'] := e1
 injection e1 with e1 _
 rw [e1]
 exact ⟨A, c', l, rfl, h1, h2⟩
theorem opIs {t e : TypeId} {v : Value} {d : DataW H} {p : List MemPlace} (ht : P.underlying t = some (.slice e)) (he : P.underlying e = some (.int .i64)) (hc : P.cellsOf e = 1) (hval : Value.okWide P W .any 0 t v) (h : DataW.Trod enc P W 0 (fun _ => true) true t v d p) :
  ∃ A c l, v = .slice A l.length c ∧ l.length ≤ c ∧ Kd.C (Kd.int .i64) W A l.length l := by
 obtain ⟨a, n, c, rfl⟩ := okWide_slice ht hval
 obtain ⟨fuel, hf⟩ := h
 rcases open_ints ht he hc hf with ⟨e1, -⟩ | ⟨a', len, cap, zs, e1, -, hl, hm, hz, -, hcell, -⟩
 · have e1 : [Value.slice a n c] = [Value.slice none 0 0] := e1
   injection e1 with e1 _
   rw [e1]
   exact ⟨none, 0, [], rfl, Nat.le_refl _, Kd.C_nil _ _⟩
 · have e1 : [Value.slice a n c] = [Value.slice (some a') len cap] := e1
   injection e1 with e1 _
   rw [e1]
   have hz : zs.length = cap := by rw [hz]; rfl
   have hlen : (zs.take len).length = len := by rw [List.length_take]; omega
   refine ⟨some a', cap, zs.take len, by rw [hlen], by rw [hlen]; exact hl, ?_⟩
   rw [hlen]
   have := maxLen_le
   refine Kd.C_of_reads (d := 0) ⟨hlen, by omega, fun _ => ⟨a', rfl, fun j hj => ?_⟩⟩
   rw [hcell j (by omega)]
   simp [List.getD, hj]
theorem opLn {t ts te tc : TypeId} {n0 n1 : String} {e0 e1 : Bool} {g0 g1 k0 k1 : String} {b0 b1 : Nat} {v : Value} {d : DataW H} {p : List MemPlace}
  (ht : P.underlying t = some (.struct #[⟨n0, ts, 0, e0, g0, k0, b0⟩, ⟨n1, tc, 1, e1, g1, k1, b1⟩])) (hs : P.underlying ts = some (.slice te)) (he : P.underlying te = some .string) (hcs : P.underlying tc = some .string)
  (c0 : P.cellsOf t = 2) (c1 : P.cellsOf ts = 1) (c2 : P.cellsOf te = 1) (c3 : P.cellsOf tc = 1) (hval : Value.okWide P W .any 0 t v) (h : DataW.Trod enc P W 0 (fun _ => true) true t v d p) :
  ∃ A c l s, v = .agg #[.slice A l.length c, .string s] ∧ l.length ≤ c ∧ Kd.string.C W A l.length l := by
 obtain ⟨cs, rfl, hsz⟩ := okWide_struct ht hval
 obtain ⟨fuel, hf⟩ := h
 obtain ⟨y0, y1, n, -, hl, h0, h1⟩ := trod_struct2 ht hf
 obtain ⟨L⟩ := cs
 rw [c0] at hsz
 have hsz : L.length = 2 := hsz
 match L, hsz with
 | [a, b], _ =>
  have h0 : DataW.trod enc P W 0 (fun _ => true) true n ts ((([a, b] : List Value).drop 0).take (P.cellsOf ts)) = some y0 := h0
  have h1 : DataW.trod enc P W 0 (fun _ => true) true n tc ((([a, b] : List Value).drop 1).take (P.cellsOf tc)) = some y1 := h1
  rw [c1] at h0
  rw [c3] at h1
  have h0 : DataW.trod enc P W 0 (fun _ => true) true n ts [a] = some y0 := h0
  have h1 : DataW.trod enc P W 0 (fun _ => true) true n tc [b] = some y1 := h1
  obtain ⟨A, c, l, e, h2, h3⟩ := cSl hs he c2 h0
  obtain ⟨s, e', -⟩ := DataW.trod_string hcs h1
  injection e with e _
  injection e' with e' _
  rw [e, e']
  exact ⟨A, c, l, s, rfl, h2, h3⟩
end
theorem laidOut : laidOutB Tryz.prog = true := by kernel_rfl
end Go.Proofs.YtgihllbgjpcapaaGreatDoor.Ro
