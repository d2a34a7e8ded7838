import Derived.Test.YtihbebbabjklkaaGreatDoorAG9
import Derived.Test.YtihbebbabjklkaaGreatDoorAG6
import Derived.Test.YtihbebbabjklkaaGreatDoorRows
import Derived.Test.YtihbebbabjklkaaGreatDoorAG1
import Derived.ProofKit
import Derived.OpenShut
import Derived.Lay
import Derived.LaidOnce
import Derived.SevenTiedAt
import Derived.Test.YtihbebbabjklkaaGreatDoorAW
import Derived.Deep.Strs
import Derived.ChangeSlices
import Derived.Carry
import Derived.Deep.DeepHandedRow
set_option maxHeartbeats 8000000
set_option maxRecDepth 100000
set_option linter.unusedVariables false
namespace Go.Proofs.YtihbebbabjklkaaGreatDoor.PA
set_option linter.unusedVariables false
set_option linter.unusedSimpArgs false
open Go.RowKit Go.Shelf Go.Proofs.WWords Go.Proofs.WLast Go.Proofs.WMore
theorem chk2_map {qs rs : List Rat} {q r : Rat} (h1 : fine qs q) (h2 : fine rs r) (hl : qs.length = rs.length) : chk2L (qs.map Sv.rtxt) (Sv.rtxt q) (rs.map Sv.rtxt) (Sv.rtxt r) = 0 := by
 unfold chk2L
 rw [(chkL_map qs q).2 h1, if_pos rfl, (chkL_map rs r).2 h2, if_pos rfl, if_pos (by rw [List.length_map, List.length_map, hl])]
theorem addS_map {qs rs : List Rat} {q r : Rat} (h1 : fine qs q) (h2 : fine rs r) (hl : qs.length = rs.length) : addS (qs.map Sv.rtxt) (Sv.rtxt q) (rs.map Sv.rtxt) (Sv.rtxt r) = fin (List.zipWith (· + ·) qs rs) (q + r) := by
 unfold addS
 rw [chk2_map h1 h2 hl, if_pos rfl, rv_map, rv_map, rv_rtxt, rv_rtxt]
theorem scaleS_map {qs : List Rat} {q c : Rat} (h1 : fine qs q) (hc : ndR c ≤ 100) : scaleS (qs.map Sv.rtxt) (Sv.rtxt q) (Sv.rtxt c) = fin (qs.map (· * c)) (q * c) := by
 unfold scaleS
 rw [(chkL_map qs q).2 h1, if_pos rfl, numC_rtxt, if_pos hc, if_pos rfl, rv_map, rv_rtxt, rv_rtxt]
def evR (qs : List Rat) (q : Rat) (ps : List Rat) : Rat := (List.zipWith (· * ·) qs ps).foldl (· + ·) q
theorem evalS_map {qs ps : List Rat} {q : Rat} (h1 : fine qs q) (hp : ∀ p ∈ ps, ndR p ≤ 100) (hl : ps.length = qs.length) : evalS (qs.map Sv.rtxt) (Sv.rtxt q) (ps.map Sv.rtxt) = if ndR (evR qs q ps) ≤ 100 then (Sv.rtxt (evR qs q ps), 0) else (⟨#[]⟩, 10) := by
 unfold evalS
 rw [(chkL_map qs q).2 h1, if_pos rfl, if_pos (by rw [List.length_map, List.length_map, hl]), numsC_map, if_pos hp, if_pos rfl]
 unfold evalL
 rw [rv_map, rv_map, rv_rtxt]
 rfl
theorem subS_map {qs rs : List Rat} {q r : Rat} (h1 : fine qs q) (h2 : fine rs r) (hl : qs.length = rs.length) (i : Nat) (hi : i < qs.length) : subS (qs.map Sv.rtxt) (Sv.rtxt q) i (rs.map Sv.rtxt) (Sv.rtxt r) = fin (List.zipWith (· + ·) (qs.set i 0) (rs.map (· * qs.getD i 0))) (q + r * qs.getD i 0) := by
 unfold subS
 rw [chk2_map h1 h2 hl, if_pos rfl, if_neg (by rw [List.length_map]; omega), rv_map, rv_map, rv_rtxt, rv_rtxt, Int.toNat_natCast]
theorem renS_map {qs : List Rat} {q : Rat} (h1 : fine qs q) (tv : List Int) (n : Nat) (hn : n ≤ 32) (hl : tv.length = qs.length) (ht : tosOk tv n = true) : renS (qs.map Sv.rtxt) (Sv.rtxt q) tv n = fin (movA tv n qs qs.length) q := by
 unfold renS
 rw [(chkL_map qs q).2 h1, if_pos rfl, if_neg (by omega), if_pos (by rw [List.length_map, hl]), if_pos ht, List.length_map, rv_rtxt, Int.toNat_natCast, movT_eq qs tv n qs.length (Nat.le_refl _)]
theorem intS_map {qs : List Rat} {q : Rat} (h1 : fine qs q) (D : Nat) (r : Rat) (hD : lcmD (qs ++ [q]) = D) (hr : ((D : Nat) : Rat) = r) : intS (qs.map Sv.rtxt) (Sv.rtxt q) = if ∀ m ∈ (qs.map fun p => (p * r).num) ++ [(q * r).num, (D : Int)], Sv.nd m ≤ 100 then (qs.map fun p => Sv.txt (p * r).num, Sv.txt (q * r).num, Sv.txt (D : Int), 0) else ([], ⟨#[]⟩, ⟨#[]⟩, 10) := by
 unfold intS
 rw [(chkL_map qs q).2 h1, if_pos rfl, rv_map, rv_rtxt, hD, hr]
def q4 : Rat := Rat.mk' 4 1 (by decide) (by decide)
def q2 : Rat := Rat.mk' 2 1 (by decide) (by decide)
def q3 : Rat := Rat.mk' 3 1 (by decide) (by decide)
def q133 : Rat := Rat.mk' 13 3 (by decide) (by decide)
def q32 : Rat := Rat.mk' 3 2 (by decide) (by decide)
def qm52 : Rat := Rat.mk' (-5) 2 (by decide) (by decide)
theorem r4 : Sv.rtxt q4 = ⟨#[52]⟩ := rt_lit 4 1 _ _ _ (by simp [Sv.txtL, Sv.txtN, Sv.dg, Sv.dch])
theorem r2 : Sv.rtxt q2 = ⟨#[50]⟩ := rt_lit 2 1 _ _ _ (by simp [Sv.txtL, Sv.txtN, Sv.dg, Sv.dch])
theorem r3 : Sv.rtxt q3 = ⟨#[51]⟩ := rt_lit 3 1 _ _ _ (by simp [Sv.txtL, Sv.txtN, Sv.dg, Sv.dch])
theorem r133 : Sv.rtxt q133 = ⟨#[49, 51, 47, 51]⟩ := rt_lit 13 3 _ _ _ (by simp [Sv.txtL, Sv.txtN, Sv.dg, Sv.dch])
theorem r32 : Sv.rtxt q32 = ⟨#[51, 47, 50]⟩ := rt_lit 3 2 _ _ _ (by simp [Sv.txtL, Sv.txtN, Sv.dg, Sv.dch])
theorem rm52 : Sv.rtxt qm52 = ⟨#[45, 53, 47, 50]⟩ := rt_lit (-5) 2 _ _ _ (by simp [Sv.txtL, Sv.txtN, Sv.dg, Sv.dch])
theorem ndR_lit2 (n : Int) (d : Nat) (h0 : d ≠ 0) (h1 : n.natAbs.Coprime d) (hn : n.natAbs < 100) (hd : d < 100) : ndR (Rat.mk' n d h0 h1) ≤ 100 := by
 have e1 : Sv.nd n ≤ 2 := Sv.nd_le (by omega) (by omega)
 have e2 : Sv.nd (d : Int) ≤ 2 := Sv.nd_le (by omega) (by omega)
 unfold ndR
 show max (Sv.nd n) (Sv.nd (d : Int)) ≤ 100
 omega
theorem s12 : ndR q12 ≤ 100 := ndR_lit2 _ _ _ _ (by decide) (by decide)
theorem sm3 : ndR qm3 ≤ 100 := ndR_lit2 _ _ _ _ (by decide) (by decide)
theorem s4 : ndR q4 ≤ 100 := ndR_lit2 _ _ _ _ (by decide) (by decide)
theorem s2 : ndR q2 ≤ 100 := ndR_lit2 _ _ _ _ (by decide) (by decide)
theorem s3 : ndR q3 ≤ 100 := ndR_lit2 _ _ _ _ (by decide) (by decide)
theorem s13 : ndR q13 ≤ 100 := ndR_lit2 _ _ _ _ (by decide) (by decide)
theorem s133 : ndR q133 ≤ 100 := ndR_lit2 _ _ _ _ (by decide) (by decide)
theorem s32 : ndR q32 ≤ 100 := ndR_lit2 _ _ _ _ (by decide) (by decide)
theorem sm52 : ndR qm52 ≤ 100 := ndR_lit2 _ _ _ _ (by decide) (by decide)
theorem s1 : ndR 1 ≤ 100 := ndR_lit2 1 1 (by decide) (by decide) (by decide) (by decide)
theorem s0 : ndR 0 ≤ 100 := ndR_lit2 0 1 (by decide) (by decide) (by decide) (by decide)
theorem fine2 {a b c : Rat} (h1 : ndR a ≤ 100) (h2 : ndR b ≤ 100) (h3 : ndR c ≤ 100) : fine [a, b] c := ⟨by simp, fun q hq => by rcases List.mem_cons.1 hq with rfl | hq; · exact h1
                                                                                                                                 · rw [List.mem_singleton.1 hq]; exact h2, h3⟩
theorem fine1 {a c : Rat} (h1 : ndR a ≤ 100) (h3 : ndR c ≤ 100) : fine [a] c := ⟨by simp, fun q hq => by rw [List.mem_singleton.1 hq]; exact h1, h3⟩
abbrev tl : List ByteArray := [⟨#[49, 47, 50]⟩, ⟨#[45, 51]⟩]
abbrev tm : List ByteArray := [⟨#[49]⟩, ⟨#[48]⟩]
theorem tl_e : tl = [q12, qm3].map Sv.rtxt := by rw [List.map_cons, List.map_cons, List.map_nil, r12, rm3]
theorem tm_e : tm = ([1, 0] : List Rat).map Sv.rtxt := by rw [List.map_cons, List.map_cons, List.map_nil, r1, r0]
theorem fl : fine [q12, qm3] q4 := fine2 s12 sm3 s4
theorem fm : fine [1, 0] q13 := fine2 s1 s0 s13
theorem awAdd : addS tl ⟨#[52]⟩ tm ⟨#[49, 47, 51]⟩ = ([⟨#[51, 47, 50]⟩, ⟨#[45, 51]⟩], ⟨#[49, 51, 47, 51]⟩, 0) := by
 rw [tl_e, tm_e, ← r4, ← r13, addS_map fl fm rfl, show List.zipWith (· + ·) [q12, qm3] ([1, 0] : List Rat) = [q32, qm3] by decide +kernel, show q4 + q13 = q133 by decide +kernel, fin_pos (fine2 s32 sm3 s133), List.map_cons, List.map_cons, List.map_nil, r32, rm3, r133]
theorem awEval : evalS tl ⟨#[52]⟩ [⟨#[50]⟩, ⟨#[49, 47, 51]⟩] = (⟨#[52]⟩, 0) := by
 rw [tl_e, ← r4, show ([⟨#[50]⟩, ⟨#[49, 47, 51]⟩] : List ByteArray) = [q2, q13].map Sv.rtxt by rw [List.map_cons, List.map_cons, List.map_nil, r2, r13], evalS_map (ps := [q2, q13]) fl (by
  intro p hp
  rcases List.mem_cons.1 hp with rfl | hp
  · exact s2
  · rw [List.mem_singleton.1 hp]; exact s13) rfl, show evR [q12, qm3] q4 [q2, q13] = q4 by decide +kernel, if_pos s4]
theorem awSub : subS tl ⟨#[52]⟩ 1 tm ⟨#[49, 47, 51]⟩ = ([⟨#[45, 53, 47, 50]⟩, ⟨#[48]⟩], ⟨#[51]⟩, 0) := by
 rw [tl_e, tm_e, ← r4, ← r13, show (1 : Int) = ((1 : Nat) : Int) from rfl, subS_map fl fm rfl 1 (by decide), show List.zipWith (· + ·) ([q12, qm3].set 1 0) (([1, 0] : List Rat).map (· * [q12, qm3].getD 1 0)) = [qm52, 0] by decide +kernel, show q4 + q13 * [q12, qm3].getD 1 0 = q3 by decide +kernel, fin_pos (fine2 sm52 s0 s3), List.map_cons, List.map_cons, List.map_nil, rm52, r0, r3]
theorem awRen1 : renS tl ⟨#[52]⟩ [1, 0] 2 = ([⟨#[45, 51]⟩, ⟨#[49, 47, 50]⟩], ⟨#[52]⟩, 0) := by
 rw [tl_e, ← r4, show (2 : Int) = ((2 : Nat) : Int) from rfl, renS_map fl [1, 0] 2 (by decide) rfl (by decide), show movA [1, 0] 2 [q12, qm3] [q12, qm3].length = [qm3, q12] by decide +kernel, fin_pos (fine2 sm3 s12 s4), List.map_cons, List.map_cons, List.map_nil, rm3, r12]
theorem awRen2 : renS tl ⟨#[52]⟩ [0, 0] 1 = ([⟨#[45, 53, 47, 50]⟩], ⟨#[52]⟩, 0) := by
 rw [tl_e, ← r4, show (1 : Int) = ((1 : Nat) : Int) from rfl, renS_map fl [0, 0] 1 (by decide) rfl (by decide), show movA [0, 0] 1 [q12, qm3] [q12, qm3].length = [qm52] by decide +kernel, fin_pos (fine1 sm52 s4), List.map_cons, List.map_nil, rm52]
theorem awInt : intS tl ⟨#[52]⟩ = ([⟨#[49]⟩, ⟨#[45, 54]⟩], ⟨#[56]⟩, ⟨#[50]⟩, 0) := by
 rw [tl_e, ← r4, intS_map fl 2 q2 (by decide +kernel) (by decide +kernel), show ([q12, qm3].map fun p => (p * q2).num) = [1, -6] by decide +kernel, show (q4 * q2).num = 8 by decide +kernel, if_pos (by
  intro m hm
  refine Nat.le_trans (nd_lt10 ?_) (by decide)
  simp only [List.cons_append, List.nil_append, List.mem_cons, List.not_mem_nil, or_false] at hm
  rcases hm with rfl | rfl | rfl | rfl <;> decide), show ([q12, qm3].map fun p => Sv.txt (p * q2).num) = ([1, -6] : List Int).map Sv.txt by
   rw [← show ([q12, qm3].map fun p => (p * q2).num) = [1, -6] by decide +kernel, List.map_map]; rfl]
 simp [Sv.txt, Sv.txtL, Sv.txtN, Sv.dg, Sv.dch]
set_option linter.unusedVariables false
set_option linter.unusedSimpArgs false
open Go.RowKit Go.Proofs.WWords Go.Proofs.WLast Go.Proofs.WMore
structure EvD where
  i : Nat
  d : Tmp
  deps : List Nat
  al : Bool
  F : Value → World → Prop
  st : ∀ v w w', F v w → Below w.heap.size w w' → F v w'
  hal : al = true → ∀ v w, F v w → ∃ g, v = .pointer (some ⟨g, 0, none⟩) ∧ g < w.heap.size
section
variable {P : Program} {ops : Array Oper} {Q : Exit → Act → World → Prop} {md : Region.Mode} {S : World → Prop} {ds : List Nat}
end
section
variable {P : Program} {ops : Array Oper} {Q : Exit → Act → World → Prop} {D : List EvD} {B : World → Prop} {a0 : Act}
end
section
variable {P : Program} {ops : Array Oper} {Q : Exit → Act → World → Prop} {md : Region.Mode} {S : World → Prop} {ds : List Nat}
end
set_option linter.unusedVariables false
set_option linter.unusedSimpArgs false
open Go.RowKit Go.Shelf Go.Proofs.WWords Go.Proofs.WLast Go.Proofs.WMore
theorem line_ok (A : Option Addr) (n c : Nat) (s : ByteArray) (w : World) :
  Calls Tryz.prog 57 #[.string s, .slice A n c] w fun e w' => e = .returned (.agg #[.slice A n c, .string s]) ∧ Below w.heap.size w w' := by
 have HB := Z0.mk (Below.refl w.heap.size w)
 have hu := Tryz.underlying25
 go_enter Tryz.func57, Tryz.ntmps57
 go_upto_region 1 with (fail)
 refine al1 ?_
 intro W hb B0
 replace HB := fB HB hb
 obtain ⟨p0, p1, f0, f1⟩ := b2 B0
 clear hb
 go_wp2
 refine bodyPost_ret (results_cell_row rfl _ _ w.heap.size 25 #[.slice A n c, .string s] (0, 0) _ rfl (blk_put (blk_put B0.out 0 _ rfl) 1 _ rfl) hu rfl (by kernel_rfl)) rfl ?_
 exact ⟨rfl, below_set (below_set HB.out (by omega)) (by omega)⟩
section
variable {P : Program} {ops : Array Oper} {Q : Exit → Act → World → Prop} {rest : List Oper} {o1 o2 : Oper} {a : Act} {W : World}
theorem newL {N : Tmp} {t t' : TypeId} {p : Operand} {vo : Operand} (z0 z1 x y : Value)
  (K : ∀ g w', W.heap.size ≤ g → w'.heap[g]? = some (.cells #[x, y] t (0, 0)) → Below W.heap.size W w' → wpList P ops Q rest (a.put (some N) (.pointer (some ⟨g, 0, none⟩))) w')
  (hop2 : o2.op = .store t' p vo := by rfl)
  (hd : o1.dst = some N := by rfl) (hg : o1.guard = none := by rfl) (hg2 : o2.guard = none := by rfl) (hN : o2.dst = none := by rfl)
  (hr : Sem.run P (execOp a.eval o1) W = Result.ok (Next.value (Value.pointer (some ⟨W.heap.size, 0, none⟩))) (W.alloc (Obj.cells #[z0, z1] t)) := by first | (go_simp; done) | (go_simp; rfl))
  (hr2 : ∀ (g : Nat) (w1 : World), w1.cell? ⟨g, 0, none⟩ = some z0 → w1.cell? ⟨g, 1, none⟩ = some z1 → w1.frozen? ⟨g, 0, none⟩ = false → w1.frozen? ⟨g, 1, none⟩ = false →
   (execOp (a.put (some N) (.pointer (some ⟨g, 0, none⟩))).eval o2).run P w1 = .ok .skip ((w1.setCell ⟨g, 0, none⟩ x).setCell ⟨g, 1, none⟩ y) := by (intro g w1 k0 k1 k2 k3; simp only [Act.put, List.setIfInBounds_toArray, List.set_cons_zero, List.set_cons_succ]; first | (go_simp; done) | (go_simp; rfl))) : wpList P ops Q (o1 :: o2 :: rest) a W := by
  refine box_event hg hd hr ?_
  intro g hgs w1 hb hbl
  obtain ⟨k0, k1, k2, k3⟩ := b2 ⟨hb⟩
  refine wpList_plain hg2 fun K' hK => ?_
  unfold Oper.wp
  rw [hd, hr2 g w1 k0 k1 k2 k3]
  show K' ((a.put (some N) _).put o2.dst undef) _
  rw [hN]
  refine hK _ _ (K g _ (by omega) (blk_put (blk_put hb 0 x rfl) 1 y rfl) ?_)
  exact below_set (below_set hbl (by omega)) (by omega)
theorem newL2 {o3 o4 : Oper} {N M : Tmp} {t t3 t4 : TypeId} {p3 v3 p4 v4 : Operand} (z0 z1 x y x' y' : Value)
  (K : ∀ g g' w', W.heap.size ≤ g → W.heap.size ≤ g' → g ≠ g' → w'.heap[g]? = some (.cells #[x, y] t (0, 0)) → w'.heap[g']? = some (.cells #[x', y'] t (0, 0)) → Below W.heap.size W w' → wpList P ops Q rest ((a.put (some N) (.pointer (some ⟨g, 0, none⟩))).put (some M) (.pointer (some ⟨g', 0, none⟩))) w')
  (hop3 : o3.op = .store t3 p3 v3 := by rfl) (hop4 : o4.op = .store t4 p4 v4 := by rfl)
  (hd1 : o1.dst = some N := by rfl) (hg1 : o1.guard = none := by rfl) (hd2 : o2.dst = some M := by rfl) (hg2 : o2.guard = none := by rfl) (hg3 : o3.guard = none := by rfl) (hN3 : o3.dst = none := by rfl) (hg4 : o4.guard = none := by rfl) (hN4 : o4.dst = none := by rfl)
  (hr1 : Sem.run P (execOp a.eval o1) W = Result.ok (Next.value (Value.pointer (some ⟨W.heap.size, 0, none⟩))) (W.alloc (Obj.cells #[z0, z1] t)) := by first | (go_simp; done) | (go_simp; rfl))
  (hr2 : ∀ (a : Act) (W : World), Sem.run P (execOp a.eval o2) W = Result.ok (Next.value (Value.pointer (some ⟨W.heap.size, 0, none⟩))) (W.alloc (Obj.cells #[z0, z1] t)) := by (intro a W; first | (go_simp; done) | (go_simp; rfl)))
  (hr3 : ∀ (g g' : Nat) (w1 : World), w1.cell? ⟨g, 0, none⟩ = some z0 → w1.cell? ⟨g, 1, none⟩ = some z1 → w1.frozen? ⟨g, 0, none⟩ = false → w1.frozen? ⟨g, 1, none⟩ = false →
   (execOp ((a.put (some N) (.pointer (some ⟨g, 0, none⟩))).put (some M) (.pointer (some ⟨g', 0, none⟩))).eval o3).run P w1 = .ok .skip ((w1.setCell ⟨g, 0, none⟩ x).setCell ⟨g, 1, none⟩ y) := by (intro g g' w1 k0 k1 k2 k3; simp only [Act.put, List.setIfInBounds_toArray, List.set_cons_zero, List.set_cons_succ]; first | (go_simp; done) | (go_simp; rfl)))
  (hr4 : ∀ (g g' : Nat) (w1 : World), w1.cell? ⟨g', 0, none⟩ = some z0 → w1.cell? ⟨g', 1, none⟩ = some z1 → w1.frozen? ⟨g', 0, none⟩ = false → w1.frozen? ⟨g', 1, none⟩ = false →
   (execOp ((a.put (some N) (.pointer (some ⟨g, 0, none⟩))).put (some M) (.pointer (some ⟨g', 0, none⟩))).eval o4).run P w1 = .ok .skip ((w1.setCell ⟨g', 0, none⟩ x').setCell ⟨g', 1, none⟩ y') := by (intro g g' w1 k0 k1 k2 k3; simp only [Act.put, List.setIfInBounds_toArray, List.set_cons_zero, List.set_cons_succ]; first | (go_simp; done) | (go_simp; rfl))) : wpList P ops Q (o1 :: o2 :: o3 :: o4 :: rest) a W := by
  refine box_event hg1 hd1 hr1 ?_
  intro g hgs w1 hb hbl
  rw [hd1]
  refine box_event hg2 hd2 (hr2 _ _) ?_
  intro g' hgs' w2 hb2 hbl2
  rw [hd2]
  have hb1 := (hbl2.block g (Array.getElem?_eq_some_iff.1 hb).1).trans hb
  have hlt : g < w1.heap.size := (Array.getElem?_eq_some_iff.1 hb).1
  have hne : g ≠ g' := by omega
  have hsz := hbl.size
  obtain ⟨k0, k1, k2, k3⟩ := b2 ⟨hb1⟩
  refine wpList_plain hg3 fun K' hK => ?_
  unfold Oper.wp
  rw [hr3 g g' w2 k0 k1 k2 k3]
  show K' ((_ : Act).put o3.dst undef) _
  rw [hN3]
  refine hK ((a.put (some N) (.pointer (some ⟨g, 0, none⟩))).put (some M) (.pointer (some ⟨g', 0, none⟩))) _ ?_
  have hb2' := blk_far (p := ⟨g, 1, none⟩) (blk_far (p := ⟨g, 0, none⟩) hb2 (Ne.symm hne) x) (Ne.symm hne) y
  obtain ⟨k0, k1, k2, k3⟩ := b2 ⟨hb2'⟩
  refine wpList_plain hg4 fun K' hK => ?_
  unfold Oper.wp
  rw [hr4 g g' _ k0 k1 k2 k3]
  show K' ((_ : Act).put o4.dst undef) _
  rw [hN4]
  refine hK _ _ (K g g' _ (by omega) (by omega) hne (blk_far (p := ⟨g', 1, none⟩) (blk_far (p := ⟨g', 0, none⟩) (blk_put (blk_put hb1 0 x rfl) 1 y rfl) hne x') hne y') (blk_put (blk_put hb2' 0 x' rfl) 1 y' rfl) ?_)
  have hbl3 := below_step hbl hbl2
  exact below_set (below_set (below_set (below_set hbl3 (by omega)) (by omega)) (by omega)) (by omega)
end
def LinV (w : World) (n : Nat) (l : List ByteArray) (s : ByteArray) (z : Int) (e : Ending) (w' : World) : Prop := ∃ X d, e = .returned (.tuple #[.agg #[.slice X n d, .string s], .int .i64 z]) ∧ n ≤ d ∧ Kd.string.C w' X n l ∧ Below w.heap.size w w'
theorem LinR.v {w w' : World} {lo : Nat} {r : List ByteArray × ByteArray × Int} {e : Ending} {l : List ByteArray} {s : ByteArray} {z : Int} {n : Nat} (h : LinR w lo r e w') (hr : r = (l, s, z)) (hn : l.length = n) : LinV w n l s z e w' := by
  subst hr hn
  obtain ⟨X, d, h1, h2, h3, -, h5⟩ := h
  exact ⟨X, d, h1, h2, h3, h5⟩
def IntV (w : World) (n : Nat) (l : List ByteArray) (s t : ByteArray) (z : Int) (e : Ending) (w' : World) : Prop := ∃ X d, e = .returned (.tuple #[.slice X n d, .string s, .string t, .int .i64 z]) ∧ n ≤ d ∧ Kd.string.C w' X n l ∧ Below w.heap.size w w'
theorem IntR.v {w w' : World} {r : List ByteArray × ByteArray × ByteArray × Int} {e : Ending} {l : List ByteArray} {s t : ByteArray} {z : Int} {n : Nat} (h : IntR w r e w') (hr : r = (l, s, t, z)) (hn : l.length = n) : IntV w n l s t z e w' := by
  subst hr hn
  exact h
theorem lawake_ok (w : World) (hL : LaidW w) :
  Calls Tryz.prog 14 #[] w fun e w' => e = .returned (.bool true) ∧ Below w.heap.size w w' := by
 have HB := Z0.mk (Below.refl w.heap.size w)
 have hu := Tryz.underlying25
 have ht := Tryz.underlying22
 have hLine : HasF 57 := ⟨_, Tryz.func57, by kernel_rfl, rfl⟩
 go_enter Tryz.func14, Tryz.ntmps14
 go_upto_region 2 with (first
  | ((with_reducible refine gd_ 17 rfl ?_); refine litS tl ?_; intro A1 c1 w1 hb hc1 C1; replace C1 := Z0.mk C1; replace HB := fB HB hb; clear hb)
  | ((with_reducible refine gd_ 19 rfl ?_); refine litS tm ?_; intro A2 c2 w2 hb hc2 C2; replace C1 := Z0.mk (Kd.C_below C1.out hb); replace C2 := Z0.mk C2; replace HB := fB HB hb; clear hb)
  | ((with_reducible refine gd_ 18 rfl ?_); refine gL 18 Tryz.func57 (line_ok A1 2 c1 ⟨#[52]⟩ _) ?_; rintro _ w3 ⟨rfl, hb⟩; refine ⟨_, rfl, ?_⟩; replace C1 := Z0.mk (Kd.C_below C1.out hb); replace HB := fB HB hb; clear hb)
  | ((with_reducible refine gd_ 20 rfl ?_); refine gL 20 Tryz.func57 (line_ok A2 2 c2 ⟨#[49, 47, 51]⟩ _) ?_; rintro _ w4 ⟨rfl, hb⟩; refine ⟨_, rfl, ?_⟩; replace C1 := Z0.mk (Kd.C_below C1.out hb); replace C2 := Z0.mk (Kd.C_below C2.out hb); replace HB := fB HB hb; clear hb)
  | ((with_reducible refine gd_ 1 rfl ?_); refine newL2 (.slice none 0 0) (.string ⟨#[]⟩) (.slice A1 2 c1) (.string ⟨#[52]⟩) (.slice A2 2 c2) (.string ⟨#[49, 47, 51]⟩) ?_; intro g1 g2 w5 hg1 hg2 hne B1 B2 hb; replace B1 := Z0.mk B1; replace B2 := Z0.mk B2; replace C1 := Z0.mk (Kd.C_below C1.out hb); replace C2 := Z0.mk (Kd.C_below C2.out hb); replace HB := fB HB hb; clear hb))
 have hd2 : 2 ≤ c1 := hc1
 have hd3 : 2 ≤ c2 := hc2
 have ol : ∀ s ∈ tl, Okt s := fun s hs => Okt.of (by revert s; decide)
 have om : ∀ s ∈ tm, Okt s := fun s hs => Okt.of (by revert s; decide)
 have ok : ∀ s : ByteArray, s.size ≤ 10 → Okt s := fun s h => Okt.of (by omega)
 have hne' := Z0.mk hne
 replace hg1 := Z0.mk hg1
 replace hg2 := Z0.mk hg2
 clear hc1 hc2
 obtain ⟨p0, p1, -, -⟩ := b2 B1
 obtain ⟨q0, q1, -, -⟩ := b2 B2
 go_upto_region 3 with (first
  | ((with_reducible refine gc_ 32 rfl ?_); refine gL 24 Tryz.func32 ((Add_ok A1 A2 2 c1 2 c2 tl tm ⟨#[52]⟩ ⟨#[49, 47, 51]⟩ _ (hL.below HB.out) C1 C2 rfl rfl (by decide) (by decide) ol om (ok _ (by decide)) (ok _ (by decide))).mono fun e w' h => h.v awAdd rfl) ?_; rintro _ w6 ⟨X3, d3, rfl, hd3, C3, hb⟩; refine ⟨_, rfl, ?_⟩; replace C3 := Z0.mk C3; replace B1 := fk B1 hb; replace B2 := fk B2 hb; replace C1 := Z0.mk (Kd.C_below C1.out hb); replace C2 := Z0.mk (Kd.C_below C2.out hb); replace HB := fB HB hb; clear hb p0 p1 q0 q1)
  | ((with_reducible refine gd_ 3 rfl ?_); refine newL (.slice none 0 0) (.string ⟨#[]⟩) (.slice X3 2 d3) (.string ⟨#[49, 51, 47, 51]⟩) ?_; intro g3 w7 hg3 B3 hb; replace B3 := Z0.mk B3; replace B1 := fk B1 hb; replace B2 := fk B2 hb; replace C1 := Z0.mk (Kd.C_below C1.out hb); replace C2 := Z0.mk (Kd.C_below C2.out hb); replace C3 := Z0.mk (Kd.C_below C3.out hb); replace HB := fB HB hb; clear hb hg3))
 obtain ⟨p0, p1, -, -⟩ := b2 B1
 have oe : ∀ s ∈ ([⟨#[50]⟩, ⟨#[49, 47, 51]⟩] : List ByteArray), Okt s := fun s hs => Okt.of (by revert s; decide)
 go_upto_region 4 with (first
  | ((with_reducible refine gd_ 29 rfl ?_); refine litS [⟨#[50]⟩, ⟨#[49, 47, 51]⟩] ?_; intro A4 c4 w8 hb hc4 C4; replace C4 := Z0.mk C4; replace B1 := fk B1 hb; replace B2 := fk B2 hb; replace B3 := fk B3 hb; replace C1 := Z0.mk (Kd.C_below C1.out hb); replace C2 := Z0.mk (Kd.C_below C2.out hb); replace C3 := Z0.mk (Kd.C_below C3.out hb); replace HB := fB HB hb; clear hb p0 p1 hc4)
  | ((with_reducible refine gc_ 21 rfl ?_); refine gL 30 Tryz.func21 (Eval_ok A1 A4 2 c1 2 c4 tl [⟨#[50]⟩, ⟨#[49, 47, 51]⟩] ⟨#[52]⟩ _ (hL.below HB.out) C1 C4 rfl rfl (by decide) (by decide) ol oe (ok _ (by decide))) ?_; rw [awEval]; rintro _ w9 ⟨rfl, hb⟩; refine ⟨_, rfl, ?_⟩; clear C4; replace B1 := fk B1 hb; replace B2 := fk B2 hb; replace B3 := fk B3 hb; replace C1 := Z0.mk (Kd.C_below C1.out hb); replace C2 := Z0.mk (Kd.C_below C2.out hb); replace C3 := Z0.mk (Kd.C_below C3.out hb); replace HB := fB HB hb; clear hb))
 obtain ⟨p0, p1, -, -⟩ := b2 B1
 obtain ⟨q0, q1, -, -⟩ := b2 B2
 go_upto_region 5 with (first
  | ((with_reducible refine gc_ 15 rfl ?_); refine gL 36 Tryz.func15 ((Substitute_ok A1 A2 2 c1 2 c2 1 tl tm ⟨#[52]⟩ ⟨#[49, 47, 51]⟩ _ (hL.below HB.out) C1 C2 rfl rfl (by decide) (by decide) ol om (ok _ (by decide)) (ok _ (by decide))).mono fun e w' h => h.v awSub rfl) ?_; rintro _ w10 ⟨X7, d7, rfl, hd7, C7, hb⟩; refine ⟨_, rfl, ?_⟩; replace C7 := Z0.mk C7; replace B1 := fk B1 hb; replace B2 := fk B2 hb; replace B3 := fk B3 hb; replace C1 := Z0.mk (Kd.C_below C1.out hb); replace C2 := Z0.mk (Kd.C_below C2.out hb); replace C3 := Z0.mk (Kd.C_below C3.out hb); replace HB := fB HB hb; clear hb p0 p1 q0 q1)
  | ((with_reducible refine gd_ 7 rfl ?_); refine newL (.slice none 0 0) (.string ⟨#[]⟩) (.slice X7 2 d7) (.string ⟨#[51]⟩) ?_; intro g7 w11 hg7 B7 hb; replace B7 := Z0.mk B7; replace B1 := fk B1 hb; replace B2 := fk B2 hb; replace B3 := fk B3 hb; replace C1 := Z0.mk (Kd.C_below C1.out hb); replace C2 := Z0.mk (Kd.C_below C2.out hb); replace C3 := Z0.mk (Kd.C_below C3.out hb); replace C7 := Z0.mk (Kd.C_below C7.out hb); replace HB := fB HB hb; clear hb hg7))
 obtain ⟨p0, p1, -, -⟩ := b2 B1
 go_upto_region 6 with ((with_reducible refine gc_ 23 rfl ?_); refine gL 41 Tryz.func23 ((Integral_ok A1 2 c1 tl ⟨#[52]⟩ _ (hL.below HB.out) C1 rfl (by decide) hd2 ol (ok _ (by decide))).mono fun e w' h => h.v awInt rfl) ?_; rintro _ w12 ⟨X9, d9, rfl, hd9, C9, hb⟩; refine ⟨_, rfl, ?_⟩; replace C9 := Z0.mk C9; replace B1 := fk B1 hb; replace B2 := fk B2 hb; replace B3 := fk B3 hb; replace B7 := fk B7 hb; replace C1 := Z0.mk (Kd.C_below C1.out hb); replace C2 := Z0.mk (Kd.C_below C2.out hb); replace C3 := Z0.mk (Kd.C_below C3.out hb); replace C7 := Z0.mk (Kd.C_below C7.out hb); replace HB := fB HB hb; clear hb p0 p1)
 obtain ⟨p0, p1, -, -⟩ := b2 B1
 go_upto_region 7 with (first
  | ((with_reducible refine gd_ 48 rfl ?_); refine litR (Kd.int .i64) [1, 0] [.int .i64 1, .int .i64 0] (Kd.reps_scalar [1, 0]) ?_; intro v5 w13 hb HO; obtain ⟨A5, c5, rfl, hc5, C5⟩ := Kd.R_reads HO.out; replace C5 := Z0.mk C5; clear HO; replace B1 := fk B1 hb; replace B2 := fk B2 hb; replace B3 := fk B3 hb; replace B7 := fk B7 hb; replace C1 := Z0.mk (Kd.C_below C1.out hb); replace C2 := Z0.mk (Kd.C_below C2.out hb); replace C3 := Z0.mk (Kd.C_below C3.out hb); replace C7 := Z0.mk (Kd.C_below C7.out hb); replace C9 := Z0.mk (Kd.C_below C9.out hb); replace HB := fB HB hb; clear hb p0 p1 hc5)
  | ((with_reducible refine gc_ 18 rfl ?_); refine gL 49 Tryz.func18 ((Rename_ok A1 A5 2 c1 2 c5 tl ⟨#[52]⟩ [1, 0] 2 _ (hL.below HB.out) C1 C5 rfl rfl (by decide) (by decide) ol (ok _ (by decide))).mono fun e w' h => h.v awRen1 rfl) ?_; rintro _ w14 ⟨X13, d13, rfl, hd13, C13, hb⟩; refine ⟨_, rfl, ?_⟩; replace C13 := Z0.mk C13; clear C5; replace B1 := fk B1 hb; replace B2 := fk B2 hb; replace B3 := fk B3 hb; replace B7 := fk B7 hb; replace C1 := Z0.mk (Kd.C_below C1.out hb); replace C2 := Z0.mk (Kd.C_below C2.out hb); replace C3 := Z0.mk (Kd.C_below C3.out hb); replace C7 := Z0.mk (Kd.C_below C7.out hb); replace C9 := Z0.mk (Kd.C_below C9.out hb); replace HB := fB HB hb; clear hb)
  | ((with_reducible refine gd_ 13 rfl ?_); refine newL (.slice none 0 0) (.string ⟨#[]⟩) (.slice X13 2 d13) (.string ⟨#[52]⟩) ?_; intro g13 w15 hg13 B13 hb; replace B13 := Z0.mk B13; replace B1 := fk B1 hb; replace B2 := fk B2 hb; replace B3 := fk B3 hb; replace B7 := fk B7 hb; replace C1 := Z0.mk (Kd.C_below C1.out hb); replace C2 := Z0.mk (Kd.C_below C2.out hb); replace C3 := Z0.mk (Kd.C_below C3.out hb); replace C7 := Z0.mk (Kd.C_below C7.out hb); replace C9 := Z0.mk (Kd.C_below C9.out hb); replace C13 := Z0.mk (Kd.C_below C13.out hb); replace HB := fB HB hb; clear hb hg13))
 obtain ⟨p0, p1, -, -⟩ := b2 B1
 go_upto_region 8 with (first
  | ((with_reducible refine gd_ 54 rfl ?_); refine litR (Kd.int .i64) [0, 0] [.int .i64 0, .int .i64 0] (Kd.reps_scalar [0, 0]) ?_; intro v6 w16 hb HO; obtain ⟨A6, c6, rfl, hc6, C6⟩ := Kd.R_reads HO.out; replace C6 := Z0.mk C6; clear HO; replace B1 := fk B1 hb; replace B2 := fk B2 hb; replace B3 := fk B3 hb; replace B7 := fk B7 hb; replace B13 := fk B13 hb; replace C1 := Z0.mk (Kd.C_below C1.out hb); replace C2 := Z0.mk (Kd.C_below C2.out hb); replace C3 := Z0.mk (Kd.C_below C3.out hb); replace C7 := Z0.mk (Kd.C_below C7.out hb); replace C9 := Z0.mk (Kd.C_below C9.out hb); replace C13 := Z0.mk (Kd.C_below C13.out hb); replace HB := fB HB hb; clear hb p0 p1 hc6)
  | ((with_reducible refine gc_ 18 rfl ?_); refine gL 55 Tryz.func18 ((Rename_ok A1 A6 2 c1 2 c6 tl ⟨#[52]⟩ [0, 0] 1 _ (hL.below HB.out) C1 C6 rfl rfl (by decide) (by decide) ol (ok _ (by decide))).mono fun e w' h => h.v awRen2 rfl) ?_; rintro _ w17 ⟨X15, d15, rfl, hd15, C15, hb⟩; refine ⟨_, rfl, ?_⟩; replace C15 := Z0.mk C15; clear C6; replace B1 := fk B1 hb; replace B2 := fk B2 hb; replace B3 := fk B3 hb; replace B7 := fk B7 hb; replace B13 := fk B13 hb; replace C1 := Z0.mk (Kd.C_below C1.out hb); replace C2 := Z0.mk (Kd.C_below C2.out hb); replace C3 := Z0.mk (Kd.C_below C3.out hb); replace C7 := Z0.mk (Kd.C_below C7.out hb); replace C9 := Z0.mk (Kd.C_below C9.out hb); replace C13 := Z0.mk (Kd.C_below C13.out hb); replace HB := fB HB hb; clear hb)
  | ((with_reducible refine gd_ 15 rfl ?_); refine newL (.slice none 0 0) (.string ⟨#[]⟩) (.slice X15 1 d15) (.string ⟨#[52]⟩) ?_; intro g15 w18 hg15 B15 hb; replace B15 := Z0.mk B15; replace B1 := fk B1 hb; replace B2 := fk B2 hb; replace B3 := fk B3 hb; replace B7 := fk B7 hb; replace B13 := fk B13 hb; replace C1 := Z0.mk (Kd.C_below C1.out hb); replace C2 := Z0.mk (Kd.C_below C2.out hb); replace C3 := Z0.mk (Kd.C_below C3.out hb); replace C7 := Z0.mk (Kd.C_below C7.out hb); replace C9 := Z0.mk (Kd.C_below C9.out hb); replace C13 := Z0.mk (Kd.C_below C13.out hb); replace C15 := Z0.mk (Kd.C_below C15.out hb); replace HB := fB HB hb; clear hb hg15))
 obtain ⟨NN, hNN⟩ : ∃ NN : World → Prop, Z0 (NN = fun u => Below w.heap.size w u ∧ u.heap[g3]? = some (.cells #[.slice X3 2 d3, .string ⟨#[49, 51, 47, 51]⟩] 25 (0, 0)) ∧ u.heap[g7]? = some (.cells #[.slice X7 2 d7, .string ⟨#[51]⟩] 25 (0, 0)) ∧ u.heap[g13]? = some (.cells #[.slice X13 2 d13, .string ⟨#[52]⟩] 25 (0, 0)) ∧ u.heap[g15]? = some (.cells #[.slice X15 1 d15, .string ⟨#[52]⟩] 25 (0, 0)) ∧ Kd.string.C u X3 2 [⟨#[51, 47, 50]⟩, ⟨#[45, 51]⟩] ∧ Kd.string.C u X7 2 [⟨#[45, 53, 47, 50]⟩, ⟨#[48]⟩] ∧ Kd.string.C u X9 2 [⟨#[49]⟩, ⟨#[45, 54]⟩] ∧ Kd.string.C u X13 2 [⟨#[45, 51]⟩, ⟨#[49, 47, 50]⟩] ∧ Kd.string.C u X15 1 [⟨#[45, 53, 47, 50]⟩]) := ⟨_, ⟨rfl⟩⟩
 have hN0 : NN w18 := by rw [hNN.out]; exact ⟨HB.out, B3.out, B7.out, B13.out, B15.out, C3.out, C7.out, C9.out, C13.out, C15.out⟩
 have hNon : ∀ u u', NN u → Below u.heap.size u u' → NN u' := fun u u' h hb => by
  rw [hNN.out] at h ⊢
  obtain ⟨h1, h2, h3, h4, h5, h6, h7, h8, h9, h10⟩ := h
  exact ⟨below_step h1 hb, blk_below h2 hb, blk_below h3 hb, blk_below h4 hb, blk_below h5 hb, Kd.C_below h6 hb, Kd.C_below h7 hb, Kd.C_below h8 hb, Kd.C_below h9 hb, Kd.C_below h10 hb⟩
 clear B1 B2 B3 B7 B13 B15 C1 C2 C3 C7 C9 C13 C15 HB
 obtain ⟨S8_, hS8_⟩ : ∃ S_ : World → Prop, Z0 (S_ = fun u => u.cell? ⟨g3, 0, none⟩ = some (.slice X3 2 d3) ∧ u.cell? ⟨g3, 1, none⟩ = some (.string ⟨#[49, 51, 47, 51]⟩) ∧ u.cell? ⟨g7, 0, none⟩ = some (.slice X7 2 d7) ∧ u.cell? ⟨g7, 1, none⟩ = some (.string ⟨#[51]⟩)) := ⟨_, ⟨rfl⟩⟩
 have hNS : ∀ u, NN u → S8_ u := fun u h => by
  rw [hNN.out] at h
  obtain ⟨h1, h2, h3, h4, h5, h6, h7, h8, h9, h10⟩ := h
  rw [hS8_.out]
  exact ⟨(b2 ⟨h2⟩).1, (b2 ⟨h2⟩).2.1, (b2 ⟨h3⟩).1, (b2 ⟨h3⟩).2.1⟩
 have hN0' := hNon _ _ hN0 (Below.refl _ _).drew
 refine start_ (n := 30) (S := S8_) (ds := []) _ (by kernel_rfl) rfl rfl (hNS _ hN0') (fun _ => ?_)
 replace hN0 := hN0'
 clear hN0'
 generalize w18.drew = V0 at *
 refine tp 0 58 ?_
 refine tp 1 59 ?_
 refine tp 2 60 ?_
 refine tp 3 61 ?_
 refine tp 4 62 ?_
 refine tp 5 63 ?_
 refine tp 6 64 ?_
 refine tp 7 65 ?_
 refine tp 8 66 ?_
 refine tp 9 67 ?_
 refine tp 10 68 ?_
 refine tp 11 69 ?_
 refine tp 12 70 ?_
 refine tk 13 71 (v := .agg #[.slice X3 2 d3, .string ⟨#[49, 51, 47, 51]⟩]) (hNS _ hN0) ?_ (hy := by refine Or.inl ⟨by rfl, ?_⟩; intro w' hs; rw [hS8_.out] at hs; obtain ⟨h0, h1, h2, h3⟩ := hs; go_simp; try with_reducible rfl)
 refine ev1 14 72 (v := .slice (some ⟨V0.heap.size, 0, none⟩) 2 2) (w1 := V0.alloc (.cells #[.string ⟨#[51, 47, 50]⟩, .string ⟨#[45, 51]⟩] 23)) ?hr14 ?_
 case hr14 => go_simp; try rfl
 have hb := below_alloc (Below.refl V0.heap.size V0) (.cells #[.string ⟨#[51, 47, 50]⟩, .string ⟨#[45, 51]⟩] 23)
 have CC := (litC V0 23 [⟨#[51, 47, 50]⟩, ⟨#[45, 51]⟩]).out
 replace hN0 := hNon _ _ hN0 hb
 refine ⟨hNS _ hN0, ?_⟩
 clear hb
 simp only [Act.put, List.setIfInBounds_toArray, List.set_cons_zero, List.set_cons_succ]
 have CC : Kd.string.C (V0.alloc (.cells #[.string ⟨#[51, 47, 50]⟩, .string ⟨#[45, 51]⟩] 23)) (some ⟨V0.heap.size, 0, none⟩) 2 [⟨#[51, 47, 50]⟩, ⟨#[45, 51]⟩] := CC
 generalize hgz : V0.heap.size = gz14__ at *
 clear hgz
 generalize V0.alloc (.cells #[.string ⟨#[51, 47, 50]⟩, .string ⟨#[45, 51]⟩] 23) = Va14__ at *
 refine cl 15 73 hLine (line_ok (some ⟨gz14__, 0, none⟩) 2 2 ⟨#[49, 51, 47, 51]⟩ Va14__) ?_ (hd := by simp)
 rintro _ W__15 ⟨rfl, hb⟩
 replace hN0 := hNon _ _ hN0 hb
 replace CC := Kd.C_below CC hb
 refine ⟨_, rfl, hNS _ hN0, _, (by (simp only [Act.put, List.setIfInBounds_toArray, List.set_cons_zero, List.set_cons_succ]); rfl), ?_⟩
 clear hb
 refine cl 16 74 ⟨_, Tryz.func17, by kernel_rfl, rfl⟩ (Same_ok X3 (some ⟨gz14__, 0, none⟩) 2 2 d3 2 [⟨#[51, 47, 50]⟩, ⟨#[45, 51]⟩] ⟨#[49, 51, 47, 51]⟩ W__15 (by rw [hNN.out] at hN0; exact ⟨hN0.2.2.2.2.2.1⟩) ⟨CC⟩ rfl rfl (by decide)) ?_ (hd := by simp)
 rintro _ W__16 ⟨rfl, hb⟩
 replace hN0 := hNon _ _ hN0 hb
 refine ⟨_, rfl, hNS _ hN0, _, (by (simp only [Act.put, List.setIfInBounds_toArray, List.set_cons_zero, List.set_cons_succ]); rfl), ?_⟩
 clear hb
 refine tp 17 75 ?_
 refine tp 18 76 ?_
 refine tp 19 77 ?_
 refine tp 20 78 ?_
 refine tp 21 79 ?_
 refine tp 22 80 ?_
 refine tp 23 81 ?_
 refine tk 24 82 (v := .agg #[.slice X7 2 d7, .string ⟨#[51]⟩]) (hNS _ hN0) ?_ (hy := by refine Or.inl ⟨by rfl, ?_⟩; intro w' hs; rw [hS8_.out] at hs; obtain ⟨h0, h1, h2, h3⟩ := hs; go_simp; try with_reducible rfl)
 refine ev1 25 83 (v := .slice (some ⟨W__16.heap.size, 0, none⟩) 2 2) (w1 := W__16.alloc (.cells #[.string ⟨#[45, 53, 47, 50]⟩, .string ⟨#[48]⟩] 23)) ?hr25 ?_
 case hr25 => go_simp; try rfl
 have hb := below_alloc (Below.refl W__16.heap.size W__16) (.cells #[.string ⟨#[45, 53, 47, 50]⟩, .string ⟨#[48]⟩] 23)
 have CC := (litC W__16 23 [⟨#[45, 53, 47, 50]⟩, ⟨#[48]⟩]).out
 replace hN0 := hNon _ _ hN0 hb
 refine ⟨hNS _ hN0, ?_⟩
 clear hb
 simp only [Act.put, List.setIfInBounds_toArray, List.set_cons_zero, List.set_cons_succ]
 have CC : Kd.string.C (W__16.alloc (.cells #[.string ⟨#[45, 53, 47, 50]⟩, .string ⟨#[48]⟩] 23)) (some ⟨W__16.heap.size, 0, none⟩) 2 [⟨#[45, 53, 47, 50]⟩, ⟨#[48]⟩] := CC
 generalize hgz : W__16.heap.size = gz25__ at *
 clear hgz
 generalize W__16.alloc (.cells #[.string ⟨#[45, 53, 47, 50]⟩, .string ⟨#[48]⟩] 23) = Wa25__ at *
 refine cl 26 84 hLine (line_ok (some ⟨gz25__, 0, none⟩) 2 2 ⟨#[51]⟩ Wa25__) ?_ (hd := by simp)
 rintro _ W__26 ⟨rfl, hb⟩
 replace hN0 := hNon _ _ hN0 hb
 replace CC := Kd.C_below CC hb
 refine ⟨_, rfl, hNS _ hN0, _, (by (simp only [Act.put, List.setIfInBounds_toArray, List.set_cons_zero, List.set_cons_succ]); rfl), ?_⟩
 clear hb
 refine cl 27 85 ⟨_, Tryz.func17, by kernel_rfl, rfl⟩ (Same_ok X7 (some ⟨gz25__, 0, none⟩) 2 2 d7 2 [⟨#[45, 53, 47, 50]⟩, ⟨#[48]⟩] ⟨#[51]⟩ W__26 (by rw [hNN.out] at hN0; exact ⟨hN0.2.2.2.2.2.2.1⟩) ⟨CC⟩ rfl rfl (by decide)) ?_ (hd := by simp)
 rintro _ W__27 ⟨rfl, hb⟩
 replace hN0 := hNon _ _ hN0 hb
 refine ⟨_, rfl, hNS _ hN0, _, (by (simp only [Act.put, List.setIfInBounds_toArray, List.set_cons_zero, List.set_cons_succ]); rfl), ?_⟩
 clear hb
 refine tp 28 86 ?_
 refine tp 29 87 ?_
 refine done_ (by kernel_rfl) ?_
 clear hNS
 go_upto_region 10 with (fail)
 obtain ⟨S1_, hS1_⟩ : ∃ S_ : World → Prop, Z0 (S_ = fun u => u.cell? ⟨g13, 0, none⟩ = some (.slice X13 2 d13) ∧ u.cell? ⟨g13, 1, none⟩ = some (.string ⟨#[52]⟩) ∧ u.cell? ⟨g15, 0, none⟩ = some (.slice X15 1 d15) ∧ u.cell? ⟨g15, 1, none⟩ = some (.string ⟨#[52]⟩)) := ⟨_, ⟨rfl⟩⟩
 have hNS : ∀ u, NN u → S1_ u := fun u h => by
  rw [hNN.out] at h
  obtain ⟨h1, h2, h3, h4, h5, h6, h7, h8, h9, h10⟩ := h
  rw [hS1_.out]
  exact ⟨(b2 ⟨h4⟩).1, (b2 ⟨h4⟩).2.1, (b2 ⟨h5⟩).1, (b2 ⟨h5⟩).2.1⟩
 have hN0' := hNon _ _ hN0 (Below.refl _ _).drew
 refine start_ (n := 24) (S := S1_) (ds := []) _ (by kernel_rfl) rfl rfl (hNS _ hN0') (fun _ => ?_)
 replace hN0 := hN0'
 clear hN0'
 generalize W__27.drew = U0 at *
 refine tp 0 88 ?_
 refine ev1 1 89 (v := .slice (some ⟨U0.heap.size, 0, none⟩) 2 2) (w1 := U0.alloc (.cells #[.string ⟨#[49]⟩, .string ⟨#[45, 54]⟩] 45)) ?hr1 ?_
 case hr1 => go_simp; try rfl
 have hb := below_alloc (Below.refl U0.heap.size U0) (.cells #[.string ⟨#[49]⟩, .string ⟨#[45, 54]⟩] 45)
 have CC := (litC U0 45 [⟨#[49]⟩, ⟨#[45, 54]⟩]).out
 replace hN0 := hNon _ _ hN0 hb
 refine ⟨hNS _ hN0, ?_⟩
 clear hb
 simp only [Act.put, List.setIfInBounds_toArray, List.set_cons_zero, List.set_cons_succ]
 have CC : Kd.string.C (U0.alloc (.cells #[.string ⟨#[49]⟩, .string ⟨#[45, 54]⟩] 45)) (some ⟨U0.heap.size, 0, none⟩) 2 [⟨#[49]⟩, ⟨#[45, 54]⟩] := CC
 generalize hgz : U0.heap.size = gz1__ at *
 clear hgz
 generalize U0.alloc (.cells #[.string ⟨#[49]⟩, .string ⟨#[45, 54]⟩] 45) = Ua1__ at *
 refine cl 2 90 ⟨_, Tryz.func39, by kernel_rfl, rfl⟩ (SameInts_ok X9 (some ⟨gz1__, 0, none⟩) 2 2 d9 2 [⟨#[49]⟩, ⟨#[45, 54]⟩] Ua1__ (by rw [hNN.out] at hN0; exact ⟨hN0.2.2.2.2.2.2.2.1⟩) ⟨CC⟩ rfl rfl (by decide)) ?_ (hd := by simp)
 rintro _ W__2 ⟨rfl, hb⟩
 replace hN0 := hNon _ _ hN0 hb
 refine ⟨_, rfl, hNS _ hN0, _, (by (simp only [Act.put, List.setIfInBounds_toArray, List.set_cons_zero, List.set_cons_succ]); rfl), ?_⟩
 clear hb
 refine tp 3 91 ?_
 refine tp 4 92 ?_
 refine tp 5 93 ?_
 refine tp 6 94 ?_
 refine tp 7 95 ?_
 refine tp 8 96 ?_
 refine tp 9 97 ?_
 refine tp 10 98 ?_
 refine tp 11 99 ?_
 refine tk 12 100 (v := .agg #[.slice X13 2 d13, .string ⟨#[52]⟩]) (hNS _ hN0) ?_ (hy := by refine Or.inl ⟨by rfl, ?_⟩; intro w' hs; rw [hS1_.out] at hs; obtain ⟨h0, h1, h2, h3⟩ := hs; go_simp; try with_reducible rfl)
 refine ev1 13 101 (v := .slice (some ⟨W__2.heap.size, 0, none⟩) 2 2) (w1 := W__2.alloc (.cells #[.string ⟨#[45, 51]⟩, .string ⟨#[49, 47, 50]⟩] 23)) ?hr13 ?_
 case hr13 => go_simp; try rfl
 have hb := below_alloc (Below.refl W__2.heap.size W__2) (.cells #[.string ⟨#[45, 51]⟩, .string ⟨#[49, 47, 50]⟩] 23)
 have CC := (litC W__2 23 [⟨#[45, 51]⟩, ⟨#[49, 47, 50]⟩]).out
 replace hN0 := hNon _ _ hN0 hb
 refine ⟨hNS _ hN0, ?_⟩
 clear hb
 simp only [Act.put, List.setIfInBounds_toArray, List.set_cons_zero, List.set_cons_succ]
 have CC : Kd.string.C (W__2.alloc (.cells #[.string ⟨#[45, 51]⟩, .string ⟨#[49, 47, 50]⟩] 23)) (some ⟨W__2.heap.size, 0, none⟩) 2 [⟨#[45, 51]⟩, ⟨#[49, 47, 50]⟩] := CC
 generalize hgz : W__2.heap.size = gz13__ at *
 clear hgz
 generalize W__2.alloc (.cells #[.string ⟨#[45, 51]⟩, .string ⟨#[49, 47, 50]⟩] 23) = Wa13__ at *
 refine cl 14 102 hLine (line_ok (some ⟨gz13__, 0, none⟩) 2 2 ⟨#[52]⟩ Wa13__) ?_ (hd := by simp)
 rintro _ W__14 ⟨rfl, hb⟩
 replace hN0 := hNon _ _ hN0 hb
 replace CC := Kd.C_below CC hb
 refine ⟨_, rfl, hNS _ hN0, _, (by (simp only [Act.put, List.setIfInBounds_toArray, List.set_cons_zero, List.set_cons_succ]); rfl), ?_⟩
 clear hb
 refine cl 15 103 ⟨_, Tryz.func17, by kernel_rfl, rfl⟩ (Same_ok X13 (some ⟨gz13__, 0, none⟩) 2 2 d13 2 [⟨#[45, 51]⟩, ⟨#[49, 47, 50]⟩] ⟨#[52]⟩ W__14 (by rw [hNN.out] at hN0; exact ⟨hN0.2.2.2.2.2.2.2.2.1⟩) ⟨CC⟩ rfl rfl (by decide)) ?_ (hd := by simp)
 rintro _ W__15 ⟨rfl, hb⟩
 replace hN0 := hNon _ _ hN0 hb
 refine ⟨_, rfl, hNS _ hN0, _, (by (simp only [Act.put, List.setIfInBounds_toArray, List.set_cons_zero, List.set_cons_succ]); rfl), ?_⟩
 clear hb
 refine tp 16 104 ?_
 refine tp 17 105 ?_
 refine tk 18 106 (v := .agg #[.slice X15 1 d15, .string ⟨#[52]⟩]) (hNS _ hN0) ?_ (hy := by refine Or.inl ⟨by rfl, ?_⟩; intro w' hs; rw [hS1_.out] at hs; obtain ⟨h0, h1, h2, h3⟩ := hs; go_simp; try with_reducible rfl)
 refine ev1 19 107 (v := .slice (some ⟨W__15.heap.size, 0, none⟩) 1 1) (w1 := W__15.alloc (.cells #[.string ⟨#[45, 53, 47, 50]⟩] 23)) ?hr19 ?_
 case hr19 => go_simp; try rfl
 have hb := below_alloc (Below.refl W__15.heap.size W__15) (.cells #[.string ⟨#[45, 53, 47, 50]⟩] 23)
 have CC := (litC W__15 23 [⟨#[45, 53, 47, 50]⟩]).out
 replace hN0 := hNon _ _ hN0 hb
 refine ⟨hNS _ hN0, ?_⟩
 clear hb
 simp only [Act.put, List.setIfInBounds_toArray, List.set_cons_zero, List.set_cons_succ]
 have CC : Kd.string.C (W__15.alloc (.cells #[.string ⟨#[45, 53, 47, 50]⟩] 23)) (some ⟨W__15.heap.size, 0, none⟩) 1 [⟨#[45, 53, 47, 50]⟩] := CC
 generalize hgz : W__15.heap.size = gz19__ at *
 clear hgz
 generalize W__15.alloc (.cells #[.string ⟨#[45, 53, 47, 50]⟩] 23) = Wa19__ at *
 refine cl 20 108 hLine (line_ok (some ⟨gz19__, 0, none⟩) 1 1 ⟨#[52]⟩ Wa19__) ?_ (hd := by simp)
 rintro _ W__20 ⟨rfl, hb⟩
 replace hN0 := hNon _ _ hN0 hb
 replace CC := Kd.C_below CC hb
 refine ⟨_, rfl, hNS _ hN0, _, (by (simp only [Act.put, List.setIfInBounds_toArray, List.set_cons_zero, List.set_cons_succ]); rfl), ?_⟩
 clear hb
 refine cl 21 109 ⟨_, Tryz.func17, by kernel_rfl, rfl⟩ (Same_ok X15 (some ⟨gz19__, 0, none⟩) 1 1 d15 1 [⟨#[45, 53, 47, 50]⟩] ⟨#[52]⟩ W__20 (by rw [hNN.out] at hN0; exact ⟨hN0.2.2.2.2.2.2.2.2.2⟩) ⟨CC⟩ rfl rfl (by decide)) ?_ (hd := by simp)
 rintro _ W__21 ⟨rfl, hb⟩
 replace hN0 := hNon _ _ hN0 hb
 refine ⟨_, rfl, hNS _ hN0, _, (by (simp only [Act.put, List.setIfInBounds_toArray, List.set_cons_zero, List.set_cons_succ]); rfl), ?_⟩
 clear hb
 refine tp 22 110 ?_
 refine tp 23 0 ?_
 refine done_ (by kernel_rfl) ?_
 rw [hNN.out] at hN0
 replace HB := Z0.mk hN0.1
 clear hNS hNon hN0 CC
 go_wp2
 go_ret
 exact ⟨rfl, HB.out⟩
instance nt_awake : Ctr 14 (type_of% @lawake_ok) := ⟨@lawake_ok, _, Tryz.func14, by kernel_rfl, rfl⟩
theorem trip3 (r : List ByteArray × ByteArray × Int) : ∃ l s z, r = (l, s, z) := ⟨_, _, _, rfl⟩
theorem of_fewB {l : List ByteArray} {s : ByteArray} (h : fewB l s = true) : l.length ≤ 40 ∧ s.size ≤ 450 ∧ ∀ x ∈ l, x.size ≤ 450 := by
 unfold fewB at h
 rw [Bool.and_eq_true, Bool.and_eq_true, List.all_eq_true] at h
 exact ⟨of_decide_eq_true h.1, of_decide_eq_true h.2.1, fun x hx => of_decide_eq_true (h.2.2 x hx)⟩
def rs_ : List Rat → Rat
 | [] => 0
 | a :: l => a + rs_ l
theorem fold_rs (l : List Rat) (c : Rat) : l.foldl (· + ·) c = c + rs_ l := by
 induction l generalizing c with
 | nil => rw [List.foldl_nil, rs_, Rat.add_zero]
 | cons a l ih => rw [List.foldl_cons, ih, rs_, Rat.add_assoc]
theorem rs_append (l m : List Rat) : rs_ (l ++ m) = rs_ l + rs_ m := by
 induction l with
 | nil => rw [List.nil_append, rs_, Rat.zero_add]
 | cons a l ih => rw [List.cons_append, rs_, rs_, ih, Rat.add_assoc]
theorem evR_rs (qs : List Rat) (q : Rat) (ps : List Rat) : evR qs q ps = q + rs_ (List.zipWith (· * ·) qs ps) := fold_rs _ _
theorem zip_add (qs rs ps : List Rat) (h : qs.length = rs.length) : rs_ (List.zipWith (· * ·) (List.zipWith (· + ·) qs rs) ps) = rs_ (List.zipWith (· * ·) qs ps) + rs_ (List.zipWith (· * ·) rs ps) := by
 induction qs generalizing rs ps with
 | nil =>
  cases rs with
  | nil => simp [rs_]; grind
  | cons r rs => cases h
 | cons a qs ih =>
  cases rs with
  | nil => cases h
  | cons r rs =>
   cases ps with
   | nil => simp [rs_]; grind
   | cons p ps =>
    simp only [List.zipWith_cons_cons, rs_]
    rw [ih rs ps (by simpa using h)]
    grind
theorem zip_mul (qs ps : List Rat) (c : Rat) : rs_ (List.zipWith (· * ·) (qs.map (· * c)) ps) = rs_ (List.zipWith (· * ·) qs ps) * c := by
 induction qs generalizing ps with
 | nil => simp [rs_]
 | cons a qs ih =>
  cases ps with
  | nil => simp [rs_]
  | cons p ps =>
   simp only [List.map_cons, List.zipWith_cons_cons, rs_]
   rw [ih ps]
   grind
theorem evR_add {qs rs ps : List Rat} {q r : Rat} (h : qs.length = rs.length) : evR (List.zipWith (· + ·) qs rs) (q + r) ps = evR qs q ps + evR rs r ps := by
 rw [evR_rs, evR_rs, evR_rs, zip_add qs rs ps h]
 grind
theorem evR_mul {qs ps : List Rat} {q c : Rat} : evR (qs.map (· * c)) (q * c) ps = evR qs q ps * c := by
 rw [evR_rs, evR_rs, zip_mul qs ps c]
 grind
theorem zip_set (qs ps : List Rat) (v : Rat) (i : Nat) (h : i < qs.length) (hl : qs.length = ps.length) : rs_ (List.zipWith (· * ·) qs (ps.set i v)) = rs_ (List.zipWith (· * ·) (qs.set i 0) ps) + qs.getD i 0 * v := by
 induction qs generalizing ps i with
 | nil => cases h
 | cons a qs ih =>
  cases ps with
  | nil => cases hl
  | cons p ps =>
   cases i with
   | zero =>
    simp only [List.set_cons_zero, List.zipWith_cons_cons, rs_, List.getD_cons_zero]
    grind
   | succ i =>
    simp only [List.set_cons_succ, List.zipWith_cons_cons, rs_, List.getD_cons_succ]
    rw [ih ps i (by simpa using h) (by simpa using hl)]
    grind
theorem evR_sub {qs rs ps : List Rat} {q r : Rat} (i : Nat) (h : i < qs.length) (h1 : qs.length = rs.length) (h2 : qs.length = ps.length) :
  evR (List.zipWith (· + ·) (qs.set i 0) (rs.map (· * qs.getD i 0))) (q + r * qs.getD i 0) ps = evR qs q (ps.set i (evR rs r ps)) := by
 rw [evR_rs, evR_rs, zip_add _ _ _ (by rw [List.length_set, List.length_map, h1]), zip_mul, zip_set qs ps _ i h h2, evR_rs rs r ps]
 grind
theorem lcmD_fold_dvd (L : List Rat) (d : Nat) : d ∣ L.foldl (fun d q => Nat.lcm d q.den) d := by
 induction L generalizing d with
 | nil => exact Nat.dvd_refl _
 | cons q L ih => exact Nat.dvd_trans (Nat.dvd_lcm_left _ _) (ih _)
theorem den_dvd (L : List Rat) (d : Nat) : ∀ c ∈ L, c.den ∣ L.foldl (fun d q => Nat.lcm d q.den) d := by
 induction L generalizing d with
 | nil => intro c h; cases h
 | cons q L ih =>
  intro c h
  rcases List.mem_cons.1 h with rfl | h
  · exact Nat.dvd_trans (Nat.dvd_lcm_right _ _) (lcmD_fold_dvd L _)
  · exact ih _ c h
theorem den_dvd_lcmD {L : List Rat} {c : Rat} (h : c ∈ L) : c.den ∣ lcmD L := den_dvd L 1 c h
theorem fold_dvd (L : List Rat) (d m : Nat) (hd : d ∣ m) (h : ∀ c ∈ L, c.den ∣ m) : L.foldl (fun d q => Nat.lcm d q.den) d ∣ m := by
 induction L generalizing d with
 | nil => exact hd
 | cons q L ih => exact ih _ (Nat.lcm_dvd hd (h q List.mem_cons_self)) fun c hc => h c (List.mem_cons_of_mem _ hc)
theorem lcmD_dvd {L : List Rat} {m : Nat} (h : ∀ c ∈ L, c.den ∣ m) : lcmD L ∣ m := fold_dvd L 1 m (Nat.one_dvd _) h
theorem int_den {c : Rat} {n : Int} (h : c = (n : Rat)) : c.den = 1 := by rw [h, Rat.den_intCast]
theorem mul_den (c : Rat) : c * (c.den : Rat) = (c.num : Rat) := by
 have h : mkRat c.num c.den * mkRat (c.den : Int) 1 = mkRat c.num 1 := by
  rw [Rat.mkRat_mul_mkRat, Nat.mul_one]
  have := Rat.mkRat_mul_right (n := c.num) (d := 1) c.den_nz
  rwa [Nat.one_mul] at this
 rw [Rat.mkRat_self, Rat.mkRat_one, Rat.mkRat_one] at h
 exact h
theorem mul_whole {c : Rat} {D : Nat} (h : c.den ∣ D) : (c * ((D : Nat) : Rat)).den = 1 := by
 obtain ⟨k, rfl⟩ := h
 refine int_den (n := c.num * (k : Int)) ?_
 have h1 : c * (c.den : Rat) = (c.num : Rat) := mul_den c
 rw [Rat.intCast_mul, ← h1, Rat.natCast_mul, ← Rat.mul_assoc]
 rfl
theorem whole_mul {c : Rat} {m : Nat} (h : (c * ((m : Nat) : Rat)).den = 1) : c.den ∣ m := by
 have h1 : c * (c.den : Rat) = (c.num : Rat) := mul_den c
 have h2 := eq_num h
 generalize (c * ((m : Nat) : Rat)).num = n at h2
 have h3 : ((c.num * (m : Int) : Int) : Rat) = ((n * (c.den : Int) : Int) : Rat) := by
  rw [Rat.intCast_mul, Rat.intCast_mul, ← h1, ← h2]
  show c * (c.den : Rat) * ((m : Nat) : Rat) = c * ((m : Nat) : Rat) * (c.den : Rat)
  grind
 have h4 : c.num * (m : Int) = n * (c.den : Int) := Rat.intCast_inj.1 h3
 have h5 : (c.den : Int) ∣ c.num * (m : Int) := ⟨n, by rw [h4, Int.mul_comm]⟩
 have h6 : c.den ∣ c.num.natAbs * m := by
  have := Int.natAbs_dvd_natAbs.2 h5
  rwa [Int.natAbs_mul, Int.natAbs_natCast, Int.natAbs_natCast] at this
 exact Nat.Coprime.dvd_of_dvd_mul_left c.reduced.symm h6
theorem not_less (L : List Rat) (D k : Nat) (hD : lcmD L = D) (hk : 1 < k) (less : Rat) (h : less * ((k : Nat) : Rat) = ((D : Nat) : Rat)) (h1 : less.den = 1) : ¬ ∀ c ∈ L, (c * less).den = 1 := fun hall => by
 have hDp : 0 < D := by rw [← hD]; exact lcmD_pos L
 have e1 := eq_num h1
 have h2 : ((less.num * (k : Int) : Int) : Rat) = (((D : Int) : Int) : Rat) := by
  rw [Rat.intCast_mul, ← e1]
  exact h
 have h3 : less.num * (k : Int) = (D : Int) := Rat.intCast_inj.1 h2
 have hp : 0 < less.num := by
  rcases Int.lt_or_le 0 less.num with h | h
  · exact h
  · have : less.num * (k : Int) ≤ 0 := Int.mul_nonpos_of_nonpos_of_nonneg h (by omega)
    omega
 obtain ⟨m, hm⟩ := Int.eq_ofNat_of_zero_le (Int.le_of_lt hp)
 have e2 : less = ((m : Nat) : Rat) := by rw [e1, hm]; rfl
 have hd : D ∣ m := by
  rw [← hD]
  refine lcmD_dvd fun c hc => whole_mul ?_
  rw [← e2]
  exact hall c hc
 have hm0 : 0 < m := by omega
 have hle := Nat.le_of_dvd hm0 hd
 have h5 : m * k = D := by
  rw [hm] at h3
  exact Int.ofNat.inj (show ((m * k : Nat) : Int) = (D : Int) by rw [Int.natCast_mul]; exact h3)
 have : m * 2 ≤ m * k := Nat.mul_le_mul_left m hk
 omega
set_option linter.unusedVariables false
set_option linter.unusedSimpArgs false
open Go.RowKit Go.Proofs.WWords Go.Proofs.WLast Go.Proofs.WMore
section
variable {P : Program} {ops : Array Oper} {Q : Exit → Act → World → Prop} {md : Region.Mode} {S : World → Prop} {ds : List Nat}
structure AFv (mk : Nat → Value) (n0 : Nat) (ob : Obj) (b : Bool) (x : Value) (w : World) : Prop where
  p : b = true → ∃ g, x = mk g ∧ n0 ≤ g ∧ w.heap[g]? = some ob
  n : n0 ≤ w.heap.size
theorem AFv.on {mk : Nat → Value} {n0 : Nat} {ob : Obj} {b : Bool} {x : Value} {w w' : World} (h : AFv mk n0 ob b x w) (hb : Below w.heap.size w w') : AFv mk n0 ob b x w' :=
 ⟨fun e => (by obtain ⟨g, e1, e2, e3⟩ := h.p e; exact ⟨g, e1, e2, (hb.block g (Array.getElem?_eq_some_iff.1 e3).1).trans e3⟩), Nat.le_trans h.n hb.size⟩
theorem AFv.keep {mk : Nat → Value} {n0 : Nat} {ob : Obj} {b : Bool} {x : Value} {w w' : World} (h : AFv mk n0 ob b x w) (hs : w.heap.size ≤ w'.heap.size) (hb : ∀ g : Nat, w.heap[g]? = some ob → w'.heap[g]? = some ob) : AFv mk n0 ob b x w' :=
 ⟨fun e => (by obtain ⟨g, e1, e2, e3⟩ := h.p e; exact ⟨g, e1, e2, hb g e3⟩), Nat.le_trans h.n hs⟩
theorem AFv.start {mk : Nat → Value} {n0 : Nat} {ob : Obj} {x : Value} {w : World} (h : n0 ≤ w.heap.size) : AFv mk n0 ob false x w := ⟨fun e => (by cases e), h⟩
theorem AFv.putp {mk : Nat → Value} {n0 : Nat} {ob : Obj} {x : Value} {w : World} (h : AFv mk n0 ob false x w) : AFv mk n0 ob true (mk w.heap.size) (w.alloc ob) :=
 ⟨fun _ => ⟨_, rfl, h.n, blk_new _ _⟩, (h.on (below_alloc (Below.refl _ _) ob)).n⟩
section
variable {mk : Nat → Value} {op : Oper} {dp : Tmp} {a0 : Act} {n n0 : Nat} {ob : Obj} {B : World → Prop}
theorem pendv (i : Nat) (p : Nat) (dp : Tmp) (a0 : Act) (l : Bool → Array Bool) {op : Oper}
  (hi : ∀ b x w, AFv mk n0 ob b x w → B w → wpOp P ops Q i (fun a' w' => (i ∉ ds → S w → S w') ∧ wpAnyLast P md ops Q S ds (n + pd b) ((l b).setIfInBounds i true) a' w') (a0.put (some dp) x) w)
  (hB : ∀ w w', B w → Below w.heap.size w w' → B w') (hS : ∀ w, B w → S w)
  (hop : ops[p]? = some op)
  (hp : ∀ (x : Value) w, (execOp (a0.put (some dp) x).eval op).run P w = .ok (.value (mk w.heap.size)) (w.alloc ob))
  (hr : ∀ b, ready1 md ops i p b (l b) = true)
  (hlp : (l false).setIfInBounds p true = l true)
  (hdp : op.dst = some dp)
  (hwp : ∀ a : Act, Region.wanted op (yielded ops a.tmps) = true) :
  ∀ b x w, AFv mk n0 ob b x w → B w → wpAnyLast P md ops Q S ds (n + 1 + pd b) (l b) (a0.put (some dp) x) w := by
 have kt : ∀ x w, AFv mk n0 ob true x w → B w → wpAnyLast P md ops Q S ds (n + 1 + pd true) (l true) (a0.put (some dp) x) w := by
  intro x w hJ hBw
  have h1 := hr true
  simp only [ready1, Bool.and_eq_true, List.all_eq_true, List.contains_iff_mem, Bool.or_eq_true, beq_iff_eq] at h1
  refine ⟨fun h0 => (by rw [h0] at h1; cases h1.1), fun j hj => ?_⟩
  rcases h1.2 j hj with rfl | ⟨-, hb⟩
  · exact hi true x w hJ hBw
  · cases hb
 intro b x w hJ hBw
 cases b with
 | true => exact kt x w hJ hBw
 | false =>
  have h1 := hr false
  simp only [ready1, Bool.and_eq_true, List.all_eq_true, List.contains_iff_mem, Bool.or_eq_true, beq_iff_eq] at h1
  refine ⟨fun h0 => (by rw [h0] at h1; cases h1.1), fun j hj => ?_⟩
  rcases h1.2 j hj with rfl | ⟨rfl, hb⟩
  · exact hi false x w hJ hBw
  · have e2 := hB _ _ hBw (below_alloc (Below.refl _ _) ob)
    refine wpOp_of hop ?_
    rw [if_pos (hwp _)]
    unfold Oper.wp
    rw [hp, Oper.upon_value, hdp, put_put, hlp]
    exact ⟨fun _ _ => hS _ e2, kt _ _ hJ.putp e2⟩
theorem pendvz_ (p : Nat) (dp : Tmp) (a0 : Act) (l : Bool → Array Bool) {op : Oper}
  (hi : ∀ x w, AFv mk n0 ob true x w → B w → wpAnyLast P md ops Q S ds n (l true) (a0.put (some dp) x) w)
  (hB : ∀ w w', B w → Below w.heap.size w w' → B w') (hS : ∀ w, B w → S w)
  (hop : ops[p]? = some op)
  (hp : ∀ (x : Value) w, (execOp (a0.put (some dp) x).eval op).run P w = .ok (.value (mk w.heap.size)) (w.alloc ob))
  (hr : ready1z md ops p (l false) = true)
  (hlp : (l false).setIfInBounds p true = l true)
  (hdp : op.dst = some dp)
  (hwp : ∀ a : Act, Region.wanted op (yielded ops a.tmps) = true) :
  ∀ b x w, AFv mk n0 ob b x w → B w → wpAnyLast P md ops Q S ds (n + pd b) (l b) (a0.put (some dp) x) w := by
 intro b x w hJ hBw
 cases b with
 | true => exact hi x w hJ hBw
 | false =>
  have h1 := hr
  simp only [ready1z, Bool.and_eq_true, List.any_eq_true, List.all_eq_true, beq_iff_eq] at h1
  refine ⟨fun h0 => (by rw [h0] at h1; obtain ⟨⟨_, h, -⟩, -⟩ := h1; cases h), fun j hj => ?_⟩
  obtain rfl := h1.2 j hj
  have e2 := hB _ _ hBw (below_alloc (Below.refl _ _) ob)
  refine wpOp_of hop ?_
  rw [if_pos (hwp _)]
  unfold Oper.wp
  rw [hp, Oper.upon_value, hdp, put_put, hlp]
  exact ⟨fun _ _ => hS _ e2, hi _ _ hJ.putp e2⟩
theorem pendvs {x : Value} {w : World} (dp : Tmp) (l : Bool → Array Bool) (i : Nat) (p : Nat) {op : Oper} {b : Bool} (hAF : AFv mk n0 ob b x w) (hBw : B w)
  (hi : ∀ b x w, AFv mk n0 ob b x w → B w → wpOp P ops Q i (fun a' w' => (i ∉ ds → S w → S w') ∧ wpAnyLast P md ops Q S ds (n + pd b) ((l b).setIfInBounds i true) a' w') (a0.put (some dp) x) w)
  (hB : ∀ w w', B w → Below w.heap.size w w' → B w') (hS : ∀ w, B w → S w)
  (h1 : a0.tmps[dp]? = some x := by rfl)
  (hop : ops[p]? = some op := by rfl)
  (hp : ∀ (x : Value) w, (execOp (a0.put (some dp) x).eval op).run P w = .ok (.value (mk w.heap.size)) (w.alloc ob) := by (intro x w; (try simp only [Act.put, List.setIfInBounds_toArray, List.set_cons_zero, List.set_cons_succ]); first | (go_simp; done) | (go_simp; rfl)))
  (hr : ∀ b, ready1 md ops i p b (l b) = true := by intro b; cases b <;> kernel_rfl)
  (hlp : (l false).setIfInBounds p true = l true := by rfl)
  (hdp : op.dst = some dp := by rfl)
  (hwp : ∀ a : Act, Region.wanted op (yielded ops a.tmps) = true := by intro a; rfl) : wpAnyLast P md ops Q S ds (n + 1 + pd b) (l b) a0 w := by
 have := pendv i p dp a0 l hi hB hS hop hp hr hlp hdp hwp b x w hAF hBw
 rw [as_put1 h1] at this
 exact this
theorem pendvz {x : Value} {w : World} (dp : Tmp) (l : Bool → Array Bool) (p : Nat) {op : Oper} {b : Bool} (hAF : AFv mk n0 ob b x w) (hBw : B w)
  (hi : ∀ x w, AFv mk n0 ob true x w → B w → wpAnyLast P md ops Q S ds n (l true) (a0.put (some dp) x) w)
  (hB : ∀ w w', B w → Below w.heap.size w w' → B w') (hS : ∀ w, B w → S w)
  (h1 : a0.tmps[dp]? = some x := by rfl)
  (hop : ops[p]? = some op := by rfl)
  (hp : ∀ (x : Value) w, (execOp (a0.put (some dp) x).eval op).run P w = .ok (.value (mk w.heap.size)) (w.alloc ob) := by (intro x w; (try simp only [Act.put, List.setIfInBounds_toArray, List.set_cons_zero, List.set_cons_succ]); first | (go_simp; done) | (go_simp; rfl)))
  (hr : ready1z md ops p (l false) = true := by kernel_rfl)
  (hlp : (l false).setIfInBounds p true = l true := by rfl)
  (hdp : op.dst = some dp := by rfl)
  (hwp : ∀ a : Act, Region.wanted op (yielded ops a.tmps) = true := by intro a; rfl) : wpAnyLast P md ops Q S ds (n + pd b) (l b) a0 w := by
 have := pendvz_ p dp a0 l hi hB hS hop hp hr hlp hdp hwp b x w hAF hBw
 rw [as_put1 h1] at this
 exact this
end
end
end Go.Proofs.YtihbebbabjklkaaGreatDoor.PA
namespace Go.Proofs.YtihbebbabjklkaaGreatDoor.Rb
set_option linter.unusedVariables false
open Go.ChangeShapes Go.WideShapes Go.ChangeAt Go.RowKit
theorem and_ {a b : Bool} (h : a = true) (k : b = true) : (a && b) = true := by rw [h, k]; rfl
theorem own : ownKnob Tryz.prog.godebug = none := by kernel_rfl
abbrev laid : List (String × DataW Unit) := Rows.linearSubstitutesRow.laid
theorem shaped (os : Os) (args : Array Value) : ((World.laidAll Tryz.prog os laid).forCall (fun _ _ => 0) ⟨#[], args, []⟩).Shaped Tryz.checked.prog := World.shaped_of_ZipB (by kernel_rfl) (by kernel_rfl)
theorem met (os : Os) (args : Array Value) : laidMetH Tryz.prog laid ((World.laidAll Tryz.prog os laid).forCall (fun _ _ => 0) ⟨#[], args, []⟩).memory := by
 rw [MakeChecks.laidMetH_plain _ _ _ (by kernel_rfl)]
 exact laidMet_laidAll _ (by kernel_rfl) (by kernel_rfl)
theorem gPow : Tryz.prog.globalNamed "internal/strconv.uint64pow10" = some 1 := by kernel_rfl
theorem tPow : (Tryz.prog.globals[1]?).map (·.type) = some 248 := by kernel_rfl
theorem dPow : (Rows.laid_internal_strconv_uint64pow10 : DataW Unit) = Lib.tabData .u64 Lib.pow10Tab := rfl
theorem of_laid {W : World} (h : laidMetH Tryz.prog laid W) : LaidW W := by
 rw [MakeChecks.laidMetH_plain _ _ _ (by kernel_rfl)] at h
 obtain ⟨_, ⟨_, _, _, _, _, _, _, _, _, _, ⟨_, _, _, _, _, _, _, _, _, _, ⟨g', t', cs, fuel, p, q, hg', ht', hvar, hd, _⟩, _⟩, _⟩, _⟩ := h
 obtain rfl := Option.some.inj (gPow.symm.trans hg')
 obtain rfl := Option.some.inj (tPow.symm.trans ht')
 unfold LaidW Lib.TabIs
 rw [hvar, ← Lib.cells_of_tab Tryz.underlying248 Tryz.underlying217 (by kernel_rfl) (by kernel_rfl) (dPow ▸ hd)]
end Go.Proofs.YtihbebbabjklkaaGreatDoor.Rb
namespace Go.Proofs.YtihbebbabjklkaaGreatDoor.Ro
set_option linter.unusedVariables false
open Go.ChangeShapes Go.WideShapes Go.ChangeAt Go.RowKit Go.Proofs.WWords Go.Proofs.WLast Go.Proofs.WMore
section
variable {H : Type} {enc : TypeId × Value → H} {P : Program} {W : World}
theorem maxLen_le : maxLen ≤ 9223372036854775807 := by unfold maxLen; decide
theorem cSl {fuel : Nat} {t e : TypeId} {cs : List Value} {x : DataW H × List MemPlace} (ht : P.underlying t = some (.slice e)) (he : P.underlying e = some .string) (hc : P.cellsOf e = 1) (h : DataW.trod enc P W 0 (fun _ => true) true fuel t cs = some x) :
  ∃ A c l, cs = [.slice A l.length c] ∧ l.length ≤ c ∧ Kd.string.C W A l.length l := by
 rcases Deep.open_strs ht he hc h with ⟨rfl, -⟩ | ⟨a, len, cap, m, Sx, rfl, -, hl, hm, hmm, -, hx⟩
 · exact ⟨none, 0, [], rfl, Nat.le_refl _, Kd.C_nil _ _⟩
 · have hlen : ((List.range len).map Sx).length = len := by rw [List.length_map, List.length_range]
   refine ⟨some a, cap, (List.range len).map Sx, by rw [hlen], by rw [hlen]; exact hl, ?_⟩
   rw [hlen]
   have := maxLen_le
   refine Kd.C_of_reads (d := ByteArray.empty) ⟨hlen, by omega, fun _ => ⟨a, rfl, fun j hj => ?_⟩⟩
   have h2 := (hx j (by rw [hmm]; simp; omega)).1
   rw [h2]
   simp [List.getD, hj]
theorem opLn {t ts te tc : TypeId} {n0 n1 : String} {e0 e1 : Bool} {g0 g1 k0 k1 : String} {b0 b1 : Nat} {v : Value} {d : DataW H} {p : List MemPlace}
  (ht : P.underlying t = some (.struct #[⟨n0, ts, 0, e0, g0, k0, b0⟩, ⟨n1, tc, 1, e1, g1, k1, b1⟩])) (hs : P.underlying ts = some (.slice te)) (he : P.underlying te = some .string) (hcs : P.underlying tc = some .string)
  (c0 : P.cellsOf t = 2) (c1 : P.cellsOf ts = 1) (c2 : P.cellsOf te = 1) (c3 : P.cellsOf tc = 1) (hval : Value.okWide P W .any 0 t v) (h : DataW.Trod enc P W 0 (fun _ => true) true t v d p) :
  ∃ A c l s, v = .agg #[.slice A l.length c, .string s] ∧ l.length ≤ c ∧ Kd.string.C W A l.length l := by
 obtain ⟨cs, rfl, hsz⟩ := okWide_struct ht hval
 obtain ⟨fuel, hf⟩ := h
 obtain ⟨y0, y1, n, -, hl, h0, h1⟩ := trod_struct2 ht hf
 obtain ⟨L⟩ := cs
 rw [c0] at hsz
 have hsz : L.length = 2 := hsz
 match L, hsz with
 | [a, b], _ =>
  have h0 : DataW.trod enc P W 0 (fun _ => true) true n ts ((([a, b] : List Value).drop 0).take (P.cellsOf ts)) = some y0 := h0
  have h1 : DataW.trod enc P W 0 (fun _ => true) true n tc ((([a, b] : List Value).drop 1).take (P.cellsOf tc)) = some y1 := h1
  rw [c1] at h0
  rw [c3] at h1
  have h0 : DataW.trod enc P W 0 (fun _ => true) true n ts [a] = some y0 := h0
  have h1 : DataW.trod enc P W 0 (fun _ => true) true n tc [b] = some y1 := h1
  obtain ⟨A, c, l, e, h2, h3⟩ := cSl hs he c2 h0
  obtain ⟨s, e', -⟩ := DataW.trod_string hcs h1
  injection e with e _
  injection e' with e' _
  rw [e, e']
  exact ⟨A, c, l, s, rfl, h2, h3⟩
end
theorem laidOut : laidOutB Tryz.prog = true := by kernel_rfl
end Go.Proofs.YtihbebbabjklkaaGreatDoor.Ro
namespace Go.Proofs.YtihbebbabjklkaaGreatDoor.PA
set_option linter.unusedVariables false
set_option linter.unusedSimpArgs false
open Go.RowKit Go.Shelf Go.Proofs.WWords Go.Proofs.WLast Go.Proofs.WMore
abbrev LinX := Option Addr × Nat × List ByteArray × ByteArray
def lcells (x : LinX) : List Value := [.slice x.1 x.2.2.1.length x.2.1, .string x.2.2.2]
noncomputable def rightB (pt : List ByteArray) (L : List LinX) : Bool := (L.all fun x => decide (x.2.2.1.length = pt.length) && decide (chkL x.2.2.1 x.2.2.2 = 0)) && decide (numsC pt = 0)
theorem of_rightB {pt : List ByteArray} {L : List LinX} (h : rightB pt L = true) : (∀ x ∈ L, x.2.2.1.length = pt.length ∧ chkL x.2.2.1 x.2.2.2 = 0) ∧ numsC pt = 0 := by
 unfold rightB at h
 rw [Bool.and_eq_true, List.all_eq_true] at h
 refine ⟨fun x hx => ?_, of_decide_eq_true h.2⟩
 have := h.1 x hx
 rw [Bool.and_eq_true] at this
 exact ⟨of_decide_eq_true this.1, of_decide_eq_true this.2⟩
theorem rightB_mk {pt : List ByteArray} {L : List LinX} (h : (∀ x ∈ L, x.2.2.1.length = pt.length ∧ chkL x.2.2.1 x.2.2.2 = 0) ∧ numsC pt = 0) : rightB pt L = true := by
 unfold rightB
 rw [Bool.and_eq_true, List.all_eq_true]
 refine ⟨fun x hx => ?_, decide_eq_true h.2⟩
 rw [Bool.and_eq_true]
 exact ⟨decide_eq_true (h.1 x hx).1, decide_eq_true (h.1 x hx).2⟩
theorem lcells_get (L : List LinX) (j : Nat) (h : j < L.length) : (L.flatMap lcells).toArray[j * 2]? = some (.slice L[j].1 L[j].2.2.1.length L[j].2.1) ∧ (L.flatMap lcells).toArray[j * 2 + 1]? = some (.string L[j].2.2.2) := by
 simp only [List.getElem?_toArray]
 induction L generalizing j with
 | nil => cases h
 | cons x L ih =>
  cases j with
  | zero => exact ⟨rfl, rfl⟩
  | succ j =>
   have := ih j (by simpa using h)
   rw [show (j + 1) * 2 = j * 2 + 2 by omega, show j * 2 + 2 + 1 = (j * 2 + 1) + 2 by omega]
   exact this
theorem right_ok (B : Option Addr) (c' : Nat) (pt : List ByteArray) (g : Nat) (L : List LinX) (b : Bool) (w : World) (hB : Z0 (w.heap[g]? = some (.cells (L.flatMap lcells).toArray 25 (0, 0)))) (hC : ∀ x ∈ L, Kd.string.C w x.1 x.2.2.1.length x.2.2.1) (hP : Z0 (Kd.string.C w B pt.length pt)) (hL0 : 0 < L.length) (hlen : L.length ≤ 100)
  (hO : ∀ x ∈ L, (∀ s ∈ x.2.2.1, s.size ≤ 10000000000) ∧ x.2.2.2.size ≤ 10000000000) (hOp : ∀ s ∈ pt, s.size ≤ 10000000000) (hb : Z0 (rightB pt L = b)) :
  Calls Tryz.prog 20 #[.slice B pt.length c', .slice (some ⟨g, 0, none⟩) L.length L.length] w fun e w' => e = .returned (.bool b) ∧ Below w.heap.size w w' := by
 have HB := Z0.mk (Below.refl w.heap.size w)
 have hu := Tryz.underlying25
 go_enter Tryz.func20, Tryz.ntmps20
 go_wp2
 go_loopw [9] (fun i wr => ∃ j : Nat, j ≤ L.length ∧ i = .int .i64 j ∧ Z0 (∀ k (h : k < L.length), k < j → L[k].2.2.1.length = pt.length ∧ chkL L[k].2.2.1 L[k].2.2.2 = 0) ∧ Z0 (Below w.heap.size w wr))
  (fun i _ => L.length - (Go.RowKit.intOf i).toNat)
 case atStart => exact ⟨0, by omega, rfl, ⟨fun k _ h => absurd h (by omega)⟩, HB⟩
 clear HB
 obtain ⟨j, hj, rfl, hok, HB⟩ := hrel
 rcases Nat.lt_or_ge j L.length with h4 | h4
 · have c4 : decide ((j : Int) < L.length) = true := decide_eq_true (by omega)
   have hBr := blk_below hB.out HB.out
   obtain ⟨x, hx⟩ : ∃ x, L[j] = x := ⟨_, rfl⟩
   have hxm : x ∈ L := by rw [← hx]; exact List.getElem_mem _
   have hg := lcells_get L j h4
   rw [hx] at hg
   have ci : (0 ≤ (j : Int)) = True := eq_true (by omega)
   have cj : ((j : Int) < L.length) = True := eq_true (by omega)
   have k0 : wr.cell? ⟨g, j * 2, none⟩ = some (.slice x.1 x.2.2.1.length x.2.1) := (blk_cell hBr (j * 2)).trans hg.1
   have k1 : wr.cell? ⟨g, j * 2 + 1, none⟩ = some (.string x.2.2.2) := (blk_cell hBr (j * 2 + 1)).trans hg.2
   obtain ⟨A, c, l, s⟩ := x
   have k0 : wr.cell? ⟨g, j * 2, none⟩ = some (.slice A l.length c) := k0
   have k1 : wr.cell? ⟨g, j * 2 + 1, none⟩ = some (.string s) := k1
   have CX := Z0.mk (Kd.C_below (hC _ hxm) HB.out)
   have CX : Z0 (Kd.string.C wr A l.length l) := CX
   have hO1 : ∀ s ∈ l, s.size ≤ 10000000000 := (hO _ hxm).1
   have hO2 : s.size ≤ 10000000000 := (hO _ hxm).2
   have hLj : Z0 (L[j] = (A, c, l, s)) := ⟨hx⟩
   have hno : ¬ (l.length = pt.length ∧ chkL l s = 0) → b = false := fun h => by
    rw [← hb.out]
    cases hr : rightB pt L with
    | false => rfl
    | true =>
     have := (of_rightB hr).1 _ hxm
     exact absurd this h
   replace hno := Z0.mk hno
   clear hBr hg hx
   go_upto_region 4 with ((with_reducible refine gd_ 6 rfl ?_); refine newL (.slice none 0 0) (.string ⟨#[]⟩) (.slice A l.length c) (.string s) ?_; intro g6 w6 hg6 B6 hb6; replace B6 := Z0.mk B6; replace CX := Z0.mk (Kd.C_below CX.out hb6); replace HB := fB HB hb6; clear hb6 hg6)
   obtain ⟨p0, p1, -, -⟩ := b2 B6
   by_cases h1 : l.length = pt.length
   · have c1 : ((l.length : Int) != pt.length) = false := by rw [h1]; exact bne_self_eq_false _
     replace h1 := Z0.mk h1
     obtain ⟨y, hy⟩ : ∃ y, Z0 (chkL l s = y) := ⟨_, ⟨rfl⟩⟩
     by_cases h2 : y = 0
     · subst h2
       go_wp2_with (go_at_call 22; refine (refCheck_ok A l.length c l s 0 _ CX rfl hO1 hO2 hy).mono ?_; rintro _ w' ⟨rfl, hb⟩; replace HB := fB HB hb; clear hb)
       refine ⟨⟨j + 1, by omega, by simp, ⟨fun k hk hkj => ?_⟩, HB⟩, by simp [Go.RowKit.intOf]; omega⟩
       rcases Nat.lt_or_ge k j with h | h
       · exact hok.out k hk h
       · obtain rfl : k = j := by omega
         rw [hLj.out]
         exact ⟨h1.out, hy.out⟩
     · have c2 : (y != 0) = true := bne_iff_ne.mpr h2
       obtain rfl : false = b := (hno.out (fun h => h2 (hy.out.symm.trans h.2))).symm
       go_wp2_with (go_at_call 22; refine (refCheck_ok A l.length c l s y _ CX rfl hO1 hO2 hy).mono ?_; rintro _ w' ⟨rfl, hb⟩; replace HB := fB HB hb; clear hb)
       go_ret
       exact ⟨rfl, HB.out⟩
   · have c1 : ((l.length : Int) != pt.length) = true := bne_iff_ne.mpr (by omega)
     obtain rfl : false = b := (hno.out (fun h => h1 h.1)).symm
     clear h1
     go_wp2
     go_ret
     exact ⟨rfl, HB.out⟩
 obtain rfl : j = L.length := by omega
 have c4 : decide ((L.length : Int) < L.length) = false := decide_eq_false (by omega)
 have hall : ∀ x ∈ L, x.2.2.1.length = pt.length ∧ chkL x.2.2.1 x.2.2.2 = 0 := fun x hx => by
  obtain ⟨k, hk, rfl⟩ := List.getElem_of_mem hx
  exact hok.out k hk hk
 have hp32 : pt.length ≤ 32 := by
  have := hall L[0] (List.getElem_mem hL0)
  rw [← this.1]
  exact (of_chkL this.2).1
 obtain ⟨y, hy⟩ : ∃ y, Z0 (numsC pt = y) := ⟨_, ⟨rfl⟩⟩
 have hm6 : pt.length ≤ 1000000 := by omega
 replace hP := Z0.mk (Kd.C_below hP.out HB.out)
 clear hok
 by_cases h2 : y = 0
 · subst h2
   obtain rfl : true = b := (rightB_mk ⟨hall, hy.out⟩).symm.trans hb.out
   clear hall hp32
   go_wp2_with (refine cG rfl ?_; intro w' hb; replace HB := fB HB hb; clear hb)
   go_ret
   exact ⟨rfl, HB.out⟩
 · have c2 : (y == 0) = false := beq_eq_false_iff_ne.mpr h2
   have hbf : b = false := by
    rw [← hb.out]
    cases hr : rightB pt L with
    | false => rfl
    | true => exact absurd (hy.out.symm.trans (of_rightB hr).2) h2
   subst hbf
   clear hall hp32
   go_wp2_with (refine cG rfl ?_; intro w' hb; replace HB := fB HB hb; clear hb)
   go_ret
   exact ⟨rfl, HB.out⟩
theorem sum_ok (p q : Rat) (w : World) (hL : LaidW w) (h : ndR p + ndR q + 1 ≤ 4096) :
  Calls Tryz.prog 33 #[.string (Sv.rtxt p), .string (Sv.rtxt q)] w fun e w' => e = .returned (.string (Sv.rtxt (p + q))) ∧ Below w.heap.size w w' := by
 have HB := Z0.mk (Below.refl w.heap.size w)
 obtain ⟨k, A⟩ := (addE p q h).as
 go_enter Tryz.func33, Tryz.ntmps33
 go_wp2_with (refine cG rfl ?_; intro w' hb; replace HB := fB HB hb; clear hb)
 go_ret
 exact ⟨rfl, HB.out⟩
section
variable {P : Program} {ops : Array Oper} {Q : Exit → Act → World → Prop} {rest : List Oper} {o : Oper} {a : Act} {W : World}
theorem valE {N : Tmp} (v : Value) (w1 : World) (K : ∀ w', w' = w1 → wpList P ops Q rest (a.put (some N) v) w') (hd : o.dst = some N := by rfl) (hg : o.guard = none := by rfl)
  (hr : Sem.run P (execOp a.eval o) W = Result.ok (Next.value v) w1 := by first | (go_simp; done) | (go_simp; rfl)) : wpList P ops Q (o :: rest) a W := by
  refine wpList_plain hg fun K' hK => ?_
  unfold Oper.wp
  rw [hr, Oper.upon_value, hd]
  exact hK _ _ (K _ rfl)
end
def sg (n s i : Nat) : Nat := (i + s) % n
def ta (n s i : Nat) : Nat := (i + n - s % n) % n
theorem sg_lt {n s i : Nat} (h : 0 < n) : sg n s i < n := Nat.mod_lt _ h
theorem ta_lt {n s i : Nat} (h : 0 < n) : ta n s i < n := Nat.mod_lt _ h
theorem ta_cases {n s i : Nat} (hi : i < n) : ta n s i = if i < s % n then i + n - s % n else i - s % n := by
 have h := Nat.mod_lt s (by omega : 0 < n)
 unfold ta
 split
 · rw [Nat.mod_eq_of_lt (by omega)]
 · rw [show i + n - s % n = (i - s % n) + n by omega, Nat.add_mod_right, Nat.mod_eq_of_lt (by omega)]
theorem sg_cases {n s i : Nat} (hi : i < n) : sg n s i = if i + s % n < n then i + s % n else i + s % n - n := by
 have h := Nat.mod_lt s (by omega : 0 < n)
 unfold sg
 rw [Nat.add_mod, Nat.mod_eq_of_lt hi]
 split
 · rw [Nat.mod_eq_of_lt (by omega)]
 · rw [show i + s % n = (i + s % n - n) + n by omega, Nat.add_mod_right, Nat.mod_eq_of_lt (by omega)]
   omega
theorem sg_ta {n s i : Nat} (hi : i < n) : sg n s (ta n s i) = i := by
 have h := Nat.mod_lt s (by omega : 0 < n)
 rw [sg_cases (ta_lt (by omega)), ta_cases hi]
 split <;> split <;> omega
theorem ta_sg {n s i : Nat} (hi : i < n) : ta n s (sg n s i) = i := by
 have h := Nat.mod_lt s (by omega : 0 < n)
 rw [ta_cases (sg_lt (by omega)), sg_cases hi]
 split <;> split <;> omega
theorem movA_turn (n : Nat) (S T : Nat → Nat) (hS : ∀ i, i < n → S i < n) (hT : ∀ i, i < n → T i < n) (h1 : ∀ i, i < n → S (T i) = i) (h2 : ∀ i, i < n → T (S i) = i) (tv : List Int) (htv : ∀ i, i < n → tv.getD i 0 = (S i : Int)) (qs : List Rat) (k : Nat) (hk : k ≤ n) :
  movA tv n qs k = (List.range n).map fun t => if T t < k then qs.getD (T t) 0 else 0 := by
 induction k with
 | zero =>
  show List.replicate n 0 = _
  apply List.ext_getElem
  · simp
  · intro i _ _; simp
 | succ k ih =>
  have ih := ih (by omega)
  rw [movA, htv k (by omega), Int.toNat_natCast]
  have hl := movA_length tv n qs k
  have hg : (movA tv n qs k).getD (S k) 0 = 0 := by
   rw [ih, List.getD_eq_getElem?_getD, List.getElem?_eq_getElem (by simpa using hS k (by omega))]
   simp [h2 k (by omega)]
  rw [hg, Rat.zero_add]
  apply List.ext_getElem
  · simp [hl]
  · intro t ht1 ht2
    have ht : t < n := by simpa [hl] using ht1
    rw [List.getElem_set]
    have e : (movA tv n qs k)[t]'(by rw [hl]; exact ht) = if T t < k then qs.getD (T t) 0 else 0 := by simp [ih]
    rw [List.getElem_map, List.getElem_range]
    by_cases hE : S k = t
    · rw [if_pos hE, ← hE, h2 k (by omega), if_pos (by omega)]
    · rw [if_neg hE, e]
      have hne : T t ≠ k := fun h => hE (by rw [← h, h1 t ht])
      by_cases hlt : T t < k
      · rw [if_pos hlt, if_pos (by omega)]
      · rw [if_neg hlt, if_neg (by omega)]
theorem range_getD (qs : List Rat) : (List.range qs.length).map (fun t => qs.getD t 0) = qs := by
 apply List.ext_getElem
 · simp
 · intro i h1 h2
   rw [List.getElem_map, List.getElem_range, List.getD_eq_getElem?_getD, List.getElem?_eq_getElem h2]
   rfl
theorem turn_there (n s : Nat) (hn : 0 < n) (tv : List Int) (htv : ∀ i, i < n → tv.getD i 0 = (sg n s i : Int)) (qs : List Rat) : movA tv n qs n = (List.range n).map fun t => qs.getD (ta n s t) 0 := by
 rw [movA_turn n (sg n s) (ta n s) (fun _ _ => sg_lt hn) (fun _ _ => ta_lt hn) (fun _ h => sg_ta h) (fun _ h => ta_sg h) tv htv qs n (Nat.le_refl _)]
 exact List.map_congr_left fun t ht => if_pos (ta_lt hn)
theorem turn_back (n s : Nat) (hn : 0 < n) (tv : List Int) (htv : ∀ i, i < n → tv.getD i 0 = (ta n s i : Int)) (qs : List Rat) (hl : qs.length = n) : movA tv n ((List.range n).map fun t => qs.getD (ta n s t) 0) n = qs := by
 rw [movA_turn n (ta n s) (sg n s) (fun _ _ => ta_lt hn) (fun _ _ => sg_lt hn) (fun _ h => ta_sg h) (fun _ h => sg_ta h) tv htv _ n (Nat.le_refl _)]
 conv => rhs; rw [← range_getD qs, hl]
 refine List.map_congr_left fun t ht => ?_
 have ht : t < n := List.mem_range.1 ht
 rw [if_pos (sg_lt hn), List.getD_eq_getElem?_getD, List.getElem?_eq_getElem (by simpa using sg_lt hn), Option.getD_some, List.getElem_map, List.getElem_range, ta_sg ht]
theorem zip_getD (qs ps : List Rat) (n : Nat) (h1 : qs.length = n) (h2 : ps.length = n) : List.zipWith (· * ·) qs ps = (List.range n).map fun t => qs.getD t 0 * ps.getD t 0 := by
 apply List.ext_getElem
 · simp [h1, h2]
 · intro i a b
   have hi : i < n := by simpa using b
   rw [List.getElem_zipWith, List.getElem_map, List.getElem_range, List.getD_eq_getElem?_getD, List.getD_eq_getElem?_getD, List.getElem?_eq_getElem (by omega), List.getElem?_eq_getElem (by omega)]
   rfl
theorem rs_turn (n s : Nat) (hn : 0 < n) (f : Nat → Rat) : rs_ ((List.range n).map fun t => f (ta n s t)) = rs_ ((List.range n).map f) := by
 have hm := Nat.mod_lt s hn
 obtain ⟨m, hm'⟩ : ∃ m, s % n = m := ⟨_, rfl⟩
 rw [hm'] at hm
 have e1 : (List.range n).map (fun t => f (ta n s t)) = (List.range m).map (fun t => f (n - m + t)) ++ (List.range (n - m)).map f := by
  conv => lhs; rw [show n = m + (n - m) by omega, List.range_add, List.map_append, List.map_map]
  congr 1
  · refine List.map_congr_left fun t ht => ?_
    have ht : t < m := List.mem_range.1 ht
    rw [show m + (n - m) = n by omega, ta_cases (by omega), hm', if_pos ht, show t + n - m = n - m + t by omega]
  · refine List.map_congr_left fun t ht => ?_
    have ht : t < n - m := List.mem_range.1 ht
    show f (ta (m + (n - m)) s (m + t)) = f t
    rw [show m + (n - m) = n by omega, ta_cases (by omega), hm', if_neg (by omega), show m + t - m = t by omega]
 have e2 : (List.range n).map f = (List.range (n - m)).map f ++ (List.range m).map (fun t => f (n - m + t)) := by
  conv => lhs; rw [show n = (n - m) + m by omega, List.range_add, List.map_append, List.map_map]
  rfl
 rw [e1, e2, rs_append, rs_append, Rat.add_comm]
theorem evR_turn (n s : Nat) (hn : 0 < n) (qs ps : List Rat) (q : Rat) (h1 : qs.length = n) (h2 : ps.length = n) :
  evR ((List.range n).map fun t => qs.getD (ta n s t) 0) q ((List.range n).map fun t => ps.getD (ta n s t) 0) = evR qs q ps := by
 rw [evR_rs, evR_rs, zip_getD qs ps n h1 h2, ← rs_turn n s hn]
 congr 2
 apply List.ext_getElem
 · simp
 · intro i a b; simp
end Go.Proofs.YtihbebbabjklkaaGreatDoor.PA
namespace Go.Proofs.YtihbebbabjklkaaGreatDoor.Ro
set_option linter.unusedVariables false
open Go.ChangeShapes Go.WideShapes Go.ChangeAt Go.RowKit Go.Proofs.WWords Go.Proofs.WLast Go.Proofs.WMore
section
variable {H : Type} {enc : TypeId × Value → H} {P : Program} {W : World}
theorem bulk_mem {d : DataW H} {l : List (DataW H)} (h : d ∈ l) : Rows.uptoBulk d ≤ Rows.uptoBulkAll l := by
 induction l with
 | nil => cases h
 | cons e l ih =>
  simp only [Rows.uptoBulkAll]
  rcases List.mem_cons.1 h with rfl | h
  · omega
  · have := ih h; omega
theorem cSlU {fuel : Nat} {t e : TypeId} {cs : List Value} {x : DataW H × List MemPlace} (ht : P.underlying t = some (.slice e)) (he : P.underlying e = some .string) (hc : P.cellsOf e = 1) (h : DataW.trod enc P W 0 (fun _ => true) true fuel t cs = some x) :
  ∃ A c l, cs = [.slice A l.length c] ∧ l.length ≤ c ∧ Kd.string.C W A l.length l ∧ ∀ s ∈ l, s.size ≤ Rows.uptoBulk x.1 := by
 rcases Deep.open_strs ht he hc h with ⟨rfl, -⟩ | ⟨a, len, cap, m, Sx, rfl, -, hl, hm, hmm, hx1, hx⟩
 · exact ⟨none, 0, [], rfl, Nat.le_refl _, Kd.C_nil _ _, fun _ h => by cases h⟩
 · have hlen : ((List.range len).map Sx).length = len := by rw [List.length_map, List.length_range]
   refine ⟨some a, cap, (List.range len).map Sx, by rw [hlen], by rw [hlen]; exact hl, ?_, ?_⟩
   · rw [hlen]
     have := maxLen_le
     refine Kd.C_of_reads (d := ByteArray.empty) ⟨hlen, by omega, fun _ => ⟨a, rfl, fun j hj => ?_⟩⟩
     have h2 := (hx j (by rw [hmm]; simp; omega)).1
     rw [h2]
     simp [List.getD, hj]
   · intro s hs
     obtain ⟨i, hi, rfl⟩ := List.mem_map.1 hs
     rw [hx1]
     have h3 : (DataW.lit (H := H) (.string (Sx i).data.toList)) ∈ (List.range len).map fun i => DataW.lit (H := H) (.string (Sx i).data.toList) := List.mem_map.2 ⟨i, hi, rfl⟩
     have h4 := bulk_mem h3
     simp only [Rows.uptoBulk] at h4 ⊢
     have h5 : (Sx i).data.toList.length = (Sx i).size := Array.length_toList
     omega
theorem opSlU {t e : TypeId} {v : Value} {d : DataW H} {p : List MemPlace} (ht : P.underlying t = some (.slice e)) (he : P.underlying e = some .string) (hc : P.cellsOf e = 1) (hval : Value.okWide P W .any 0 t v) (h : DataW.Trod enc P W 0 (fun _ => true) true t v d p) :
  ∃ A c l, v = .slice A l.length c ∧ l.length ≤ c ∧ Kd.string.C W A l.length l ∧ ∀ s ∈ l, s.size ≤ Rows.uptoBulk d := by
 obtain ⟨a, n, c, rfl⟩ := okWide_slice ht hval
 obtain ⟨fuel, hf⟩ := h
 obtain ⟨A, c', l, e1, h1, h2, h3⟩ := cSlU ht he hc hf
 have e1 : [Value.slice a n c] = [Value.slice A l.length c'] := e1
 injection e1 with e1 _
 rw [e1]
 exact ⟨A, c', l, rfl, h1, h2, h3⟩
theorem opLnU {t ts te tc : TypeId} {n0 n1 : String} {e0 e1 : Bool} {g0 g1 k0 k1 : String} {b0 b1 : Nat} {v : Value} {d : DataW H} {p : List MemPlace}
  (ht : P.underlying t = some (.struct #[⟨n0, ts, 0, e0, g0, k0, b0⟩, ⟨n1, tc, 1, e1, g1, k1, b1⟩])) (hs : P.underlying ts = some (.slice te)) (he : P.underlying te = some .string) (hcs : P.underlying tc = some .string)
  (c0 : P.cellsOf t = 2) (c1 : P.cellsOf ts = 1) (c2 : P.cellsOf te = 1) (c3 : P.cellsOf tc = 1) (hval : Value.okWide P W .any 0 t v) (h : DataW.Trod enc P W 0 (fun _ => true) true t v d p) :
  ∃ A c l s, v = .agg #[.slice A l.length c, .string s] ∧ l.length ≤ c ∧ Kd.string.C W A l.length l ∧ (∀ s ∈ l, s.size ≤ Rows.uptoBulk d) ∧ s.size ≤ Rows.uptoBulk d := by
 obtain ⟨cs, rfl, hsz⟩ := okWide_struct ht hval
 obtain ⟨fuel, hf⟩ := h
 obtain ⟨y0, y1, n, hd, hl, h0, h1⟩ := trod_struct2 ht hf
 obtain ⟨L⟩ := cs
 rw [c0] at hsz
 have hsz : L.length = 2 := hsz
 match L, hsz with
 | [a, b], _ =>
  have h0 : DataW.trod enc P W 0 (fun _ => true) true n ts ((([a, b] : List Value).drop 0).take (P.cellsOf ts)) = some y0 := h0
  have h1 : DataW.trod enc P W 0 (fun _ => true) true n tc ((([a, b] : List Value).drop 1).take (P.cellsOf tc)) = some y1 := h1
  rw [c1] at h0
  rw [c3] at h1
  have h0 : DataW.trod enc P W 0 (fun _ => true) true n ts [a] = some y0 := h0
  have h1 : DataW.trod enc P W 0 (fun _ => true) true n tc [b] = some y1 := h1
  obtain ⟨A, c, l, e, h2, h3, h4⟩ := cSlU hs he c2 h0
  obtain ⟨s, e', e2, -⟩ := DataW.trod_string hcs h1
  injection e with e _
  injection e' with e' _
  rw [e, e']
  have hd1 : d = .agg [y0.1, y1.1] := congrArg Prod.fst hd
  have hb : Rows.uptoBulk d = Rows.uptoBulk y0.1 + (Rows.uptoBulk y1.1 + 0) + 1 := by rw [hd1]; rfl
  refine ⟨A, c, l, s, rfl, h2, h3, fun s hs => Nat.le_trans (h4 s hs) (by omega), ?_⟩
  have h5 : s.data.toList.length = s.size := Array.length_toList
  have h6 : Rows.uptoBulk y1.1 = s.data.toList.length + 1 := by rw [e2]; rfl
  omega
theorem bound {l : List (DataW H)} (hk : Rows.uptoSmall H l = true) : Rows.uptoBulkAll l ≤ 1048576 := of_decide_eq_true hk
theorem bound_at {l : List (DataW H)} (hk : Rows.uptoSmall H l = true) {d : DataW H} (h : d ∈ l) {n : Nat} (hn : n ≤ Rows.uptoBulk d) : n ≤ 1048576 := Nat.le_trans hn (Nat.le_trans (bulk_mem h) (bound hk))
theorem witness {C : Checked} {os : Os} {f : FuncId} {fn : Func} {s : OpenSpec} {conds : List PathCond} {apart : Bool} {laid : List (String × DataW Unit)} (w0 : World) (args : Array Value) (hos : w0.os = os)
  (hsh : (w0.forCall (fun _ _ => 0) ⟨#[], args, []⟩).Shaped C.prog) (hok : Input.okWideB C.prog (w0.forCall (fun _ _ => 0) ⟨#[], args, []⟩) f ⟨#[], args, []⟩ = true)
  (hrow : s.preRow enc C.prog fn conds apart laid (w0.forCall (fun _ _ => 0) ⟨#[], args, []⟩).memory args) :
  ∃ (w : World) (tape : Tape) (i : Input), w.os = os ∧ (w.forCall tape i).Shaped C.prog ∧ i.vars = [] ∧ Input.okWide C.prog (w.forCall tape i) .any w.heap.size f i ∧
   s.preRow enc C.prog fn conds apart laid (w.forCall tape i).memory i.args ∧ ({} : Assume).holds C.prog (lone (Frame.enter C.prog f i.args .normal) [] (w.forCall tape i)) :=
 ⟨w0, fun _ _ => 0, ⟨#[], args, []⟩, hos, hsh, (Input.okWide_of_okWideB (base := 0) hok).1, (Input.okWide_of_okWideB hok).2, hrow, by
  simp only [Assume.holds]
  exact ⟨by simp, by simp, fun _ => Modest.zero, by simp, by simp⟩⟩
end
end Go.Proofs.YtihbebbabjklkaaGreatDoor.Ro
