import Derived.Test.YtihbebbabjklkaaGreatDoorAG10
set_option maxHeartbeats 8000000
set_option maxRecDepth 100000
set_option linter.unusedVariables false
set_option linter.unusedVariables false
set_option linter.unusedSimpArgs false
namespace Go.Proofs.YtihbebbabjklkaaGreatDoor.PA
open Go.RowKit Go.Shelf Go.Proofs.WWords Go.Proofs.WLast Go.Proofs.WMore
theorem fin_cases (qs : List Rat) (q : Rat) {la : List ByteArray} {sa : ByteArray} {za : Int} (h : fin qs q = (la, sa, za)) : (za = 0 ∧ fine qs q ∧ la = qs.map Sv.rtxt ∧ sa = Sv.rtxt q) ∨ za = 10 := by
 rcases Classical.em (fine qs q) with hf | hf
 · rw [fin_pos hf] at h; cases h; exact .inl ⟨rfl, hf, rfl, rfl⟩
 · rw [fin_neg hf] at h; cases h; exact .inr rfl
theorem ev_cases (X : Rat) {v : ByteArray} {z : Int} (h : (if ndR X ≤ 100 then (Sv.rtxt X, (0 : Int)) else (⟨#[]⟩, 10)) = (v, z)) : (z = 0 ∧ ndR X ≤ 100 ∧ v = Sv.rtxt X) ∨ z = 10 := by
 by_cases hx : ndR X ≤ 100
 · rw [if_pos hx] at h; cases h; exact .inl ⟨rfl, hx, rfl⟩
 · rw [if_neg hx] at h; cases h; exact .inr rfl
theorem LinReplaces_true (A0 : Option Addr) (c0 : Nat) (l0 : List ByteArray) (s0 : ByteArray) (A1 : Option Addr) (c1 : Nat) (l1 : List ByteArray) (s1 : ByteArray) (A2 : Option Addr) (c2 : Nat) (l2 : List ByteArray) (w : World) (hL : LaidW w) (w0 : l0.length ≤ c0) (C0 : Z0 (Kd.string.C w A0 l0.length l0)) (w1 : l1.length ≤ c1) (C1 : Z0 (Kd.string.C w A1 l1.length l1)) (w2 : l2.length ≤ c2) (C2 : Z0 (Kd.string.C w A2 l2.length l2))
  (k0 : (∀ s ∈ l0, s.size ≤ 1048576) ∧ s0.size ≤ 1048576) (k1 : (∀ s ∈ l1, s.size ≤ 1048576) ∧ s1.size ≤ 1048576) (k2 : ∀ s ∈ l2, s.size ≤ 1048576) :
  Calls Tryz.prog 5 #[.agg #[.slice A0 l0.length c0, .string s0], .agg #[.slice A1 l1.length c1, .string s1], .slice A2 l2.length c2] w fun e w' => e = .returned (.bool true) ∧ Below w.heap.size w w' := by
 have HB := Z0.mk (Below.refl w.heap.size w)
 have hu := Tryz.underlying25
 have ht := Tryz.underlying22
 obtain ⟨b, hb⟩ : ∃ b, Z0 (rightB l2 [(A0, c0, l0, s0), (A1, c1, l1, s1)] = b) := ⟨_, ⟨rfl⟩⟩
 have hO : ∀ x ∈ [((A0, c0, l0, s0) : LinX), (A1, c1, l1, s1)], (∀ s ∈ x.2.2.1, s.size ≤ 10000000000) ∧ x.2.2.2.size ≤ 10000000000 := fun x hx => by
  rcases List.mem_cons.1 hx with rfl | hx
  · exact ⟨fun s hs => by have := k0.1 s hs; omega, by have := k0.2; show s0.size ≤ _; omega⟩
  · rw [List.mem_singleton.1 hx]
    exact ⟨fun s hs => by have := k1.1 s hs; omega, by have := k1.2; show s1.size ≤ _; omega⟩
 have hOp : ∀ s ∈ l2, s.size ≤ 10000000000 := fun s hs => by have := k2 s hs; omega
 have D0 := C0
 have D1 := C1
 have D2 := C2
 clear k0 k1 k2
 go_enter Tryz.func5, Tryz.ntmps5
 go_upto_region 1 with (fail)
 refine al2 ?_
 intro W hb' B0 B1
 replace C0 := Z0.mk (Kd.C_below C0.out hb')
 replace C1 := Z0.mk (Kd.C_below C1.out hb')
 replace C2 := Z0.mk (Kd.C_below C2.out hb')
 replace HB := fB HB hb'
 clear hb'
 obtain ⟨p0, p1, -, -⟩ := b2 B0
 obtain ⟨q0, q1, -, -⟩ := b2 B1
 cases b with
 | false =>
  go_wp2_with (first
   | ((with_reducible refine gd_ 20 rfl ?_); refine valE (.slice (some ⟨W.heap.size, 0, none⟩) 2 2) (W.alloc (.cells #[.slice A0 l0.length c0, .string s0, .slice A1 l1.length c1, .string s1] 25)) ?_; intro w1 hw1; have hbx := below_alloc (Below.refl W.heap.size W) (.cells #[.slice A0 l0.length c0, .string s0, .slice A1 l1.length c1, .string s1] 25); have BX := Z0.mk (blk_new W (.cells #[.slice A0 l0.length c0, .string s0, .slice A1 l1.length c1, .string s1] 25)); rw [← hw1] at hbx BX; clear hw1;  replace C0 := Z0.mk (Kd.C_below C0.out hbx); replace C1 := Z0.mk (Kd.C_below C1.out hbx); replace C2 := Z0.mk (Kd.C_below C2.out hbx); replace HB := fB HB hbx; clear hbx p0 p1 q0 q1)
   | ((with_reducible refine gc_ 20 rfl ?_); refine gL 21 Tryz.func20 (right_ok A2 c2 l2 W.heap.size [(A0, c0, l0, s0), (A1, c1, l1, s1)] _ _ BX (fun x hx => by rcases List.mem_cons.1 hx with rfl | hx; exact C0.out; rw [List.mem_singleton.1 hx]; exact C1.out) C2 (by simp) (by simp) hO hOp hb) ?_; rintro _ w' ⟨rfl, hb⟩; refine ⟨_, rfl, ?_⟩; clear BX; replace HB := fB HB hb; clear hb)
   | (refine cG rfl ?_; intro w' hb; replace HB := fB HB hb; clear hb))
  go_ret
  exact ⟨rfl, HB.out⟩
 | true =>
 by_cases hz : l2.length = 0
 · have cz : ((l2.length : Int) == 0) = true := beq_iff_eq.mpr (by omega)
   clear hz
   go_wp2_with (first
    | ((with_reducible refine gd_ 20 rfl ?_); refine valE (.slice (some ⟨W.heap.size, 0, none⟩) 2 2) (W.alloc (.cells #[.slice A0 l0.length c0, .string s0, .slice A1 l1.length c1, .string s1] 25)) ?_; intro w1 hw1; have hbx := below_alloc (Below.refl W.heap.size W) (.cells #[.slice A0 l0.length c0, .string s0, .slice A1 l1.length c1, .string s1] 25); have BX := Z0.mk (blk_new W (.cells #[.slice A0 l0.length c0, .string s0, .slice A1 l1.length c1, .string s1] 25)); rw [← hw1] at hbx BX; clear hw1;  replace C0 := Z0.mk (Kd.C_below C0.out hbx); replace C1 := Z0.mk (Kd.C_below C1.out hbx); replace C2 := Z0.mk (Kd.C_below C2.out hbx); replace HB := fB HB hbx; clear hbx p0 p1 q0 q1)
    | ((with_reducible refine gc_ 20 rfl ?_); refine gL 21 Tryz.func20 (right_ok A2 c2 l2 W.heap.size [(A0, c0, l0, s0), (A1, c1, l1, s1)] _ _ BX (fun x hx => by rcases List.mem_cons.1 hx with rfl | hx; exact C0.out; rw [List.mem_singleton.1 hx]; exact C1.out) C2 (by simp) (by simp) hO hOp hb) ?_; rintro _ w' ⟨rfl, hb⟩; refine ⟨_, rfl, ?_⟩; clear BX; replace HB := fB HB hb; clear hb)
    | (refine cG rfl ?_; intro w' hb; replace HB := fB HB hb; clear hb))
   go_ret
   exact ⟨rfl, HB.out⟩
 have cz : ((l2.length : Int) == 0) = false := beq_eq_false_iff_ne.mpr (by omega)
 replace hz := Z0.mk hz
 go_upto_region 3 with (first
   | ((with_reducible refine gd_ 20 rfl ?_); refine valE (.slice (some ⟨W.heap.size, 0, none⟩) 2 2) (W.alloc (.cells #[.slice A0 l0.length c0, .string s0, .slice A1 l1.length c1, .string s1] 25)) ?_; intro w1 hw1; have hbx := below_alloc (Below.refl W.heap.size W) (.cells #[.slice A0 l0.length c0, .string s0, .slice A1 l1.length c1, .string s1] 25); have BX := Z0.mk (blk_new W (.cells #[.slice A0 l0.length c0, .string s0, .slice A1 l1.length c1, .string s1] 25)); rw [← hw1] at hbx BX; clear hw1; replace B0 := fk B0 hbx; replace B1 := fk B1 hbx; replace C0 := Z0.mk (Kd.C_below C0.out hbx); replace C1 := Z0.mk (Kd.C_below C1.out hbx); replace C2 := Z0.mk (Kd.C_below C2.out hbx); replace HB := fB HB hbx; clear hbx p0 p1 q0 q1; obtain ⟨p0, p1, -, -⟩ := b2 B0; obtain ⟨q0, q1, -, -⟩ := b2 B1)
   | ((with_reducible refine gc_ 20 rfl ?_); refine gL 21 Tryz.func20 (right_ok A2 c2 l2 W.heap.size [(A0, c0, l0, s0), (A1, c1, l1, s1)] _ _ BX (fun x hx => by rcases List.mem_cons.1 hx with rfl | hx; exact C0.out; rw [List.mem_singleton.1 hx]; exact C1.out) C2 (by simp) (by simp) hO hOp hb) ?_; rintro _ w' ⟨rfl, hb⟩; refine ⟨_, rfl, ?_⟩; clear BX; replace B0 := fk B0 hb; replace B1 := fk B1 hb; replace HB := fB HB hb; clear hb p0 p1 q0 q1; obtain ⟨p0, p1, -, -⟩ := b2 B0; obtain ⟨q0, q1, -, -⟩ := b2 B1))
 obtain ⟨hR, hN⟩ := of_rightB hb.out
 obtain ⟨hl0, hc0⟩ := hR _ List.mem_cons_self
 obtain ⟨hl1, hc1⟩ := hR _ (List.mem_cons_of_mem _ List.mem_cons_self)
 obtain ⟨a0, qs, q, rfl, rfl, hq, hq1⟩ := of_chkL hc0
 obtain ⟨a1, rs, r, rfl, rfl, hr, hr1⟩ := of_chkL hc1
 obtain ⟨ps, rfl, hp⟩ := of_numsC hN
 have f0 : fine qs q := ⟨by simpa using a0, hq, hq1⟩
 have f1 : fine rs r := ⟨by simpa using a1, hr, hr1⟩
 have hl0 : qs.length = ps.length := by simpa using hl0
 have hl1 : rs.length = ps.length := by simpa using hl1
 have o0 : ∀ s ∈ qs.map Sv.rtxt, Okt s := okt_map fun x hx => by have := hq x hx; omega
 have o1 : ∀ s ∈ rs.map Sv.rtxt, Okt s := okt_map fun x hx => by have := hr x hx; omega
 have o2 : ∀ s ∈ ps.map Sv.rtxt, Okt s := okt_map fun x hx => by have := hp x hx; omega
 have o3 : Okt (Sv.rtxt q) := Okt.q (by omega)
 have o4 : Okt (Sv.rtxt r) := Okt.q (by omega)
 have m0 : (qs.map Sv.rtxt).length ≤ 1000 := by rw [List.length_map]; have := f0.1; omega
 have m1 : (rs.map Sv.rtxt).length ≤ 1000 := by rw [List.length_map]; have := f1.1; omega
 have m2 : (ps.map Sv.rtxt).length ≤ 1000 := by rw [List.length_map, ← hl0]; have := f0.1; omega
 clear hO hOp hb
 obtain ⟨n0, hn0⟩ : ∃ n, (qs.map Sv.rtxt).length = n := ⟨_, rfl⟩
 obtain ⟨n1, hn1⟩ : ∃ n, (rs.map Sv.rtxt).length = n := ⟨_, rfl⟩
 obtain ⟨n2, hn2⟩ : ∃ n, (ps.map Sv.rtxt).length = n := ⟨_, rfl⟩
 rw [hn0] at D0 B0 m0
 rw [hn1] at D1 B1 m1
 rw [hn2] at D2 m2
 simp only [hn0, hn1, hn2]
 have e2 : n2 = ps.length := by rw [← hn2, List.length_map]
 replace hn0 := Z0.mk hn0.symm
 replace hn1 := Z0.mk hn1.symm
 replace hn2 := Z0.mk hn2.symm
 obtain ⟨V, hV⟩ : ∃ V, evR rs r ps = V := ⟨_, rfl⟩
 have E1 := evalS_map (ps := ps) f1 hp hl1.symm
 rw [hV] at E1
 obtain ⟨vv, zv, hvv⟩ : ∃ v z, (if ndR V ≤ 100 then (Sv.rtxt V, (0 : Int)) else (⟨#[]⟩, 10)) = (v, z) := ⟨_, _, rfl⟩
 have dV := ev_cases V hvv
 rw [hvv] at E1
 clear hvv hR hN hc0 hc1 a0 a1 C0 C1 C2 cz p0 p1 q0 q1
 replace E1 := Z0.mk E1
 replace hl0 := Z0.mk hl0
 replace hl1 := Z0.mk hl1
 replace hV := Z0.mk hV
 replace dV := Z0.mk dV
 replace e2 := Z0.mk e2
 go_wp2
 go_loopw [31] (fun i wr => ∃ j : Nat, j ≤ n2 ∧ i = .int .i64 j ∧ Z0 (wr.heap[w.heap.size]? = some (.cells #[.slice A0 n0 c0, .string (Sv.rtxt q)] 25 (0, 0))) ∧ Z0 (wr.heap[w.heap.size + 1]? = some (.cells #[.slice A1 n1 c1, .string (Sv.rtxt r)] 25 (0, 0))) ∧ Z0 (Below w.heap.size w wr))
  (fun i _ => n2 - (Go.RowKit.intOf i).toNat)
 case atStart => exact ⟨0, by omega, rfl, B0, B1, HB⟩
 clear B0 B1 HB
 obtain ⟨j, hj, rfl, B0, B1, HB⟩ := hrel
 rcases Nat.lt_or_ge j n2 with h4 | h4
 case inr =>
  obtain rfl : j = n2 := by omega
  have c4 : decide ((j : Int) < j) = false := decide_eq_false (by omega)
  go_wp2_with (refine cG rfl ?_; intro w' hb; replace HB := fB HB hb; clear hb)
  go_ret
  exact ⟨rfl, HB.out⟩
 have c4 : decide ((j : Int) < n2) = true := decide_eq_true (by omega)
 have hjp : j < ps.length := by have := e2.out; omega
 have hjq : j < qs.length := by have := hl0.out; omega
 have E2 := subS_map f0 f1 (hl0.out.trans hl1.out.symm) j hjq
 obtain ⟨la, sa, za, hA⟩ := trip3 (fin (List.zipWith (· + ·) (qs.set j 0) (rs.map (· * qs.getD j 0))) (q + r * qs.getD j 0))
 have dA := fin_cases _ _ hA
 rw [hA] at E2
 clear hA
 replace E2 := Z0.mk E2
 replace dA := Z0.mk dA
 have T2 := fun (w' : World) (hL : LaidW w') (C0 : Z0 (Kd.string.C w' A0 n0 (qs.map Sv.rtxt))) (C1 : Z0 (Kd.string.C w' A1 n1 (rs.map Sv.rtxt))) => (Substitute_ok A0 A1 n0 c0 n1 c1 j (qs.map Sv.rtxt) (rs.map Sv.rtxt) (Sv.rtxt q) (Sv.rtxt r) w' hL C0 C1 hn0.out hn1.out m0 m1 o0 o1 o3 o4).mono fun e w' h => h.v E2.out rfl
 obtain ⟨p0, p1, -, -⟩ := b2 B0
 obtain ⟨q0, q1, -, -⟩ := b2 B1
 go_upto_region 7 with (first
  | ((with_reducible refine gc_ 15 rfl ?_); refine gL 38 Tryz.func15 (T2 _ (hL.below HB.out) ⟨Kd.C_below D0.out HB.out⟩ ⟨Kd.C_below D1.out HB.out⟩) ?_; rintro _ w8 ⟨X8, d8, rfl, hd8, C8, hb⟩; refine ⟨_, rfl, ?_⟩; replace C8 := Z0.mk C8; replace B0 := fk B0 hb; replace B1 := fk B1 hb;  replace HB := fB HB hb; clear hb p0 p1 q0 q1)
  | ((with_reducible refine gd_ 8 rfl ?_); refine newL (.slice none 0 0) (.string ⟨#[]⟩) (.slice X8 la.length d8) (.string sa) ?_; intro g8 w8b hg8 B8 hb; replace B8 := Z0.mk B8; replace B0 := fk B0 hb; replace B1 := fk B1 hb; replace C8 := Z0.mk (Kd.C_below C8.out hb); replace HB := fB HB hb; clear hb hg8))
 obtain ⟨q0, q1, -, -⟩ := b2 B1
 go_upto_region 8 with ((with_reducible refine gc_ 21 rfl ?_); refine gL 44 Tryz.func21 (Eval_ok A1 A2 n1 c1 n2 c2 (rs.map Sv.rtxt) (ps.map Sv.rtxt) (Sv.rtxt r) _ (hL.below HB.out) ⟨Kd.C_below D1.out HB.out⟩ ⟨Kd.C_below D2.out HB.out⟩ hn1.out hn2.out m1 m2 o1 o2 o4) ?_; rw [E1.out]; rintro _ w' ⟨rfl, hb⟩; refine ⟨_, rfl, ?_⟩; replace B0 := fk B0 hb; replace B1 := fk B1 hb; replace B8 := fk B8 hb; replace C8 := Z0.mk (Kd.C_below C8.out hb); replace HB := fB HB hb; clear hb q0 q1)
 by_cases hall : za = 0 ∧ zv = 0
 case neg =>
  have hall' := Z0.mk hall
  clear hall
  rcases dA.out with ⟨rfl, -⟩ | rfl <;> rcases dV.out with ⟨rfl, -⟩ | rfl
  all_goals first
   | exact absurd ⟨rfl, rfl⟩ hall'.out
   | (go_wp2_with (go_at_call 14; refine (lawake_ok _ (hL.below HB.out)).mono ?_; rintro _ w' ⟨rfl, hb⟩; replace HB := fB HB hb; clear hb)
      go_ret
      exact ⟨rfl, HB.out⟩)
 case pos =>
 obtain ⟨rfl, rfl⟩ := hall
 obtain ⟨-, hfa, rfl, rfl⟩ := dA.out.resolve_right (by decide)
 obtain ⟨-, hv, rfl⟩ := dV.out.resolve_right (by decide)
 clear dA dV E1 E2 T2
 have hEq : evR (List.zipWith (· + ·) (qs.set j 0) (rs.map (· * qs.getD j 0))) (q + r * qs.getD j 0) ps = evR qs q (ps.set j V) := by rw [evR_sub j hjq (hl0.out.trans hl1.out.symm) hl0.out, hV.out]
 have hpV : ∀ p ∈ ps.set j V, ndR p ≤ 100 := fun p hp' => by
  rcases List.mem_or_eq_of_mem_set hp' with h | rfl
  · exact hp p h
  · exact hv
 obtain ⟨U, hU⟩ : ∃ U, evR qs q (ps.set j V) = U := ⟨_, rfl⟩
 have E3 := evalS_map (ps := ps) hfa hp (by rw [List.length_zipWith, List.length_set, List.length_map, hl0.out, hl1.out, Nat.min_self])
 have E4 := evalS_map (ps := ps.set j V) f0 hpV (by rw [List.length_set]; exact hl0.out.symm)
 rw [hEq, hU] at E3
 rw [hU] at E4
 obtain ⟨vu, zu, hvu⟩ : ∃ v z, (if ndR U ≤ 100 then (Sv.rtxt U, (0 : Int)) else (⟨#[]⟩, 10)) = (v, z) := ⟨_, _, rfl⟩
 have dU := ev_cases U hvu
 rw [hvu] at E3 E4
 clear hvu hEq hU
 replace E3 := Z0.mk E3
 replace E4 := Z0.mk E4
 have oz : ∀ s ∈ (List.zipWith (· + ·) (qs.set j 0) (rs.map (· * qs.getD j 0))).map Sv.rtxt, Okt s := okt_map fun x hx => by have := hfa.2.1 x hx; omega
 have oz1 : Okt (Sv.rtxt (q + r * qs.getD j 0)) := Okt.q (by have := hfa.2.2; omega)
 have ov : ∀ s ∈ (ps.set j V).map Sv.rtxt, Okt s := okt_map fun x hx => by have := hpV x hx; omega
 obtain ⟨n3, hn3⟩ : ∃ n, ((List.zipWith (· + ·) (qs.set j 0) (rs.map (· * qs.getD j 0))).map Sv.rtxt).length = n := ⟨_, rfl⟩
 rw [hn3] at C8 B8 hd8
 simp only [hn3]
 have m3 : n3 ≤ 1000 := by rw [← hn3, List.length_map]; have := hfa.1; omega
 replace hn3 := Z0.mk hn3.symm
 generalize (List.zipWith (· + ·) (qs.set j 0) (rs.map (· * qs.getD j 0))).map Sv.rtxt = lz at *
 generalize Sv.rtxt (q + r * qs.getD j 0) = sz at *
 generalize hwz : w' = wz at *
 clear hwz
 have HZ := Z0.mk (Below.refl wz.heap.size wz)
 replace dU := Z0.mk dU
 have c5 : Z0 (((ps.map Sv.rtxt).set j (Sv.rtxt V)) = (ps.set j V).map Sv.rtxt) := ⟨by rw [List.map_set]⟩
 go_upto_region 11 with (first
  | ((with_reducible refine gd_ 70 rfl ?_); refine valE (.slice (some ⟨wz.heap.size, 0, none⟩) 0 0) (wz.alloc (.cells #[] 23)) ?_; intro wa hwa; have HO := R_empty (base := wz.heap.size) (blk_new wz (.cells #[] 23)) (Nat.le_refl _); have hbx := below_alloc (Below.refl wz.heap.size wz) (.cells #[] 23); rw [← hwa] at HO hbx; clear hwa; replace HO := Z0.mk HO; replace HZ := Z0.mk hbx; clear hbx)
  | ((with_reducible refine gate_builtin (b := .append) rfl ?_); refine Kd.R_append_rows Kd.string (w0 := wa) wz.heap.size rfl (.tmp 70) (.tmp 71) 22 23 (.string ⟨#[]⟩) 16 rfl Tryz.underlying22 infoRat rfl (by decide) (by decide) _ [] (ps.map Sv.rtxt) A2 n2 c2 (fun _ => True) (fun _ => False) rfl rfl HO.out (Kd.C_below D2.out (below_step HB.out HZ.out)) (fun _ _ h => h) (fun _ h => h.elim) (fun _ _ => trivial) (Below.refl _ _) (below_size HZ.out) (by simp only [List.nil_append, List.length_nil, Nat.zero_add, ← hn2.out]; omega) ?_; intro v1 wb HO1 hb1 hg1 _; rw [List.nil_append] at HO1; replace HO := Z0.mk HO1; replace HZ := Z0.mk (HZ.out.trans hb1); clear HO1 hb1 hg1))
 obtain ⟨Xo, co, rfl, HO2⟩ := R_cut (m := n2) HO hn2.out.symm
 clear HO
 obtain ⟨g, rfl, k0, k1, k2, k3⟩ := ownS HO2 j (by omega) (by omega)
 rw [Int.toNat_natCast] at k0 k1
 have ka1 : (Addr.mk g 0 none).add j = ⟨g, j, none⟩ := add_plain g j
 go_upto_region 12 with ((with_reducible refine gate_store rfl ?_); refine stS j (Sv.rtxt V) HO2 rfl ?_; intro wc HO4 hg hb; replace HZ := Z0.mk (HZ.out.trans hb); replace HO2 := HO4; clear HO4 hg hb k0 k1 k2 k3)
 have CO := (Kd.R_reads' HO2.out).2.2
 rw [Int.toNat_natCast, c5.out, List.length_map, List.length_set, ← e2.out] at CO
 replace CO := Z0.mk CO
 have hnv : Z0 (n2 = ((ps.set j V).map Sv.rtxt).length) := ⟨by rw [List.length_map, List.length_set]; exact e2.out⟩
 have hHz : Z0 (Below w.heap.size w wc) := ⟨below_step HB.out HZ.out⟩
 replace B0 := Z0.mk (blk_below B0.out HZ.out)
 replace B1 := Z0.mk (blk_below B1.out HZ.out)
 replace B8 := Z0.mk (blk_below B8.out HZ.out)
 replace C8 := Z0.mk (Kd.C_below C8.out HZ.out)
 clear HO2 HZ ka1
 replace HB := hHz
 clear hHz
 obtain ⟨p0, p1, -, -⟩ := b2 B8
 go_upto_region 13 with ((with_reducible refine gc_ 21 rfl ?_); refine gL 80 Tryz.func21 (Eval_ok X8 A2 n3 d8 n2 c2 lz (ps.map Sv.rtxt) sz _ (hL.below HB.out) C8 ⟨Kd.C_below D2.out HB.out⟩ hn3.out hn2.out m3 m2 oz o2 oz1) ?_; rw [E3.out]; rintro _ w' ⟨rfl, hb⟩; refine ⟨_, rfl, ?_⟩; replace B0 := fk B0 hb; replace B1 := fk B1 hb; replace B8 := fk B8 hb; replace C8 := Z0.mk (Kd.C_below C8.out hb); replace CO := Z0.mk (Kd.C_below CO.out hb); replace HB := fB HB hb; clear hb p0 p1)
 obtain ⟨p0, p1, -, -⟩ := b2 B0
 go_upto_region 14 with ((with_reducible refine gc_ 21 rfl ?_); refine gL 86 Tryz.func21 (Eval_ok A0 (some ⟨g, 0, none⟩) n0 c0 n2 co (qs.map Sv.rtxt) ((ps.set j V).map Sv.rtxt) (Sv.rtxt q) _ (hL.below HB.out) ⟨Kd.C_below D0.out HB.out⟩ CO hn0.out hnv.out m0 m2 o0 ov o3) ?_; rw [E4.out]; rintro _ w' ⟨rfl, hb⟩; refine ⟨_, rfl, ?_⟩; replace B0 := fk B0 hb; replace B1 := fk B1 hb; replace CO := Z0.mk (Kd.C_below CO.out hb); replace HB := fB HB hb; clear hb p0 p1)
 have sne : (vu.toList != vu.toList) = false := bne_self_eq_false _
 rcases dU.out with ⟨rfl, -⟩ | rfl
 all_goals (
  go_wp2
  exact ⟨⟨j + 1, by omega, by simp, B0, B1, HB⟩, by simp [Go.RowKit.intOf]; omega⟩)
end Go.Proofs.YtihbebbabjklkaaGreatDoor.PA
