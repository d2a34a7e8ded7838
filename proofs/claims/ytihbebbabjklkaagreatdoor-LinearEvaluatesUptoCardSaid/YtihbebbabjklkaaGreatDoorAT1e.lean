import Derived.Test.YtihbebbabjklkaaGreatDoorAG10
set_option maxHeartbeats 8000000
set_option maxRecDepth 100000
set_option linter.unusedVariables false
set_option linter.unusedVariables false
set_option linter.unusedSimpArgs false
namespace Go.Proofs.YtihbebbabjklkaaGreatDoor.PA
open Go.RowKit Go.Shelf Go.Proofs.WWords Go.Proofs.WLast Go.Proofs.WMore
theorem LinEvaluates_true (A0 : Option Addr) (c0 : Nat) (l0 : List ByteArray) (s0 : ByteArray) (A1 : Option Addr) (c1 : Nat) (l1 : List ByteArray) (s1 : ByteArray) (A2 : Option Addr) (c2 : Nat) (l2 : List ByteArray) (w : World) (hL : LaidW w) (w0 : l0.length ≤ c0) (C0 : Z0 (Kd.string.C w A0 l0.length l0)) (w1 : l1.length ≤ c1) (C1 : Z0 (Kd.string.C w A1 l1.length l1)) (w2 : l2.length ≤ c2) (C2 : Z0 (Kd.string.C w A2 l2.length l2))
  (k0 : (∀ s ∈ l0, s.size ≤ 1048576) ∧ s0.size ≤ 1048576) (k1 : (∀ s ∈ l1, s.size ≤ 1048576) ∧ s1.size ≤ 1048576) (k2 : ∀ s ∈ l2, s.size ≤ 1048576) :
  Calls Tryz.prog 9 #[.agg #[.slice A0 l0.length c0, .string s0], .agg #[.slice A1 l1.length c1, .string s1], .slice A2 l2.length c2] w fun e w' => e = .returned (.bool true) ∧ Below w.heap.size w w' := by
 have HB := Z0.mk (Below.refl w.heap.size w)
 have hu := Tryz.underlying25
 obtain ⟨b, hb⟩ : ∃ b, Z0 (rightB l2 [(A0, c0, l0, s0), (A1, c1, l1, s1)] = b) := ⟨_, ⟨rfl⟩⟩
 have hO : ∀ x ∈ [((A0, c0, l0, s0) : LinX), (A1, c1, l1, s1)], (∀ s ∈ x.2.2.1, s.size ≤ 10000000000) ∧ x.2.2.2.size ≤ 10000000000 := fun x hx => by
  rcases List.mem_cons.1 hx with rfl | hx
  · exact ⟨fun s hs => by have := k0.1 s hs; omega, by have := k0.2; show s0.size ≤ _; omega⟩
  · rw [List.mem_singleton.1 hx]
    exact ⟨fun s hs => by have := k1.1 s hs; omega, by have := k1.2; show s1.size ≤ _; omega⟩
 have hOp : ∀ s ∈ l2, s.size ≤ 10000000000 := fun s hs => by have := k2 s hs; omega
 clear k0 k1 k2
 go_enter Tryz.func9, Tryz.ntmps9
 go_upto_region 1 with (fail)
 refine al2 ?_
 intro W hb' B0 B1
 replace C0 := Z0.mk (Kd.C_below C0.out hb')
 replace C1 := Z0.mk (Kd.C_below C1.out hb')
 replace C2 := Z0.mk (Kd.C_below C2.out hb')
 replace HB := fB HB hb'
 clear hb'
 obtain ⟨p0, p1, -, -⟩ := b2 B0
 obtain ⟨q0, q1, -, -⟩ := b2 B1
 cases b with
 | false =>
  go_wp2_with (first
   | ((with_reducible refine gd_ 24 rfl ?_); refine valE (.slice (some ⟨W.heap.size, 0, none⟩) 2 2) (W.alloc (.cells #[.slice A0 l0.length c0, .string s0, .slice A1 l1.length c1, .string s1] 25)) ?_; intro w1 hw1; have hbx := below_alloc (Below.refl W.heap.size W) (.cells #[.slice A0 l0.length c0, .string s0, .slice A1 l1.length c1, .string s1] 25); have BX := Z0.mk (blk_new W (.cells #[.slice A0 l0.length c0, .string s0, .slice A1 l1.length c1, .string s1] 25)); rw [← hw1] at hbx BX; clear hw1; replace C0 := Z0.mk (Kd.C_below C0.out hbx); replace C1 := Z0.mk (Kd.C_below C1.out hbx); replace C2 := Z0.mk (Kd.C_below C2.out hbx); replace HB := fB HB hbx; clear hbx)
   | ((with_reducible refine gc_ 20 rfl ?_); refine gL 25 Tryz.func20 (right_ok A2 c2 l2 W.heap.size [(A0, c0, l0, s0), (A1, c1, l1, s1)] _ _ BX (fun x hx => by rcases List.mem_cons.1 hx with rfl | hx; exact C0.out; rw [List.mem_singleton.1 hx]; exact C1.out) C2 (by simp) (by simp) hO hOp hb) ?_; rintro _ w' ⟨rfl, hb⟩; refine ⟨_, rfl, ?_⟩; replace HB := fB HB hb; clear hb)
   | (refine cG rfl ?_; intro w' hb; replace HB := fB HB hb; clear hb))
  go_ret
  exact ⟨rfl, HB.out⟩
 | true =>
 go_upto_region 3 with (first
   | ((with_reducible refine gd_ 24 rfl ?_); refine valE (.slice (some ⟨W.heap.size, 0, none⟩) 2 2) (W.alloc (.cells #[.slice A0 l0.length c0, .string s0, .slice A1 l1.length c1, .string s1] 25)) ?_; intro w1 hw1; have hbx := below_alloc (Below.refl W.heap.size W) (.cells #[.slice A0 l0.length c0, .string s0, .slice A1 l1.length c1, .string s1] 25); have BX := Z0.mk (blk_new W (.cells #[.slice A0 l0.length c0, .string s0, .slice A1 l1.length c1, .string s1] 25)); rw [← hw1] at hbx BX; clear hw1; replace B0 := fk B0 hbx; replace B1 := fk B1 hbx; replace C0 := Z0.mk (Kd.C_below C0.out hbx); replace C1 := Z0.mk (Kd.C_below C1.out hbx); replace C2 := Z0.mk (Kd.C_below C2.out hbx); replace HB := fB HB hbx; clear hbx p0 p1 q0 q1; obtain ⟨p0, p1, -, -⟩ := b2 B0; obtain ⟨q0, q1, -, -⟩ := b2 B1)
   | ((with_reducible refine gc_ 20 rfl ?_); refine gL 25 Tryz.func20 (right_ok A2 c2 l2 W.heap.size [(A0, c0, l0, s0), (A1, c1, l1, s1)] _ _ BX (fun x hx => by rcases List.mem_cons.1 hx with rfl | hx; exact C0.out; rw [List.mem_singleton.1 hx]; exact C1.out) C2 (by simp) (by simp) hO hOp hb) ?_; rintro _ w' ⟨rfl, hb⟩; refine ⟨_, rfl, ?_⟩; clear BX; replace B0 := fk B0 hb; replace B1 := fk B1 hb; replace C0 := Z0.mk (Kd.C_below C0.out hb); replace C1 := Z0.mk (Kd.C_below C1.out hb); replace C2 := Z0.mk (Kd.C_below C2.out hb); replace HB := fB HB hb; clear hb p0 p1 q0 q1; obtain ⟨p0, p1, -, -⟩ := b2 B0; obtain ⟨q0, q1, -, -⟩ := b2 B1))
 obtain ⟨hR, hN⟩ := of_rightB hb.out
 obtain ⟨hl0, hc0⟩ := hR _ List.mem_cons_self
 obtain ⟨hl1, hc1⟩ := hR _ (List.mem_cons_of_mem _ List.mem_cons_self)
 obtain ⟨a0, qs, q, rfl, rfl, hq, hq1⟩ := of_chkL hc0
 obtain ⟨a1, rs, r, rfl, rfl, hr, hr1⟩ := of_chkL hc1
 obtain ⟨ps, rfl, hp⟩ := of_numsC hN
 have f0 : fine qs q := ⟨by simpa using a0, hq, hq1⟩
 have f1 : fine rs r := ⟨by simpa using a1, hr, hr1⟩
 have hl0 : qs.length = ps.length := by simpa using hl0
 have hl1 : rs.length = ps.length := by simpa using hl1
 have o0 : ∀ s ∈ qs.map Sv.rtxt, Okt s := okt_map fun x hx => by have := hq x hx; omega
 have o1 : ∀ s ∈ rs.map Sv.rtxt, Okt s := okt_map fun x hx => by have := hr x hx; omega
 have o2 : ∀ s ∈ ps.map Sv.rtxt, Okt s := okt_map fun x hx => by have := hp x hx; omega
 have o3 : Okt (Sv.rtxt q) := Okt.q (by omega)
 have o4 : Okt (Sv.rtxt r) := Okt.q (by omega)
 have m0 : (qs.map Sv.rtxt).length ≤ 1000 := by rw [List.length_map]; have := f0.1; omega
 have m1 : (rs.map Sv.rtxt).length ≤ 1000 := by rw [List.length_map]; have := f1.1; omega
 have m2 : (ps.map Sv.rtxt).length ≤ 1000 := by rw [List.length_map, ← hl0]; have := f0.1; omega
 clear hO hOp hb
 obtain ⟨n0, hn0⟩ : ∃ n, (qs.map Sv.rtxt).length = n := ⟨_, rfl⟩
 obtain ⟨n1, hn1⟩ : ∃ n, (rs.map Sv.rtxt).length = n := ⟨_, rfl⟩
 obtain ⟨n2, hn2⟩ : ∃ n, (ps.map Sv.rtxt).length = n := ⟨_, rfl⟩
 rw [hn0] at C0 B0 p0 m0
 rw [hn1] at C1 B1 q0 m1
 rw [hn2] at C2 m2
 simp only [hn0, hn1, hn2]
 replace hn0 := Z0.mk hn0.symm
 replace hn1 := Z0.mk hn1.symm
 replace hn2 := Z0.mk hn2.symm
 obtain ⟨X, hX⟩ : ∃ X, evR qs q ps = X := ⟨_, rfl⟩
 obtain ⟨Y, hY⟩ : ∃ Y, evR rs r ps = Y := ⟨_, rfl⟩
 have E0 := evalS_map (ps := ps) f0 hp hl0.symm
 have E1 := evalS_map (ps := ps) f1 hp hl1.symm
 have E2 := addS_map f0 f1 (hl0.trans hl1.symm)
 rw [hX] at E0
 rw [hY] at E1
 obtain ⟨la, sa, za, hA⟩ := trip3 (fin (List.zipWith (· + ·) qs rs) (q + r))
 obtain ⟨vx, zx, hvx⟩ : ∃ v z, (if ndR X ≤ 100 then (Sv.rtxt X, (0 : Int)) else (⟨#[]⟩, 10)) = (v, z) := ⟨_, _, rfl⟩
 obtain ⟨vy, zy, hvy⟩ : ∃ v z, (if ndR Y ≤ 100 then (Sv.rtxt Y, (0 : Int)) else (⟨#[]⟩, 10)) = (v, z) := ⟨_, _, rfl⟩
 have dA : (za = 0 ∧ fine (List.zipWith (· + ·) qs rs) (q + r) ∧ la = (List.zipWith (· + ·) qs rs).map Sv.rtxt ∧ sa = Sv.rtxt (q + r)) ∨ za = 10 := by
  rcases Classical.em (fine (List.zipWith (· + ·) qs rs) (q + r)) with h | h
  · rw [fin_pos h] at hA; cases hA; exact .inl ⟨rfl, h, rfl, rfl⟩
  · rw [fin_neg h] at hA; cases hA; exact .inr rfl
 have dX : (zx = 0 ∧ ndR X ≤ 100 ∧ vx = Sv.rtxt X) ∨ zx = 10 := by
  by_cases h : ndR X ≤ 100
  · rw [if_pos h] at hvx; cases hvx; exact .inl ⟨rfl, h, rfl⟩
  · rw [if_neg h] at hvx; cases hvx; exact .inr rfl
 have dY : (zy = 0 ∧ ndR Y ≤ 100 ∧ vy = Sv.rtxt Y) ∨ zy = 10 := by
  by_cases h : ndR Y ≤ 100
  · rw [if_pos h] at hvy; cases hvy; exact .inl ⟨rfl, h, rfl⟩
  · rw [if_neg h] at hvy; cases hvy; exact .inr rfl
 rw [hvx] at E0
 rw [hvy] at E1
 rw [hA] at E2
 clear hvx hvy hA hR hN hc0 hc1 a0 a1
 replace E0 := Z0.mk E0
 replace E1 := Z0.mk E1
 replace E2 := Z0.mk E2
 replace hl0 := Z0.mk hl0
 replace hl1 := Z0.mk hl1
 replace hX := Z0.mk hX
 replace hY := Z0.mk hY
 replace dA := Z0.mk dA
 replace dX := Z0.mk dX
 replace dY := Z0.mk dY
 have TA := fun (w' : World) (hL : LaidW w') (C0 : Z0 (Kd.string.C w' A0 n0 (qs.map Sv.rtxt))) (C1 : Z0 (Kd.string.C w' A1 n1 (rs.map Sv.rtxt))) => (Add_ok A0 A1 n0 c0 n1 c1 (qs.map Sv.rtxt) (rs.map Sv.rtxt) (Sv.rtxt q) (Sv.rtxt r) w' hL C0 C1 hn0.out hn1.out m0 m1 o0 o1 o3 o4).mono fun e w' h => h.v E2.out rfl
 go_upto_region 4 with (first
  | ((with_reducible refine gc_ 32 rfl ?_); refine gL 31 Tryz.func32 (TA _ (hL.below HB.out) C0 C1) ?_; rintro _ w7 ⟨X7, d7, rfl, hd7, C7, hb⟩; refine ⟨_, rfl, ?_⟩; replace C7 := Z0.mk C7; replace B0 := fk B0 hb; replace B1 := fk B1 hb; replace C0 := Z0.mk (Kd.C_below C0.out hb); replace C1 := Z0.mk (Kd.C_below C1.out hb); replace C2 := Z0.mk (Kd.C_below C2.out hb); replace HB := fB HB hb; clear hb p0 p1 q0 q1)
  | ((with_reducible refine gd_ 7 rfl ?_); refine newL (.slice none 0 0) (.string ⟨#[]⟩) (.slice X7 la.length d7) (.string sa) ?_; intro g7 w7b hg7 B7 hb; replace B7 := Z0.mk B7; replace B0 := fk B0 hb; replace B1 := fk B1 hb; replace C0 := Z0.mk (Kd.C_below C0.out hb); replace C1 := Z0.mk (Kd.C_below C1.out hb); replace C2 := Z0.mk (Kd.C_below C2.out hb); replace C7 := Z0.mk (Kd.C_below C7.out hb); replace HB := fB HB hb; clear hb hg7))
 obtain ⟨p0, p1, -, -⟩ := b2 B0
 go_upto_region 5 with ((with_reducible refine gc_ 21 rfl ?_); refine gL 37 Tryz.func21 (Eval_ok A0 A2 n0 c0 n2 c2 (qs.map Sv.rtxt) (ps.map Sv.rtxt) (Sv.rtxt q) _ (hL.below HB.out) C0 C2 hn0.out hn2.out m0 m2 o0 o2 o3) ?_; rw [E0.out]; rintro _ w' ⟨rfl, hb⟩; refine ⟨_, rfl, ?_⟩; replace B0 := fk B0 hb; replace B1 := fk B1 hb; replace B7 := fk B7 hb; replace C0 := Z0.mk (Kd.C_below C0.out hb); replace C1 := Z0.mk (Kd.C_below C1.out hb); replace C2 := Z0.mk (Kd.C_below C2.out hb); replace C7 := Z0.mk (Kd.C_below C7.out hb); replace HB := fB HB hb; clear hb p0 p1)
 obtain ⟨p0, p1, -, -⟩ := b2 B1
 go_upto_region 6 with ((with_reducible refine gc_ 21 rfl ?_); refine gL 43 Tryz.func21 (Eval_ok A1 A2 n1 c1 n2 c2 (rs.map Sv.rtxt) (ps.map Sv.rtxt) (Sv.rtxt r) _ (hL.below HB.out) C1 C2 hn1.out hn2.out m1 m2 o1 o2 o4) ?_; rw [E1.out]; rintro _ w' ⟨rfl, hb⟩; refine ⟨_, rfl, ?_⟩; replace B0 := fk B0 hb; replace B1 := fk B1 hb; replace B7 := fk B7 hb; replace C0 := Z0.mk (Kd.C_below C0.out hb); replace C1 := Z0.mk (Kd.C_below C1.out hb); replace C2 := Z0.mk (Kd.C_below C2.out hb); replace C7 := Z0.mk (Kd.C_below C7.out hb); replace HB := fB HB hb; clear hb p0 p1)
 by_cases hall : za = 0 ∧ zx = 0 ∧ zy = 0
 case neg =>
  have hall' := Z0.mk hall
  clear hall
  rcases dA.out with ⟨rfl, -⟩ | rfl <;> rcases dX.out with ⟨rfl, -⟩ | rfl <;> rcases dY.out with ⟨rfl, -⟩ | rfl
  all_goals first
   | exact absurd ⟨rfl, rfl, rfl⟩ hall'.out
   | (go_wp2_with (go_at_call 14; refine (lawake_ok _ (hL.below HB.out)).mono ?_; rintro _ w' ⟨rfl, hb⟩; replace HB := fB HB hb; clear hb)
      go_ret
      exact ⟨rfl, HB.out⟩)
 case pos =>
 obtain ⟨rfl, rfl, rfl⟩ := hall
 obtain ⟨-, hfa, rfl, rfl⟩ := dA.out.resolve_right (by decide)
 obtain ⟨-, hx, rfl⟩ := dX.out.resolve_right (by decide)
 obtain ⟨-, hy, rfl⟩ := dY.out.resolve_right (by decide)
 clear dA dX dY E0 E1 E2
 have hZ : evR (List.zipWith (· + ·) qs rs) (q + r) ps = X + Y := by rw [evR_add (hl0.out.trans hl1.out.symm), hX.out, hY.out]
 have hW : evR (qs.map (· * Y)) (q * Y) ps = X * Y := by rw [evR_mul, hX.out]
 have hlz : (List.zipWith (· + ·) qs rs).length = ps.length := by rw [List.length_zipWith, hl0.out, hl1.out, Nat.min_self]
 have E3 := evalS_map (ps := ps) hfa hp hlz.symm
 rw [hZ] at E3
 have E4 := scaleS_map f0 hy
 have hS := ndR_add X Y
 have hM := ndR_mul X Y
 have oz : ∀ s ∈ (List.zipWith (· + ·) qs rs).map Sv.rtxt, Okt s := okt_map fun x hx => by have := hfa.2.1 x hx; omega
 have oz1 : Okt (Sv.rtxt (q + r)) := Okt.q (by have := hfa.2.2; omega)
 have oy : Okt (Sv.rtxt Y) := Okt.q (by omega)
 obtain ⟨n3, hn3⟩ : ∃ n, ((List.zipWith (· + ·) qs rs).map Sv.rtxt).length = n := ⟨_, rfl⟩
 rw [hn3] at C7 B7 hd7
 simp only [hn3]
 have m3 : n3 ≤ 1000 := by rw [← hn3, List.length_map]; have := hfa.1; omega
 replace hn3 := Z0.mk hn3.symm
 generalize hqz : (List.zipWith (· + ·) qs rs).map Sv.rtxt = lz at *
 replace hqz := Z0.mk hqz
 obtain ⟨km, Am⟩ := (mulE X Y (by omega)).as
 clear hlz hZ
 obtain ⟨p0, p1, -, -⟩ := b2 B7
 have sne : ((Sv.rtxt (X + Y)).toList != (Sv.rtxt (X + Y)).toList) = false := bne_self_eq_false _
 have seq : ((Sv.rtxt (X * Y)).toList == (Sv.rtxt (X * Y)).toList) = true := beq_self_eq_true _
 obtain ⟨vz, zz, hvz⟩ : ∃ v z, (if ndR (X + Y) ≤ 100 then (Sv.rtxt (X + Y), (0 : Int)) else (⟨#[]⟩, 10)) = (v, z) := ⟨_, _, rfl⟩
 have dZ : (zz = 0 ∧ vz = Sv.rtxt (X + Y)) ∨ zz = 10 := by
  by_cases h : ndR (X + Y) ≤ 100
  · rw [if_pos h] at hvz; cases hvz; exact .inl ⟨rfl, rfl⟩
  · rw [if_neg h] at hvz; cases hvz; exact .inr rfl
 rw [hvz] at E3
 clear hvz
 replace E3 := Z0.mk E3
 go_upto_region 9 with ((with_reducible refine gc_ 21 rfl ?_); refine gL 84 Tryz.func21 (Eval_ok X7 A2 n3 d7 n2 c2 lz (ps.map Sv.rtxt) (Sv.rtxt (q + r)) _ (hL.below HB.out) C7 C2 hn3.out hn2.out m3 m2 oz o2 oz1) ?_; rw [E3.out]; rintro _ w' ⟨rfl, hb⟩; refine ⟨_, rfl, ?_⟩; replace B0 := fk B0 hb; replace B7 := fk B7 hb; replace C0 := Z0.mk (Kd.C_below C0.out hb); replace C2 := Z0.mk (Kd.C_below C2.out hb); replace C7 := Z0.mk (Kd.C_below C7.out hb); replace HB := fB HB hb; clear hb p0 p1)
 have hSum : ndR X + ndR Y + 1 ≤ 4096 := by omega
 obtain ⟨lb, sb, zb, hB'⟩ := trip3 (fin (qs.map (· * Y)) (q * Y))
 have dB : (zb = 0 ∧ fine (qs.map (· * Y)) (q * Y) ∧ lb = (qs.map (· * Y)).map Sv.rtxt ∧ sb = Sv.rtxt (q * Y)) ∨ zb = 10 := by
  rcases Classical.em (fine (qs.map (· * Y)) (q * Y)) with h | h
  · rw [fin_pos h] at hB'; cases hB'; exact .inl ⟨rfl, h, rfl, rfl⟩
  · rw [fin_neg h] at hB'; cases hB'; exact .inr rfl
 rw [hB'] at E4
 clear hB'
 replace E4 := Z0.mk E4
 have dB := Z0.mk dB
 clear B7 C7 hd7 B1 C1
 have T2 := fun (w' : World) (hL : LaidW w') (C0 : Z0 (Kd.string.C w' A0 n0 (qs.map Sv.rtxt))) => (Scale_ok A0 n0 c0 (qs.map Sv.rtxt) (Sv.rtxt q) (Sv.rtxt Y) w' hL C0 hn0.out m0 o0 o3 oy).mono fun e w' h => h.v E4.out rfl
 obtain ⟨p0, p1, -, -⟩ := b2 B0
 rcases dZ with ⟨rfl, rfl⟩ | rfl
 all_goals (
  go_upto_region 12 with (first
   | (go_at_call 33; refine (sum_ok X Y _ (hL.below HB.out) hSum).mono ?_; rintro _ w' ⟨rfl, hb⟩; replace B0 := fk B0 hb; replace C0 := Z0.mk (Kd.C_below C0.out hb); replace C2 := Z0.mk (Kd.C_below C2.out hb); replace HB := fB HB hb; clear hb p0 p1; obtain ⟨p0, p1, -, -⟩ := b2 B0)
   | ((with_reducible refine gc_ 29 rfl ?_); refine gL 107 Tryz.func29 (T2 _ (hL.below HB.out) C0) ?_; rintro _ w15 ⟨X15, d15, rfl, hd15, C15, hb⟩; refine ⟨_, rfl, ?_⟩; replace C15 := Z0.mk C15; replace B0 := fk B0 hb; replace C0 := Z0.mk (Kd.C_below C0.out hb); replace C2 := Z0.mk (Kd.C_below C2.out hb); replace HB := fB HB hb; clear hb p0 p1)
   | ((with_reducible refine gd_ 15 rfl ?_); refine newL (.slice none 0 0) (.string ⟨#[]⟩) (.slice X15 lb.length d15) (.string sb) ?_; intro g15 w15b hg15 B15 hb; replace B15 := Z0.mk B15; replace B0 := fk B0 hb; replace C0 := Z0.mk (Kd.C_below C0.out hb); replace C2 := Z0.mk (Kd.C_below C2.out hb); replace C15 := Z0.mk (Kd.C_below C15.out hb); replace HB := fB HB hb; clear hb hg15))
 )
 all_goals (
  rcases dB.out with ⟨rfl, hfb, rfl, rfl⟩ | rfl
  · have hlb : ps.length = (qs.map (· * Y)).length := by rw [List.length_map]; exact hl0.out.symm
    have E5 := evalS_map (ps := ps) hfb hp hlb
    rw [hW] at E5
    have ob : ∀ s ∈ (qs.map (· * Y)).map Sv.rtxt, Okt s := okt_map fun x hx => by have := hfb.2.1 x hx; omega
    have ob1 : Okt (Sv.rtxt (q * Y)) := Okt.q (by have := hfb.2.2; omega)
    obtain ⟨n4, hn4⟩ : ∃ n, ((qs.map (· * Y)).map Sv.rtxt).length = n := ⟨_, rfl⟩
    rw [hn4] at C15 B15 hd15
    simp only [hn4]
    have m4 : n4 ≤ 1000 := by rw [← hn4, List.length_map]; have := hfb.1; omega
    replace hn4 := Z0.mk hn4.symm
    clear B0 C0 hlb
    generalize (qs.map (· * Y)).map Sv.rtxt = lb at *
    obtain ⟨p0, p1, -, -⟩ := b2 B15
    obtain ⟨vv, zv, hvv⟩ : ∃ v z, (if ndR (X * Y) ≤ 100 then (Sv.rtxt (X * Y), (0 : Int)) else (⟨#[]⟩, 10)) = (v, z) := ⟨_, _, rfl⟩
    have dV : (zv = 0 ∧ vv = Sv.rtxt (X * Y)) ∨ zv = 10 := by
     by_cases h : ndR (X * Y) ≤ 100
     · rw [if_pos h] at hvv; cases hvv; exact .inl ⟨rfl, rfl⟩
     · rw [if_neg h] at hvv; cases hvv; exact .inr rfl
    rw [hvv] at E5
    clear hvv hW
    replace E5 := Z0.mk E5
    replace hfb := Z0.mk hfb
    go_upto_region 16 with (first
     | ((with_reducible refine gc_ 21 rfl ?_); refine gL 120 Tryz.func21 (Eval_ok X15 A2 n4 d15 n2 c2 lb (ps.map Sv.rtxt) (Sv.rtxt (q * Y)) _ (hL.below HB.out) C15 C2 hn4.out hn2.out m4 m2 ob o2 ob1) ?_; rw [E5.out]; rintro _ w' ⟨rfl, hb⟩; refine ⟨_, rfl, ?_⟩; replace HB := fB HB hb; clear hb p0 p1)
     | (refine cG rfl ?_; intro w' hb; replace HB := fB HB hb; clear hb))
    rcases dV with ⟨rfl, rfl⟩ | rfl
    all_goals (
     go_wp2_with (go_at_call 14; refine (lawake_ok _ (hL.below HB.out)).mono ?_; rintro _ w' ⟨rfl, hb⟩; replace HB := fB HB hb; clear hb)
     go_ret
     exact ⟨rfl, HB.out⟩)
  · go_wp2_with (go_at_call 14; refine (lawake_ok _ (hL.below HB.out)).mono ?_; rintro _ w' ⟨rfl, hb⟩; replace HB := fB HB hb; clear hb)
    go_ret
    exact ⟨rfl, HB.out⟩)
end Go.Proofs.YtihbebbabjklkaaGreatDoor.PA
