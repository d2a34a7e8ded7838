import Derived.Test.YtihbebbabjklkaaGreatDoorAG10
set_option maxHeartbeats 8000000
set_option maxRecDepth 100000
set_option linter.unusedVariables false
set_option linter.unusedVariables false
set_option linter.unusedSimpArgs false
namespace Go.Proofs.YtihbebbabjklkaaGreatDoor.PA
open Go.RowKit Go.Shelf Go.Proofs.WWords Go.Proofs.WLast Go.Proofs.WMore
instance lc_Bottom : Ctr 25 (type_of% @rFBottom.calls) := ⟨@rFBottom.calls, _, Tryz.func25, by kernel_rfl, rfl⟩
def q15 : Rat := Rat.mk' 1 5 (by decide) (by decide)
def q17 : Rat := Rat.mk' 1 7 (by decide) (by decide)
theorem r15 : Sv.rtxt q15 = ⟨#[49, 47, 53]⟩ := rt_lit 1 5 _ _ _ (by simp [Sv.txtL, Sv.txtN, Sv.dg, Sv.dch])
theorem r17 : Sv.rtxt q17 = ⟨#[49, 47, 55]⟩ := rt_lit 1 7 _ _ _ (by simp [Sv.txtL, Sv.txtN, Sv.dg, Sv.dch])
def parts : List (Rat × Nat) := [(q12, 2), (q13, 3), (q15, 5), (q17, 7)]
theorem parts_ok : ∀ x ∈ parts, x.1 * ((x.2 : Nat) : Rat) = 1 ∧ 1 < x.2 ∧ ndR x.1 ≤ 100 := fun x hx => by
 simp only [parts, List.mem_cons, List.not_mem_nil, or_false] at hx
 rcases hx with rfl | rfl | rfl | rfl
 · exact ⟨by decide +kernel, by decide, s12⟩
 · exact ⟨by decide +kernel, by decide, s13⟩
 · exact ⟨by decide +kernel, by decide, ndR_lit2 _ _ _ _ (by decide) (by decide)⟩
 · exact ⟨by decide +kernel, by decide, ndR_lit2 _ _ _ _ (by decide) (by decide)⟩
abbrev partsT : List ByteArray := [⟨#[49, 47, 50]⟩, ⟨#[49, 47, 51]⟩, ⟨#[49, 47, 53]⟩, ⟨#[49, 47, 55]⟩]
theorem parts_txt : partsT = parts.map fun x => Sv.rtxt x.1 := by
 simp only [parts, List.map_cons, List.map_nil, r12, r13, r15, r17]
theorem one_txt (n : Nat) : ((Sv.txt (n : Int)).toList == ([49] : List UInt8)) = decide (n = 1) := by
 by_cases h : n = 1
 · subst h
   rw [decide_eq_true rfl]
   exact beq_iff_eq.mpr ((txt_eq1 _).2 rfl)
 · rw [decide_eq_false h]
   exact beq_eq_false_iff_ne.mpr fun e => h (by have := (txt_eq1 _).1 e; omega)
theorem LinClears_true (A0 : Option Addr) (c0 : Nat) (l0 : List ByteArray) (s0 : ByteArray) (w : World) (hL : LaidW w) (w0 : l0.length ≤ c0) (C0 : Z0 (Kd.string.C w A0 l0.length l0)) :
  Calls Tryz.prog 6 #[.agg #[.slice A0 l0.length c0, .string s0]] w fun e w' => e = .returned (.bool true) ∧ Below w.heap.size w w' := by
 have HB := Z0.mk (Below.refl w.heap.size w)
 have hu := Tryz.underlying25
 have ht := Tryz.underlying22
 have D0 := C0
 obtain ⟨b, hb⟩ : ∃ b, Z0 (fewB l0 s0 = b) := ⟨_, ⟨rfl⟩⟩
 go_enter Tryz.func6, Tryz.ntmps6
 go_upto_region 1 with (fail)
 refine al1 ?_
 intro W hb' B0
 replace C0 := Z0.mk (Kd.C_below C0.out hb')
 replace HB := fB HB hb'
 clear hb'
 obtain ⟨p0, p1, -, -⟩ := b2 B0
 cases b with
 | false =>
  go_wp2_with (refine cG rfl ?_; intro w' hb; replace HB := fB HB hb; clear hb)
  go_ret
  exact ⟨rfl, HB.out⟩
 | true =>
 obtain ⟨a1, a2, a3⟩ := of_fewB hb.out
 have r1 : ∀ x ∈ l0, x.size ≤ 10000000000 := fun x hx => by have := a3 x hx; omega
 have r3 : s0.size ≤ 10000000000 := by omega
 clear a1 a2 a3
 obtain ⟨y, hy⟩ : ∃ y, Z0 (chkL l0 s0 = y) := ⟨_, ⟨rfl⟩⟩
 by_cases hy0 : y = 0
 case neg =>
  have c1 : (y != 0) = true := bne_iff_ne.mpr hy0
  go_wp2_with (first
   | (go_at_call 22; refine (refCheck_ok A0 l0.length c0 l0 s0 y _ C0 rfl r1 r3 hy).mono ?_; rintro _ w' ⟨rfl, hb⟩; replace B0 := fk B0 hb; replace C0 := Z0.mk (Kd.C_below C0.out hb); replace HB := fB HB hb; clear hb p0 p1; obtain ⟨p0, p1, -, -⟩ := b2 B0)
   | (refine cG rfl ?_; intro w' hb; replace B0 := fk B0 hb; replace C0 := Z0.mk (Kd.C_below C0.out hb); replace HB := fB HB hb; clear hb p0 p1; obtain ⟨p0, p1, -, -⟩ := b2 B0))
  go_ret
  exact ⟨rfl, HB.out⟩
 subst hy0
 go_upto_region 3 with (first
   | (go_at_call 22; refine (refCheck_ok A0 l0.length c0 l0 s0 0 _ C0 rfl r1 r3 hy).mono ?_; rintro _ w' ⟨rfl, hb⟩; replace B0 := fk B0 hb; replace C0 := Z0.mk (Kd.C_below C0.out hb); replace HB := fB HB hb; clear hb p0 p1; obtain ⟨p0, p1, -, -⟩ := b2 B0)
   | (refine cG rfl ?_; intro w' hb; replace B0 := fk B0 hb; replace C0 := Z0.mk (Kd.C_below C0.out hb); replace HB := fB HB hb; clear hb p0 p1; obtain ⟨p0, p1, -, -⟩ := b2 B0))
 obtain ⟨a0, qs, q, rfl, rfl, hq, hq1⟩ := of_chkL hy.out
 have f0 : fine qs q := ⟨by simpa using a0, hq, hq1⟩
 have o0 : ∀ s ∈ qs.map Sv.rtxt, Okt s := okt_map fun x hx => by have := hq x hx; omega
 have o3 : Okt (Sv.rtxt q) := Okt.q (by omega)
 have m0 : (qs.map Sv.rtxt).length ≤ 32 := by rw [List.length_map]; exact f0.1
 obtain ⟨n, hn⟩ : ∃ n, (qs.map Sv.rtxt).length = n := ⟨_, rfl⟩
 rw [hn] at D0 B0 m0 w0 C0
 simp only [hn]
 have en : n = qs.length := by rw [← hn, List.length_map]
 replace hn := Z0.mk hn.symm
 replace en := Z0.mk en
 clear hb hy a0 p0 p1 r1 r3
 obtain ⟨D, hD⟩ : ∃ D, lcmD (qs ++ [q]) = D := ⟨_, rfl⟩
 obtain ⟨r, hr⟩ : ∃ r : Rat, ((D : Nat) : Rat) = r := ⟨_, rfl⟩
 have E := intS_map f0 D r hD hr
 have hqa : ∀ p ∈ qs ++ [q], ndR p ≤ 100 := fun p hp => by
  rcases List.mem_append.1 hp with hp | hp
  · exact hq p hp
  · rw [List.mem_singleton.1 hp]; exact hq1
 have hDd : Sv.nd (D : Int) ≤ 3400 := by
  have := lcmD_nd (qs ++ [q]) hqa (qs.length + 1) (by simp)
  rw [List.take_of_length_le (by simp), hD] at this
  have := en.out
  omega
 have hD0 : 0 < D := by rw [← hD]; exact lcmD_pos _
 have hrd : ndR r ≤ 3400 := by rw [← hr]; exact Nat.le_trans (ndR_intL (D : Int)) hDd
 have hrt : Sv.rtxt r = Sv.txt (D : Int) := by rw [← hr]; exact rtxt_int (D : Int)
 have m1 : n ≤ 1000 := by omega
 obtain ⟨p0, p1, -, -⟩ := b2 B0
 by_cases hall : ∀ m ∈ (qs.map fun p => (p * r).num) ++ [(q * r).num, (D : Int)], Sv.nd m ≤ 100
 case neg =>
  rw [if_neg hall] at E
  replace E := Z0.mk E
  clear hall
  go_wp2_with (first
   | ((with_reducible refine gc_ 23 rfl ?_); refine gL 33 Tryz.func23 ((Integral_ok A0 n c0 (qs.map Sv.rtxt) (Sv.rtxt q) _ (hL.below HB.out) C0 hn.out m1 w0 o0 o3).mono fun e w' h => h.v E.out rfl) ?_; rintro _ w9 ⟨X9, d9, rfl, hd9, C9, hb⟩; refine ⟨_, rfl, ?_⟩; replace HB := fB HB hb; clear hb p0 p1)
   | (go_at_call 14; refine (lawake_ok _ (hL.below HB.out)).mono ?_; rintro _ w' ⟨rfl, hb⟩; replace HB := fB HB hb; clear hb))
  go_ret
  exact ⟨rfl, HB.out⟩
 rw [if_pos hall] at E
 replace E := Z0.mk E
 have hlen : (qs.map fun p => Sv.txt (p * r).num).length = n := by rw [List.length_map]; exact en.out.symm
 replace hlen := Z0.mk hlen
 clear hall
 go_upto_region 4 with ((with_reducible refine gc_ 23 rfl ?_); refine gL 33 Tryz.func23 ((Integral_ok A0 n c0 (qs.map Sv.rtxt) (Sv.rtxt q) _ (hL.below HB.out) C0 hn.out m1 w0 o0 o3).mono fun e w' h => h.v E.out hlen.out) ?_; rintro _ w9 ⟨X9, d9, rfl, hd9, C9, hb⟩; refine ⟨_, rfl, ?_⟩; replace C9 := Z0.mk C9; replace B0 := fk B0 hb; replace HB := fB HB hb; clear hb p0 p1)
 clear E C0
 -- what the texts are
 have hDt := Sv.txt_size (D : Int)
 rw [if_neg (by omega)] at hDt
 have hDp := Sv.nd_pos (D : Int)
 have t0 : 0 < (Sv.txt (D : Int)).size := by omega
 have tA : ((Sv.txt (D : Int)).toList == ([] : List UInt8)) = false := beq_eq_false_iff_ne.mpr fun e => by
  have h1 : (Sv.txt (D : Int)).toList.length = 0 := by rw [e]; rfl
  rw [ByteArray.toList_eq, Array.length_toList] at h1
  have h2 : (Sv.txt (D : Int)).data.size = (Sv.txt (D : Int)).size := rfl
  omega
 have tB : ((Sv.txt (D : Int)).toList == ([48] : List UInt8)) = false := by
  rw [← hrt]
  refine beq_eq_false_iff_ne.mpr fun e => ?_
  have h1 := (rtxt_eq0 r).1 e
  rw [← hr] at h1
  have h2 : ((D : Int) : Rat) = ((0 : Int) : Rat) := h1
  have := Rat.intCast_inj.1 h2
  omega
 have tC : (bt (Sv.txt (D : Int)) 0 == 45) = false := beq_eq_false_iff_ne.mpr fun e => by have := (bt_txt0 _).1 e; omega
 have tD : ∀ h : 0 < (Sv.txt (D : Int)).size, (((Sv.txt (D : Int))[0]'h).toNat : Int) = bt (Sv.txt (D : Int)) 0 := bt_at _ 0
 have tE : (0 < ((Sv.txt (D : Int)).size : Int)) = True := eq_true (by omega)
 have tF : decide (0 < ((Sv.txt (D : Int)).size : Int)) = true := decide_eq_true (by omega)
 have tG := eq_true t0
 have tH : ((n : Int) != n) = false := bne_self_eq_false _
 obtain ⟨p0, p1, -, -⟩ := b2 B0
 go_upto_region 8 with fail
 clear tA tB tC tD tE tF tG tH t0 hDt hDp
 have hwh : ∀ p ∈ qs ++ [q], Sv.rtxt (p * r) = Sv.txt (p * r).num := fun p hp => rtxt_of_int (by rw [← hr]; exact mul_whole (by rw [← hD]; exact den_dvd_lcmD hp))
 have hmul : ∀ p ∈ qs ++ [q], ∃ k, Z0 (rAMul.f k (Sv.rtxt p) (Sv.txt (D : Int)) = some (Sv.txt (p * r).num, 0)) := fun p hp => by
  obtain ⟨k, A⟩ := (mulE p r (by have := hqa p hp; omega)).as
  rw [hrt, hwh p hp] at A
  exact ⟨k, A⟩
 replace hwh := Z0.mk hwh
 go_wp2
 go_loopw [67] (fun i wr => ∃ j : Nat, j ≤ n ∧ i = .int .i64 j ∧ Z0 (wr.heap[w.heap.size]? = some (.cells #[.slice A0 n c0, .string (Sv.rtxt q)] 25 (0, 0))) ∧ Z0 (Kd.string.C wr X9 n (qs.map fun p => Sv.txt (p * r).num)) ∧ Z0 (Below w.heap.size w wr))
  (fun i _ => n - (Go.RowKit.intOf i).toNat)
 case atStart => exact ⟨0, by omega, rfl, B0, C9, HB⟩
 clear B0 C9 HB p0 p1
 obtain ⟨j, hj, rfl, B0, C9, HB⟩ := hrel
 rcases Nat.lt_or_ge j n with h4 | h4
 · have c4 : decide ((j : Int) < n) = true := decide_eq_true (by omega)
   have hjq : j < qs.length := by have := en.out; omega
   obtain ⟨p, hp⟩ : ∃ p, qs[j] = p := ⟨_, rfl⟩
   obtain ⟨ad, rfl, hxx, x1, x2⟩ := asI (Kd.C_below D0.out HB.out) (j : Int) (by omega) (by omega)
   rw [Int.toNat_natCast, show rdOf ByteArray.empty (qs.map Sv.rtxt) (j : Int) = Sv.rtxt p by rw [← hp]; simp [rdOf, hjq]] at hxx
   obtain ⟨km, Am⟩ := hmul p (List.mem_append_left _ (by rw [← hp]; exact List.getElem_mem _))
   obtain ⟨ac, hac, -, y1, y2⟩ := asI C9.out (j : Int) (by omega) (by omega)
   subst hac
   have hyy : ∀ u, Z0 (Kd.string.C u (some ac) n (qs.map fun p => Sv.txt (p * r).num)) → u.cell? (ac.add j) = some (.string (Sv.txt (p * r).num)) := fun u h => by
    obtain ⟨ac', e', hy, -, -⟩ := asI h.out (j : Int) (by omega) (by omega)
    obtain rfl : ac = ac' := by injection e'
    rw [Int.toNat_natCast, show rdOf ByteArray.empty (qs.map fun p => Sv.txt (p * r).num) (j : Int) = Sv.txt (p * r).num by rw [← hp]; simp [rdOf, hjq]] at hy
    exact hy
   have sne : ((Sv.txt (p * r).num).toList != (Sv.txt (p * r).num).toList) = false := bne_self_eq_false _
   go_wp2_with (refine cG rfl ?_; intro w' hb; replace B0 := fk B0 hb; replace C9 := Z0.mk (Kd.C_below C9.out hb); replace HB := fB HB hb; clear hb hxx; have hy9 := hyy _ C9)
   exact ⟨⟨j + 1, by omega, by simp, B0, C9, HB⟩, by simp [Go.RowKit.intOf]; omega⟩
 obtain rfl : j = n := by omega
 have c4 : decide ((j : Int) < j) = false := decide_eq_false (by omega)
 obtain ⟨p0, p1, -, -⟩ := b2 B0
 obtain ⟨km, Am⟩ := hmul q (by simp)
 have sne : ((Sv.txt (q * r).num).toList != (Sv.txt (q * r).num).toList) = false := bne_self_eq_false _
 go_upto_region 18 with (refine cG rfl ?_; intro w' hb; replace B0 := fk B0 hb; replace HB := fB HB hb; clear hb p0 p1)
 clear C9 Am sne c4 hmul
 go_upto_region 19 with ((with_reducible refine gd_ 103 rfl ?_); refine litS partsT ?_; intro AU cU wU hb hcU CU; replace CU := Z0.mk CU; replace B0 := fk B0 hb; replace HB := fB HB hb; clear hb hcU)
 go_wp2
 have en2 : Z0 ((qs ++ [q]).length = j + 1) := ⟨by rw [List.length_append, ← en.out]; rfl⟩
 go_loopw [105] (fun i wr => ∃ k : Nat, k ≤ 4 ∧ i = .int .i64 k ∧ Z0 (wr.heap[w.heap.size]? = some (.cells #[.slice A0 j c0, .string (Sv.rtxt q)] 25 (0, 0))) ∧ Z0 (Kd.string.C wr AU 4 partsT) ∧ Z0 (Below w.heap.size w wr))
  (fun i _ => 4 - (Go.RowKit.intOf i).toNat)
 case atStart => exact ⟨0, by omega, rfl, B0, CU, HB⟩
 clear B0 CU HB
 obtain ⟨k, hk, rfl, B0, CU, HB⟩ := hrel
 rcases Nat.lt_or_ge k 4 with h5 | h5
 case inr =>
  obtain rfl : k = 4 := by omega
  have c5 : decide (((4 : Nat) : Int) < 4) = false := decide_eq_false (by omega)
  go_wp2_with (refine cG rfl ?_; intro w' hb; replace HB := fB HB hb; clear hb)
  go_ret
  exact ⟨rfl, HB.out⟩
 have c5 : decide ((k : Int) < 4) = true := decide_eq_true (by omega)
 have hkp : k < parts.length := h5
 obtain ⟨x, hx⟩ : ∃ x, parts[k] = x := ⟨_, rfl⟩
 obtain ⟨hu1, hu2, hu3⟩ := parts_ok x (by rw [← hx]; exact List.getElem_mem _)
 obtain ⟨adu, rfl, huu, x1, x2⟩ := asI CU.out (k : Int) (by omega) (by omega)
 rw [Int.toNat_natCast, show rdOf ByteArray.empty partsT (k : Int) = Sv.rtxt x.1 by rw [parts_txt, ← hx]; simp [rdOf, hkp]] at huu
 obtain ⟨km2, Am⟩ := (mulE r x.1 (by omega)).as
 have hln := ndR_mul r x.1
 obtain ⟨less, hless⟩ : ∃ z, r * x.1 = z := ⟨_, rfl⟩
 have hlk : less * ((x.2 : Nat) : Rat) = ((D : Nat) : Rat) := by rw [← hless, Rat.mul_assoc, hu1, Rat.mul_one, hr]
 rw [hrt, hless] at Am
 rw [hless] at hln
 have hln : ndR less ≤ 3500 := by omega
 obtain ⟨kb, Ab⟩ := (botQ (p := less) (by omega)).as
 replace hlk := Z0.mk hlk
 go_upto_region 22 with (refine cG rfl ?_; intro w' hb; replace B0 := fk B0 hb; replace CU := Z0.mk (Kd.C_below CU.out hb); replace HB := fB HB hb; clear hb huu)
 by_cases h1 : less.den = 1
 case neg =>
  have s1 : ((Sv.txt (less.den : Int)).toList == ([49] : List UInt8)) = false := by rw [one_txt, decide_eq_false h1]
  go_wp2_with (refine cG rfl ?_; intro w' hb; replace B0 := fk B0 hb; replace CU := Z0.mk (Kd.C_below CU.out hb); replace HB := fB HB hb; clear hb)
  exact ⟨⟨k + 1, by omega, by simp, B0, CU, HB⟩, by simp [Go.RowKit.intOf]; omega⟩
 have s1 : ((Sv.txt (less.den : Int)).toList == ([49] : List UInt8)) = true := by rw [one_txt, decide_eq_true h1]
 have hNL := Z0.mk (not_less (qs ++ [q]) D x.2 hD hu2 less hlk.out h1)
 replace h1 := Z0.mk h1
 go_upto_region 26 with (refine cG rfl ?_; intro w' hb; replace B0 := fk B0 hb; replace CU := Z0.mk (Kd.C_below CU.out hb); replace HB := fB HB hb; clear hb)
 clear s1 Am Ab h1 hlk hu1 hu2 hu3
 obtain ⟨S_, hS_⟩ : ∃ S_ : World → Prop, Z0 (S_ = fun u => u.cell? ⟨w.heap.size, 0, none⟩ = some (.slice A0 j c0) ∧ u.cell? ⟨w.heap.size, 1, none⟩ = some (.string (Sv.rtxt q))) := ⟨_, ⟨rfl⟩⟩
 generalize hwz : w' = wz at *
 clear hwz
 have hdr := (Below.refl wz.heap.size wz).drew
 replace B0 := Z0.mk (blk_below B0.out hdr)
 replace CU := Z0.mk (Kd.C_below CU.out hdr)
 replace HB := Z0.mk (below_step HB.out hdr)
 have hS0 : S_ wz.drew := by rw [hS_.out]; exact ⟨(b2 B0).1, (b2 B0).2.1⟩
 refine start_ (n := 10) (S := S_) (ds := []) _ (by kernel_rfl) rfl rfl hS0 (fun _ => ?_)
 clear hS0
 clear hdr
 generalize wz.drew = W0 at *
 have hNon : ∀ u u', Below W0.heap.size W0 u → Below u.heap.size u u' → Below W0.heap.size W0 u' := fun u u' h hb => below_step h hb
 have hNS : ∀ u, Below W0.heap.size W0 u → S_ u := fun u h => by
  have := Z0.mk (blk_below B0.out h)
  rw [hS_.out]
  exact ⟨(b2 this).1, (b2 this).2.1⟩
 have hN0 := Below.refl W0.heap.size W0
 refine tp 1 121 ?_
 refine tk 2 122 (v := .slice A0 j c0) (hNS _ hN0) ?_ (hy := by refine Or.inl ⟨by rfl, ?_⟩; intro w' hs; rw [hS_.out] at hs; obtain ⟨h0, h1⟩ := hs; go_simp; try with_reducible rfl)
 refine tp 4 124 ?_
 refine tk 5 125 (v := .string (Sv.rtxt q)) (hNS _ hN0) ?_ (hy := by refine Or.inl ⟨by rfl, ?_⟩; intro w' hs; rw [hS_.out] at hs; obtain ⟨h0, h1⟩ := hs; go_simp; try with_reducible rfl)
 refine tp 9 129 ?_
 refine pendvs 126 (fun b => #[false, true, true, false, true, true, b, false, false, true]) (n := 3) (mk := fun g => .slice (some ⟨g, 0, none⟩) 1 1) (n0 := W0.heap.size) (ob := .cells #[.string (Sv.rtxt q)] 23) (b := false) 0 6 (AFv.start (Nat.le_refl _)) hN0 (fun b x u hAF hBu => ?_) hNon hNS
 refine pev 0 120 (v := .slice (some ⟨u.heap.size, 0, none⟩) 0 0) (w1 := u.alloc (.cells #[] 23)) ?hr ?_
 case hr => go_simp; try rfl
 have hb0 := below_alloc (Below.refl u.heap.size u) (.cells #[] 23)
 have HO := blk_new u (.cells #[] 23)
 have hgz := hAF.n
 have hAF1 := hAF.on hb0
 have hBu1 := hNon _ _ hBu hb0
 refine ⟨hNS _ hBu1, ?_⟩
 clear hAF hBu hb0
 simp only [Act.put, List.setIfInBounds_toArray, List.set_cons_zero, List.set_cons_succ]
 generalize u.heap.size = gz at *
 generalize u.alloc (.cells #[] 23) = W1 at *
 refine pendvs 126 (fun b => #[true, true, true, false, true, true, b, false, false, true]) (n := 2) (B := fun u => Below W0.heap.size W0 u ∧ u.heap[gz]? = some (.cells #[] 23 (0, 0))) 3 6 hAF1 ⟨hBu1, HO⟩ (fun b x u hAF hBu => ?_) (fun _ _ h hb => ⟨hNon _ _ h.1 hb, blk_below h.2 hb⟩) (fun _ h => hNS _ h.1)
 clear hAF1 hBu1 HO
 obtain ⟨hBu, HZ⟩ := hBu
 have HO := R_empty (base := W0.heap.size) HZ hgz
 refine plst 3 ?_
 refine Kd.R_append_rows Kd.string (w0 := u) W0.heap.size rfl (.tmp 120) (.tmp 122) 22 23 (.string ⟨#[]⟩) 16 rfl Tryz.underlying22 infoRat rfl (by decide) (by decide) _ [] (qs.map Sv.rtxt) A0 j c0 (fun _ => True) (fun _ => False) rfl rfl HO (Kd.C_below (Kd.C_below D0.out HB.out) hBu) (fun _ _ h => h) (fun _ h => h.elim) (fun _ _ => trivial) (Below.refl _ _) hAF.n (by simp only [List.length_nil, Nat.zero_add, ← hn.out]; omega) ?_
 intro v1 w1 HO1 hb1 hg1 _
 have hBu1 := hBu.trans hb1
 have hAF1 := hAF.keep hb1.size (fun g hg => (hg1.block g (blk_lt hg) (by
  intro e
  have e : g = gz := by injection e
  subst e
  rw [hg] at HZ
  injection HZ with HZ
  injection HZ with HZ
  simp at HZ)).trans hg)
 refine ⟨fun _ _ => hNS _ hBu1, ?_⟩
 rw [List.nil_append] at HO1
 obtain ⟨X1, d1, rfl, HO2⟩ := R_cut (m := j) ⟨HO1⟩ hn.out.symm
 clear hAF HO HO1 hBu hb1 hg1 HZ hgz
 simp only [List.getElem_toArray, List.getElem_cons_succ, List.getElem_cons_zero, Act.put, List.setIfInBounds_toArray, List.set_cons_zero, List.set_cons_succ]
 refine pendvz 126 (fun b => #[true, true, true, true, true, true, b, false, false, true]) (n := 2) (B := fun u => Below W0.heap.size W0 u ∧ Kd.R Kd.string 23 u W0.heap.size (fun _ => True) (.slice X1 j d1) (qs.map Sv.rtxt)) 6 hAF1 ⟨hBu1, HO2.out⟩ (fun x u hAF hBu => ?_) (fun _ _ h hb => ⟨hNon _ _ h.1 hb, Kd.R_below h.2 hb⟩) (fun _ h => hNS _ h.1)
 clear hAF1 hBu1 HO2
 obtain ⟨gm, rfl, hgm, Bm⟩ := hAF.p rfl
 obtain ⟨hBu, HO⟩ := hBu
 have hAn := hAF.n
 clear hAF
 simp only [Act.put, List.setIfInBounds_toArray, List.set_cons_zero, List.set_cons_succ]
 have CL : Kd.string.C u (some ⟨gm, 0, none⟩) 1 [Sv.rtxt q] := Kd.C_of_reads (d := ByteArray.empty) ⟨rfl, by omega, fun _ => ⟨⟨gm, 0, none⟩, rfl, fun i hi => by
  obtain rfl : i = 0 := by omega
  rw [add_plain]
  exact (blk_cell Bm 0).trans rfl⟩⟩
 refine lst 7 ?_
 refine Kd.R_append_rows Kd.string (w0 := u) W0.heap.size rfl (.tmp 123) (.tmp 126) 22 23 (.string ⟨#[]⟩) 16 rfl Tryz.underlying22 infoRat rfl (by decide) (by decide) _ (qs.map Sv.rtxt) [Sv.rtxt q] (some ⟨gm, 0, none⟩) 1 1 (fun _ => True) (fun _ => False) rfl rfl HO CL (fun _ _ h => h) (fun _ h => h.elim) (fun _ _ => trivial) (Below.refl _ _) hAn (by simp only [← hn.out, List.length_cons, List.length_nil]; omega) ?_
 intro v2 w2 HO3 hb2 hg2 _
 have hBu2 := hBu.trans hb2
 refine ⟨fun _ => hNS _ hBu2, ?_⟩
 obtain ⟨X2, d2, rfl, HO4⟩ := R_cut (m := j + 1) ⟨HO3⟩ (by rw [List.length_append, ← hn.out]; rfl)
 clear HO HO3 hb2 hg2 CL Bm hBu
 simp only [List.getElem_toArray, List.getElem_cons_succ, List.getElem_cons_zero, Act.put, List.setIfInBounds_toArray, List.set_cons_zero, List.set_cons_succ]
 refine tp 8 128 ?_
 refine done_ (by kernel_rfl) ?_
 have CL := (Kd.R_reads' HO4.out).2.2
 rw [show qs.map Sv.rtxt ++ [Sv.rtxt q] = (qs ++ [q]).map Sv.rtxt by rw [List.map_append]; rfl, List.length_map, en2.out] at CL
 replace CL := Z0.mk CL
 replace B0 := Z0.mk (blk_below B0.out hBu2)
 replace CU := Z0.mk (Kd.C_below CU.out hBu2)
 replace HB := Z0.mk (below_step HB.out hBu2)
 clear HO4 hBu2 hNS hNon hN0
 obtain ⟨LL, hLL⟩ : ∃ LL, qs ++ [q] = LL := ⟨_, rfl⟩
 rw [hLL] at CL hNL hqa en2
 go_wp2
 go_loopw [129, 17] (fun i v wr => ∃ (m : Nat) (b : Bool), m ≤ j + 1 ∧ i = .int .i64 m ∧ v = .bool b ∧ Z0 (b = true ↔ ∀ c ∈ LL.take m, (c * less).den = 1) ∧ Z0 (Kd.string.C wr X2 (j + 1) (LL.map Sv.rtxt)) ∧ Z0 (wr.heap[w.heap.size]? = some (.cells #[.slice A0 j c0, .string (Sv.rtxt q)] 25 (0, 0))) ∧ Z0 (Kd.string.C wr (some adu) 4 partsT) ∧ Z0 (Below w.heap.size w wr))
  (fun i _ _ => j + 1 - (Go.RowKit.intOf i).toNat)
 case atStart => exact ⟨0, true, by omega, rfl, rfl, ⟨by simp⟩, CL, B0, CU, HB⟩
 clear CL B0 CU HB
 obtain ⟨m, b, hm, rfl, rfl, hbb, CL, B0, CU, HB⟩ := hrel
 rcases Nat.lt_or_ge m (j + 1) with h6 | h6
 case inr =>
  obtain rfl : m = j + 1 := by omega
  have c6 : decide (((j + 1 : Nat) : Int) < (j : Int) + 1) = false := decide_eq_false (by omega)
  have c6' : decide ((j : Int) + 1 < (j : Int) + 1) = false := decide_eq_false (by omega)
  have hbf : b = false := by
   cases b with
   | false => rfl
   | true => exact absurd (fun c hc => hbb.out.1 (by first | rfl | trivial) c (by rw [List.take_of_length_le (by rw [en2.out]; exact Nat.le_refl _)]; exact hc)) hNL.out
  subst hbf
  go_wp2
  exact ⟨⟨k + 1, by omega, by simp, B0, CU, HB⟩, by simp [Go.RowKit.intOf]; omega⟩
 have c6 : decide ((m : Int) < (j : Int) + 1) = true := decide_eq_true (by omega)
 have hmL : m < LL.length := by have := en2.out; omega
 obtain ⟨c, hc⟩ : ∃ c, LL[m] = c := ⟨_, rfl⟩
 have hcd : ndR c ≤ 100 := hqa c (by rw [← hc]; exact List.getElem_mem _)
 have hcm := ndR_mul c less
 obtain ⟨kc, Ac⟩ := (mulE c less (by omega)).as
 obtain ⟨kd, Ad⟩ := (ref_CheckQ (c * less) (by omega)).as
 obtain ⟨ke, Ae⟩ := (botQ (p := c * less) (by omega)).as
 obtain ⟨adl, rfl, hll, z1, z2⟩ := asI CL.out (m : Int) (by omega) (by omega)
 have z3 : ((m : Int) < (j : Int) + 1) = True := eq_true (by omega)
 rw [Int.toNat_natCast, show rdOf ByteArray.empty (LL.map Sv.rtxt) (m : Int) = Sv.rtxt c by rw [← hc]; simp [rdOf, hmL]] at hll
 have htk : ∀ P : Rat → Prop, (∀ x ∈ LL.take (m + 1), P x) ↔ (∀ x ∈ LL.take m, P x) ∧ P c := fun P => by
  rw [take_succ_get LL m hmL, hc]
  constructor
  · exact fun h => ⟨fun x hx => h x (List.mem_append_left _ hx), h c (List.mem_append_right _ (by simp))⟩
  · rintro ⟨h1, h2⟩ x hx
    rcases List.mem_append.1 hx with hx | hx
    · exact h1 x hx
    · rw [List.mem_singleton.1 hx]; exact h2
 replace htk := Z0.mk htk
 replace hLL := Z0.mk hLL
 cases b with
 | false =>
  go_wp2_with (refine cG rfl ?_; intro w' hb; replace CL := Z0.mk (Kd.C_below CL.out hb); replace B0 := fk B0 hb; replace CU := Z0.mk (Kd.C_below CU.out hb); replace HB := fB HB hb; clear hb hll)
  refine ⟨⟨m + 1, false, by omega, by simp, rfl, ⟨?_⟩, CL, B0, CU, HB⟩, by simp [Go.RowKit.intOf]; omega⟩
  rw [htk.out (fun x => (x * less).den = 1)]
  exact ⟨fun h => (by cases h), fun h => hbb.out.2 h.1⟩
 | true =>
  by_cases hw1 : (c * less).den = 1
  · have s1 : ((Sv.txt ((c * less).den : Int)).toList == ([49] : List UInt8)) = true := by rw [one_txt, decide_eq_true hw1]
    replace hw1 := Z0.mk hw1
    go_wp2_with (first
     | (go_at_call 26; refine cC ?_; intro w' hb; replace CL := Z0.mk (Kd.C_below CL.out hb); replace B0 := fk B0 hb; replace CU := Z0.mk (Kd.C_below CU.out hb); replace HB := fB HB hb; clear hb)
     | (go_at_call 25; refine cC ?_; intro w' hb; replace CL := Z0.mk (Kd.C_below CL.out hb); replace B0 := fk B0 hb; replace CU := Z0.mk (Kd.C_below CU.out hb); replace HB := fB HB hb; clear hb)
     | (refine cG rfl ?_; intro w' hb; replace CL := Z0.mk (Kd.C_below CL.out hb); replace B0 := fk B0 hb; replace CU := Z0.mk (Kd.C_below CU.out hb); replace HB := fB HB hb; clear hb hll))
    refine ⟨⟨m + 1, true, by omega, by simp, rfl, ⟨?_⟩, CL, B0, CU, HB⟩, by simp [Go.RowKit.intOf]; omega⟩
    rw [htk.out (fun x => (x * less).den = 1)]
    exact ⟨fun _ => ⟨hbb.out.1 (by first | rfl | trivial), hw1.out⟩, fun _ => rfl⟩
  · have s1 : ((Sv.txt ((c * less).den : Int)).toList == ([49] : List UInt8)) = false := by rw [one_txt, decide_eq_false hw1]
    replace hw1 := Z0.mk hw1
    go_wp2_with (first
     | (go_at_call 26; refine cC ?_; intro w' hb; replace CL := Z0.mk (Kd.C_below CL.out hb); replace B0 := fk B0 hb; replace CU := Z0.mk (Kd.C_below CU.out hb); replace HB := fB HB hb; clear hb)
     | (go_at_call 25; refine cC ?_; intro w' hb; replace CL := Z0.mk (Kd.C_below CL.out hb); replace B0 := fk B0 hb; replace CU := Z0.mk (Kd.C_below CU.out hb); replace HB := fB HB hb; clear hb)
     | (refine cG rfl ?_; intro w' hb; replace CL := Z0.mk (Kd.C_below CL.out hb); replace B0 := fk B0 hb; replace CU := Z0.mk (Kd.C_below CU.out hb); replace HB := fB HB hb; clear hb hll))
    refine ⟨⟨m + 1, false, by omega, by simp, rfl, ⟨?_⟩, CL, B0, CU, HB⟩, by simp [Go.RowKit.intOf]; omega⟩
    rw [htk.out (fun x => (x * less).den = 1)]
    exact ⟨fun h => (by cases h), fun h => absurd h.2 hw1.out⟩
end Go.Proofs.YtihbebbabjklkaaGreatDoor.PA
