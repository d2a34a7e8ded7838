import Derived.Test.YtgihllbgjpcapaaGreatDoorAG10
import Derived.Test.YtgihllbgjpcapaaGreatDoorAG9
import Derived.Test.YtgihllbgjpcapaaGreatDoorAG6
set_option maxHeartbeats 8000000
set_option maxRecDepth 100000
set_option linter.unusedVariables false
namespace Go.Proofs.YtgihllbgjpcapaaGreatDoor.PA
set_option linter.unusedVariables false
set_option linter.unusedSimpArgs false
open Go.RowKit Go.Shelf Go.Proofs.WWords Go.Proofs.WLast Go.Proofs.WMore
theorem FewText_ok (s : ByteArray) (b : Bool) (w : World) (hb : Z0 (decide (s.size ≤ 450) = b)) :
  Calls Tryz.prog 15 #[.string s] w fun e w' => e = .returned (.bool b) ∧ Below w.heap.size w w' := by
 have HB := Z0.mk (Below.refl w.heap.size w)
 have c1 : decide ((s.size : Int) ≤ 450) = b := by rw [← hb.out]; exact decide_eq_decide.2 (by omega)
 clear hb
 go_enter Tryz.func15, Tryz.ntmps15
 go_wp2
 go_ret
 exact ⟨rfl, HB.out⟩
instance nk_FewText : Ctr 15 (type_of% @FewText_ok) := ⟨@FewText_ok, _, Tryz.func15, by kernel_rfl, rfl⟩
def fewB (l : List ByteArray) (s : ByteArray) : Bool := decide (l.length ≤ 40) && (decide (s.size ≤ 450) && l.all fun x => decide (x.size ≤ 450))
theorem Few_ok (A : Option Addr) (n c : Nat) (l : List ByteArray) (s : ByteArray) (b : Bool) (w : World) (hC : Z0 (Kd.string.C w A n l)) (hn : n = l.length) (hb : Z0 (fewB l s = b)) :
  Calls Tryz.prog 8 #[.agg #[.slice A n c, .string s]] w fun e w' => e = .returned (.bool b) ∧ Below w.heap.size w w' := by
 have HB := Z0.mk (Below.refl w.heap.size w)
 have hCw := hC
 have h := hb.out
 unfold fewB at h
 clear hb
 replace hn := Z0.mk hn
 obtain ⟨z, hz⟩ : ∃ z, Z0 (decide (s.size ≤ 450) = z) := ⟨_, ⟨rfl⟩⟩
 rw [hz.out] at h
 go_enter Tryz.func8, Tryz.ntmps8
 go_upto_region 1 with (fail)
 refine al1 ?_
 intro W hb B0
 replace HB := fB HB hb
 obtain ⟨p0, p1, -, -⟩ := b2 B0
 clear hb
 by_cases h1 : 40 < n
 · have c1 : decide (40 < (n : Int)) = true := decide_eq_true (by omega)
   obtain rfl : false = b := by rw [← h, decide_eq_false (by have := hn.out; omega)]; rfl
   clear h h1
   go_wp2
   go_ret
   exact ⟨rfl, HB.out⟩
 have c1 : decide (40 < (n : Int)) = false := decide_eq_false (by omega)
 rw [decide_eq_true (by have := hn.out; omega), Bool.true_and] at h
 cases z with
 | false =>
  rw [Bool.false_and] at h
  subst h
  go_wp2_with (go_at_call 15; refine (FewText_ok _ _ _ hz).mono ?_; rintro _ w' ⟨rfl, hb⟩; replace B0 := fk B0 hb; replace HB := fB HB hb; clear hb p0 p1; obtain ⟨p0, p1, -, -⟩ := b2 B0)
  go_ret
  exact ⟨rfl, HB.out⟩
 | true =>
  rw [Bool.true_and] at h
  go_wp2_with (go_at_call 15; refine (FewText_ok _ _ _ hz).mono ?_; rintro _ w' ⟨rfl, hb⟩; replace B0 := fk B0 hb; replace HB := fB HB hb; clear hb p0 p1; obtain ⟨p0, p1, -, -⟩ := b2 B0)
  go_loopw [3] (fun i wr => ∃ j : Nat, j ≤ n ∧ i = .int .i64 j ∧ ((l.drop j).all fun x => decide (x.size ≤ 450)) = b ∧ Z0 (wr.heap[w.heap.size]? = some (.cells #[.slice A n c, .string s] 25 (0, 0))) ∧ Z0 (Below w.heap.size w wr))
   (fun i _ => n - (Go.RowKit.intOf i).toNat)
  case atStart => exact ⟨0, by omega, rfl, h, B0, HB⟩
  clear B0 HB hC h p0 p1
  obtain ⟨j, hj, rfl, h, B0, HB⟩ := hrel
  obtain ⟨p0, p1, -, -⟩ := b2 B0
  rcases Nat.lt_or_ge j n with h4 | h4
  · have c4 : decide ((j : Int) < n) = true := decide_eq_true (by omega)
    have hjl : j < l.length := by have := hn.out; omega
    obtain ⟨x, hx⟩ : ∃ x, l[j] = x := ⟨_, rfl⟩
    rw [List.drop_eq_getElem_cons hjl, List.all_cons, hx] at h
    obtain ⟨ad, rfl, hxx, x1, x2⟩ := asI (Kd.C_below hCw.out HB.out) (j : Int) (by omega) (by omega)
    rw [Int.toNat_natCast, show rdOf ByteArray.empty l (j : Int) = x by rw [← hx]; simp [rdOf, hjl]] at hxx
    clear hx
    obtain ⟨u, hu⟩ : ∃ u, Z0 (decide (x.size ≤ 450) = u) := ⟨_, ⟨rfl⟩⟩
    rw [hu.out] at h
    cases u with
    | true =>
     rw [Bool.true_and] at h
     replace h := Z0.mk h
     go_wp2_with (refine cG rfl ?_; intro w' hb; replace B0 := fk B0 hb; replace HB := fB HB hb; clear hb p0 p1; obtain ⟨p0, p1, -, -⟩ := b2 B0)
     refine ⟨⟨j + 1, by omega, by simp, h.out, B0, HB⟩, by simp [Go.RowKit.intOf]; omega⟩
    | false =>
     rw [Bool.false_and] at h
     subst h
     go_wp2_with (refine cG rfl ?_; intro w' hb; replace B0 := fk B0 hb; replace HB := fB HB hb; clear hb p0 p1; obtain ⟨p0, p1, -, -⟩ := b2 B0)
     go_ret
     exact ⟨rfl, HB.out⟩
  obtain rfl : j = n := by omega
  have c4 : decide ((j : Int) < j) = false := decide_eq_false (by omega)
  rw [List.drop_of_length_le (by rw [hn.out]; exact Nat.le_refl _)] at h
  obtain rfl : true = b := h
  go_wp2
  go_ret
  exact ⟨rfl, HB.out⟩
instance nk_Few : Ctr 8 (type_of% @Few_ok) := ⟨@Few_ok, _, Tryz.func8, by kernel_rfl, rfl⟩
theorem FewRats_ok (A : Option Addr) (n c : Nat) (l : List ByteArray) (b : Bool) (w : World) (hC : Z0 (Kd.string.C w A n l)) (hn : n = l.length) (hb : Z0 (fewB l ⟨#[]⟩ = b)) :
  Calls Tryz.prog 16 #[.slice A n c] w fun e w' => e = .returned (.bool b) ∧ Below w.heap.size w w' := by
 have HB := Z0.mk (Below.refl w.heap.size w)
 have hu := Tryz.underlying25
 replace hn := Z0.mk hn
 go_enter Tryz.func16, Tryz.ntmps16
 go_wp2_with ((with_reducible refine gc_ 8 rfl ?_); refine gL 5 Tryz.func8 (Few_ok A n c l ⟨#[]⟩ b _ hC hn.out hb) ?_; rintro _ w6 ⟨rfl, hb⟩; refine ⟨_, rfl, ?_⟩; replace HB := fB HB hb; clear hb)
 go_ret
 exact ⟨rfl, HB.out⟩
noncomputable def movA (tv : List Int) (n : Nat) (qs : List Rat) : Nat → List Rat
 | 0 => List.replicate n 0
 | j + 1 => (movA tv n qs j).set (tv.getD j 0).toNat ((movA tv n qs j).getD (tv.getD j 0).toNat 0 + qs.getD j 0)
theorem movA_length (tv : List Int) (n : Nat) (qs : List Rat) (j : Nat) : (movA tv n qs j).length = n := by
 induction j with
 | zero => exact List.length_replicate
 | succ j ih => unfold movA; rw [List.length_set, ih]
theorem refMoved_ok (A T : Option Addr) (n c c' N : Nat) (qs : List Rat) (q : Rat) (tv : List Int) (w : World) (hC : Z0 (Kd.string.C w A n (qs.map Sv.rtxt))) (hC' : Z0 (Kd.C (Kd.int .i64) w T n tv)) (hn : n = qs.length) (hn' : n = tv.length) (hm : n ≤ 100) (hN : N ≤ 1000) (ht : tosOk tv N = true) (hq : ∀ p ∈ qs, ndR p ≤ 100) :
  Calls Tryz.prog 47 #[.agg #[.slice A n c, .string (Sv.rtxt q)], .slice T n c', .int .i64 N] w fun e w' => ∃ X d, e = .returned (.agg #[.slice X N d, .string (Sv.rtxt q)]) ∧ Kd.R Kd.string 23 w' w.heap.size (fun _ => True) (.slice X N d) ((movA tv N qs n).map Sv.rtxt) ∧ Below w.heap.size w w' := by
 have HB := Z0.mk (Below.refl w.heap.size w)
 have hu := Tryz.underlying25
 have hCw := hC
 have hCw' := hC'
 replace hn := Z0.mk hn
 replace hn' := Z0.mk hn'
 go_enter Tryz.func47, Tryz.ntmps47
 go_upto_region 1 with (fail)
 refine al2 ?_
 intro W hb B0 B1
 replace HB := fB HB hb
 obtain ⟨p0, p1, -, -⟩ := b2 B0
 clear hb
 go_upto_region 2 with ((with_reducible refine gc_ 66 rfl ?_); refine gL 12 Tryz.func66 (refFlat_ok N N (Sv.rtxt q) _ ⟨rfl⟩ hN) ?_; rintro _ w2 ⟨X, d, rfl, HO, hb⟩; refine ⟨_, rfl, ?_⟩; replace HO := Z0.mk (Kd.R_lower HO HB.out.size); have hl2 := Z0.mk (Nat.lt_of_lt_of_le (blk_lt B1.out) hb.size); replace B0 := fk B0 hb; replace B1 := fk B1 hb; replace HB := fB HB hb; clear hb p0 p1)
 refine al1 ?_
 intro W3 hb B2
 replace B0 := fk B0 hb
 replace B1 := fk B1 hb
 replace HB := fB HB hb
 replace HO := Z0.mk (Kd.R_below HO.out hb)
 clear hb
 generalize w2.heap.size = g2 at *
 have z2 : w.heap.size + 1 < g2 := hl2.out
 go_wp2
 go_loopw [8] (fun i wr => ∃ j : Nat, j ≤ n ∧ i = .int .i64 j ∧ Z0 (Kd.R Kd.string 23 wr w.heap.size (fun _ => True) (.slice X N d) ((movA tv N qs j).map Sv.rtxt)) ∧ (∀ q ∈ movA tv N qs j, ndR q ≤ 1 + 102 * j) ∧ Z0 (wr.heap[w.heap.size]? = some (.cells #[.slice A n c, .string (Sv.rtxt q)] 25 (0, 0))) ∧ Z0 (wr.heap[w.heap.size + 1]? = some (.cells #[.slice none 0 0, .string ⟨#[]⟩] 25 (0, 0))) ∧ Z0 (wr.heap[g2]? = some (.cells #[.slice X N d, .string (Sv.rtxt q)] 25 (0, 0))) ∧ Z0 (Below w.heap.size w wr))
  (fun i _ => n - (Go.RowKit.intOf i).toNat)
 case atStart =>
  refine ⟨0, by omega, rfl, ?_, fun q hq => by rw [List.eq_of_mem_replicate hq]; exact ndR_0, B0, B1, B2, HB⟩
  have : zeros N = (movA tv N qs 0).map Sv.rtxt := by
   show _ = (List.replicate N (0 : Rat)).map Sv.rtxt
   rw [List.map_replicate]; rfl
  rw [this] at HO
  exact HO
 clear B0 B1 B2 HB hC hC' HO
 obtain ⟨j, hj, rfl, HO, hnd, B0, B1, B2, HB⟩ := hrel
 obtain ⟨p0, p1, -, -⟩ := b2 B0
 obtain ⟨q0, q1, -, -⟩ := b2 B2
 rcases Nat.lt_or_ge j n with h4 | h4
 · have c4 : decide ((j : Int) < n) = true := decide_eq_true (by omega)
   have hjq : j < qs.length := by have := hn.out; omega
   have hjt : j < tv.length := by have := hn'.out; omega
   obtain ⟨p, hp⟩ : ∃ p, qs[j] = p := ⟨_, rfl⟩
   have hpd : ndR p ≤ 100 := hq p (by rw [← hp]; exact List.getElem_mem _)
   have htj := tosOk_get ht j hjt
   obtain ⟨tq, htk⟩ : ∃ tq : Nat, tv[j] = tq := ⟨tv[j].toNat, by omega⟩
   rw [htk] at htj
   have htg : tv.getD j 0 = tq := by rw [List.getD_eq_getElem?_getD, List.getElem?_eq_getElem hjt]; exact htk
   have hqg : qs.getD j 0 = p := by rw [List.getD_eq_getElem?_getD, List.getElem?_eq_getElem hjq]; exact hp
   have htN : tq < N := by omega
   have htn : tq < (movA tv N qs j).length := by rw [movA_length]; exact htN
   obtain ⟨σ, hσ⟩ : ∃ σ, (movA tv N qs j)[tq] = σ := ⟨_, rfl⟩
   have hσd : ndR σ ≤ 20000 := by
    have := hnd σ (by rw [← hσ]; exact List.getElem_mem _)
    omega
   have hrd : rdOf ByteArray.empty ((movA tv N qs j).map Sv.rtxt) (tq : Int) = Sv.rtxt σ := by simp [rdOf, htn, hσ]
   obtain ⟨ad, rfl, hxx, x1, x2⟩ := asI (Kd.C_below hCw.out HB.out) (j : Int) (by omega) (by omega)
   rw [Int.toNat_natCast, show rdOf ByteArray.empty (qs.map Sv.rtxt) (j : Int) = Sv.rtxt p by rw [← hp]; simp [rdOf, hjq]] at hxx
   obtain ⟨ta, rfl, hyy, -, -⟩ := atI (Kd.C_below hCw'.out HB.out) (j : Int) (by omega) (by omega)
   rw [Int.toNat_natCast, (rd_get tv j hjt).trans htk] at hyy
   obtain ⟨g, rfl, k0, k1, k2, k3⟩ := ownS HO (tq : Int) (by omega) (by omega)
   rw [hrd, Int.toNat_natCast] at k0
   rw [Int.toNat_natCast] at k1
   have ka1 : (Addr.mk g 0 none).add tq = ⟨g, tq, none⟩ := add_plain g tq
   go_wp2
   have hd := (Below.refl wr.heap.size wr).drew
   refine start_ (n := 22) (S := (fun w' => w'.cell? ⟨g2, 0, none⟩ = some (.slice (some ⟨g, 0, none⟩) N d) ∧ w'.cell? ⟨w.heap.size, 0, none⟩ = some (.slice (some ad) n c) ∧ w'.cell? (ta.add j) = some (.int .i64 tq) ∧ w'.cell? ⟨g, tq, none⟩ = some (.string (Sv.rtxt σ)) ∧ w'.cell? (ad.add j) = some (.string (Sv.rtxt p)))) (ds := [21]) _ (by kernel_rfl) rfl rfl ⟨q0, p0, hyy, k0, hxx⟩ (fun hHeld => ?_)
   refine tp 0 19 ?_
   refine tk 1 20 (by exact hHeld) ?_
   refine tp 2 21 ?_
   refine tp 3 22 ?_
   refine tp 4 23 ?_
   refine tk 5 24 (by exact hHeld) ?_
   refine tp 6 25 ?_
   refine tk 7 26 (by exact hHeld) ?_
   refine tp 8 27 ?_
   refine tp 9 28 ?_
   refine tp 10 29 ?_
   refine tk 11 30 (by exact hHeld) ?_
   refine tp 12 31 ?_
   refine tk 13 32 (by exact hHeld) ?_
   refine tp 14 33 ?_
   refine tk 15 34 (by exact hHeld) ?_
   refine tp 16 35 ?_
   refine tp 17 36 ?_
   refine tk 18 37 (by exact hHeld) ?_
   have HBd := Z0.mk (below_step HB.out hd)
   have HOd := Z0.mk (Kd.R_below HO.out hd)
   have B0d := Z0.mk (blk_below B0.out hd)
   have B1d := Z0.mk (blk_below B1.out hd)
   have B2d := Z0.mk (blk_below B2.out hd)
   clear B0 B1 B2 HB HO p0 p1 q0 q1 k0 k1 hHeld hxx hyy hd
   generalize wr.drew = W4 at *
   obtain ⟨S_, hS_⟩ : ∃ S_ : World → Prop, S_ = (fun w' => w'.cell? ⟨g2, 0, none⟩ = some (.slice (some ⟨g, 0, none⟩) N d) ∧ w'.cell? ⟨w.heap.size, 0, none⟩ = some (.slice (some ad) n c) ∧ w'.cell? (ta.add j) = some (.int .i64 tq) ∧ w'.cell? ⟨g, tq, none⟩ = some (.string (Sv.rtxt σ)) ∧ w'.cell? (ad.add j) = some (.string (Sv.rtxt p))) := ⟨_, rfl⟩
   have hSS : ∀ u, Z0 (Below w.heap.size w u) → Z0 (u.heap[w.heap.size]? = some (.cells #[.slice (some ad) n c, .string (Sv.rtxt q)] 25 (0, 0))) → Z0 (u.heap[g2]? = some (.cells #[.slice (some ⟨g, 0, none⟩) N d, .string (Sv.rtxt q)] 25 (0, 0))) → Z0 (Kd.R Kd.string 23 u w.heap.size (fun _ => True) (.slice (some ⟨g, 0, none⟩) N d) ((movA tv N qs j).map Sv.rtxt)) → S_ u := fun u h1 h2 h3 h5 => by
    rw [hS_]
    obtain ⟨ad', e', hx', -, -⟩ := asI (Kd.C_below hCw.out h1.out) (j : Int) (by omega) (by omega)
    obtain rfl : ad = ad' := by injection e'
    rw [Int.toNat_natCast, show rdOf ByteArray.empty (qs.map Sv.rtxt) (j : Int) = Sv.rtxt p by rw [← hp]; simp [rdOf, hjq]] at hx'
    obtain ⟨ta', e', hy', -, -⟩ := atI (Kd.C_below hCw'.out h1.out) (j : Int) (by omega) (by omega)
    obtain rfl : ta = ta' := by injection e'
    rw [Int.toNat_natCast, (rd_get tv j hjt).trans htk] at hy'
    obtain ⟨g', e4, k0, -, -, -⟩ := ownS h5 (tq : Int) (by omega) (by omega)
    obtain rfl : g = g' := by injection e4 with e4; injection e4
    rw [hrd, Int.toNat_natCast] at k0
    exact ⟨(b2 h3).1, (b2 h2).1, hy', k0, hx'⟩
   rw [← hS_]
   clear hS_
   refine cl 19 38 ⟨_, Tryz.func73, by kernel_rfl, rfl⟩ (refPlus_ok σ p W4 (by omega) (by omega)) ?_
   rintro _ W5 ⟨rfl, hb⟩
   replace HBd := Z0.mk (below_step HBd.out hb)
   replace HOd := Z0.mk (Kd.R_below HOd.out hb)
   replace B0d := Z0.mk (blk_below B0d.out hb)
   replace B1d := Z0.mk (blk_below B1d.out hb)
   replace B2d := Z0.mk (blk_below B2d.out hb)
   refine ⟨_, rfl, hSS _ HBd B0d B2d HOd, _, (by (simp only [Act.put, List.setIfInBounds_toArray, List.set_cons_zero, List.set_cons_succ]); rfl), ?_⟩
   clear hb
   obtain ⟨g', e4, k0, k1, -, -⟩ := ownS HOd (tq : Int) (by omega) (by omega)
   obtain rfl : g = g' := by injection e4 with e4; injection e4
   rw [hrd, Int.toNat_natCast] at k0
   rw [Int.toNat_natCast] at k1
   clear e4
   refine tp 20 39 ?_
   refine stL 21 ?_
   refine done_ (by kernel_rfl) ?_
   have hR5 := Kd.R_putg HOd.out (tq : Int) (Sv.rtxt (σ + p))
   have st : ((movA tv N qs j).map Sv.rtxt).set (tq : Int).toNat (Sv.rtxt (σ + p)) = (movA tv N qs (j + 1)).map Sv.rtxt := by
    rw [movA, List.map_set, htg, hqg, Int.toNat_natCast, List.getD_eq_getElem?_getD, List.getElem?_eq_getElem htn, Option.getD_some, hσ]
   rw [st] at hR5
   have hR6 := Z0.mk hR5.1
   have hgr := Z0.mk hR5.2
   have hgb := Z0.mk (Kd.R_base HOd.out g rfl)
   clear hR5 st
   go_wp2
   refine ⟨⟨j + 1, by omega, by simp, hR6, fun q hq => ?_, ⟨(hgr.out.block _ (blk_lt B0d.out) (Kd.R_ne HOd.out B0d.out (by decide))).trans B0d.out⟩, ⟨(hgr.out.block _ (blk_lt B1d.out) (Kd.R_ne HOd.out B1d.out (by decide))).trans B1d.out⟩, ⟨(hgr.out.block _ (blk_lt B2d.out) (Kd.R_ne HOd.out B2d.out (by decide))).trans B2d.out⟩, ⟨below_set HBd.out hgb.out⟩⟩, by simp [Go.RowKit.intOf]; omega⟩
   rw [movA] at hq
   rcases List.mem_or_eq_of_mem_set hq with h | h
   · have := hnd q h; omega
   · subst h
     rw [htg, hqg, Int.toNat_natCast, List.getD_eq_getElem?_getD, List.getElem?_eq_getElem htn, Option.getD_some, hσ]
     have h1 := ndR_add σ p
     have h2 := hnd σ (by rw [← hσ]; exact List.getElem_mem _)
     omega
 obtain rfl : j = n := by omega
 have c4 : decide ((j : Int) < j) = false := decide_eq_false (by omega)
 obtain ⟨r0, r1, g0, g1⟩ := b2 B1
 go_wp2
 refine bodyPost_ret (results_cell_row rfl _ _ (w.heap.size + 1) 25 #[.slice X N d, .string (Sv.rtxt q)] (0, 0) _ rfl (blk_put (blk_put B1.out 0 _ rfl) 1 _ rfl) hu rfl (by kernel_rfl)) rfl ?_
 exact ⟨X, d, rfl, Rstr_put HO.out B1.out _ _, below_set (below_set HB.out (by omega)) (by omega)⟩
theorem set_self0 (m : List Rat) (i : Nat) : m.set i (m.getD i 0 + 0) = m := by
 rw [Rat.add_zero]
 apply List.ext_getElem?
 intro j
 rw [List.getElem?_set]
 split
 · subst_vars
   split
   · rename_i h; rw [List.getD_eq_getElem?_getD, List.getElem?_eq_getElem h]; rfl
   · rename_i h; rw [List.getElem?_eq_none (by omega)]
 · rfl
theorem movT_eq (qs : List Rat) (tv : List Int) (n k : Nat) (hk : k ≤ qs.length) : movT tv n (tmL (qs.map Sv.rtxt) k) = movA tv n qs k := by
 induction k with
 | zero => rfl
 | succ k ih =>
  have ih := ih (by omega)
  have hkq : k < qs.length := by omega
  have hk' : k < (qs.map Sv.rtxt).length := by rw [List.length_map]; exact hkq
  have hg : (qs.map Sv.rtxt)[k] = Sv.rtxt qs[k] := by rw [List.getElem_map]
  have hqg : qs.getD k 0 = qs[k] := by rw [List.getD_eq_getElem?_getD, List.getElem?_eq_getElem hkq]; rfl
  by_cases h : (qs.map Sv.rtxt)[k] = ⟨#[48]⟩
  · have h0 : qs[k] = 0 := by
     have e : rv (Sv.rtxt qs[k]) = rv ⟨#[48]⟩ := by rw [← hg, h]
     rw [rv_rtxt, rv_zero] at e
     exact e
    rw [tmL_zero hk' h, ih, movA, hqg, h0, set_self0]
  · rw [tmL_succ hk' h, movT_snoc, ih, movA, hqg]
    show List.set _ _ (_ + rv (qs.map Sv.rtxt)[k]) = _
    rw [hg, rv_rtxt]
noncomputable def lcmF (d : Nat) (qs : List Rat) : Nat := qs.foldl (fun d q => Nat.lcm d q.den) d
theorem lcmF_snoc (d : Nat) (qs : List Rat) (q : Rat) : lcmF d (qs ++ [q]) = Nat.lcm (lcmF d qs) q.den := by unfold lcmF; rw [List.foldl_append]; rfl
theorem lcmF_lcm (qs : List Rat) (a b : Nat) : lcmF (Nat.lcm a b) qs = Nat.lcm (lcmF a qs) b := by
 induction qs generalizing a with
 | nil => rfl
 | cons q qs ih =>
  show lcmF (Nat.lcm (Nat.lcm a b) q.den) qs = Nat.lcm (lcmF (Nat.lcm a q.den) qs) b
  rw [← ih, Nat.lcm_assoc, Nat.lcm_comm b, ← Nat.lcm_assoc]
theorem lcmF_D (qs : List Rat) (q : Rat) : lcmF q.den qs = lcmD (qs ++ [q]) := by
 rw [lcmD_snoc, show lcmD qs = lcmF 1 qs from rfl, ← lcmF_lcm, Nat.lcm_one_left]
theorem lcmF_pos (qs : List Rat) (d : Nat) (h : 0 < d) : 0 < lcmF d qs := by
 induction qs generalizing d with
 | nil => exact h
 | cons q qs ih => exact ih _ (Nat.lcm_pos h q.den_pos)
theorem lcm_fdiv (a b : Nat) : ((a : Int) * (b : Int)).fdiv (Int.gcd a b : Int) = (Nat.lcm a b : Nat) := by
 rw [Int.fdiv_eq_ediv_of_nonneg _ (by omega), ← Int.natCast_mul, show Int.gcd (a : Int) (b : Int) = Nat.gcd a b from rfl, ← Int.natCast_ediv]
 rfl
theorem lcmF_nd (qs : List Rat) (d : Nat) (hd : 0 < d) (h : ∀ q ∈ qs, ndR q ≤ 100) : Sv.nd (lcmF d qs : Int) ≤ Sv.nd (d : Int) + 100 * qs.length := by
 induction qs generalizing d with
 | nil => show Sv.nd (d : Int) ≤ Sv.nd (d : Int) + 100 * 0; omega
 | cons q qs ih =>
  have h1 := ih (Nat.lcm d q.den) (Nat.lcm_pos hd q.den_pos) fun x hx => h x (List.mem_cons_of_mem _ hx)
  have h2 := (ndR_nd q).2
  have h3 := h q List.mem_cons_self
  have h4 : Sv.nd (Nat.lcm d q.den : Int) ≤ Sv.nd ((d : Int) * (q.den : Int)) := nd_mono (by
   rw [Int.natAbs_mul, Int.natAbs_natCast, Int.natAbs_natCast, Int.natAbs_natCast]
   exact Nat.le_of_dvd (Nat.mul_pos hd q.den_pos) (Nat.lcm_dvd_mul _ _))
  have h5 := nd_mul (d : Int) (q.den : Int)
  show Sv.nd (lcmF (Nat.lcm d q.den) qs : Int) ≤ _
  rw [List.length_cons]
  omega
instance nq_Floor : Ctr 84 (type_of% @rEFloor.calls) := ⟨@rEFloor.calls, _, Tryz.func84, by kernel_rfl, rfl⟩
instance nq_Common : Ctr 86 (type_of% @rECommon.calls) := ⟨@rECommon.calls, _, Tryz.func86, by kernel_rfl, rfl⟩
theorem refScaled_ok (A : Option Addr) (n c : Nat) (qs : List Rat) (q : Rat) (D : Nat) (r : Rat) (w : World) (hC : Z0 (Kd.string.C w A n (qs.map Sv.rtxt))) (hn : n = qs.length) (hm : n ≤ 32) (hq : ∀ p ∈ qs ++ [q], ndR p ≤ 100) (hD : Z0 (lcmD (qs ++ [q]) = D)) (hr : Z0 (((D : Nat) : Rat) = r)) :
  Calls Tryz.prog 63 #[.agg #[.slice A n c, .string (Sv.rtxt q)]] w fun e w' => ∃ X d, e = .returned (.tuple #[.slice X n d, .string (Sv.txt (q * r).num), .string (Sv.txt (D : Int))]) ∧ n ≤ d ∧ Kd.string.C w' X n (qs.map fun p => Sv.txt (p * r).num) ∧ Below w.heap.size w w' := by
 have HB := Z0.mk (Below.refl w.heap.size w)
 have hu := Tryz.underlying25
 have ht := Tryz.underlying50
 have hCw := hC
 replace hn := Z0.mk hn
 have hq1 : ndR q ≤ 100 := hq q (by simp)
 have hqs : ∀ p ∈ qs, ndR p ≤ 100 := fun p h => hq p (List.mem_append_left _ h)
 obtain ⟨kb, Ab⟩ := (botQ (p := q) (by omega)).as
 have q2 := (ndR_nd q).2
 go_enter Tryz.func63, Tryz.ntmps63
 go_upto_region 1 with (fail)
 refine al1 ?_
 intro W hb B0
 replace HB := fB HB hb
 obtain ⟨p0, p1, -, -⟩ := b2 B0
 clear hb
 go_wp2_with (refine cG rfl ?_; intro w' hb; replace B0 := fk B0 hb; replace HB := fB HB hb; clear hb p0 p1)
 go_loopw [5, 6] (fun dv i wr => ∃ j : Nat, j ≤ n ∧ i = .int .i64 j ∧ dv = .string (Sv.txt (lcmF q.den (qs.take j) : Int)) ∧ Z0 (wr.heap[w.heap.size]? = some (.cells #[.slice A n c, .string (Sv.rtxt q)] 25 (0, 0))) ∧ Z0 (Below w.heap.size w wr))
  (fun _ i _ => n - (Go.RowKit.intOf i).toNat)
 case atStart => exact ⟨0, by omega, rfl, rfl, B0, HB⟩
 clear B0 HB hC Ab
 obtain ⟨j, hj, rfl, rfl, B0, HB⟩ := hrel
 obtain ⟨p0, p1, -, -⟩ := b2 B0
 rcases Nat.lt_or_ge j n with h4 | h4
 · have c4 : decide ((j : Int) < n) = true := decide_eq_true (by omega)
   have hjq : j < qs.length := by have := hn.out; omega
   obtain ⟨p, hp⟩ : ∃ p, qs[j] = p := ⟨_, rfl⟩
   have hpd : ndR p ≤ 100 := hqs p (by rw [← hp]; exact List.getElem_mem _)
   obtain ⟨ad, rfl, hxx, x1, x2⟩ := asI (Kd.C_below hCw.out HB.out) (j : Int) (by omega) (by omega)
   rw [Int.toNat_natCast, show rdOf ByteArray.empty (qs.map Sv.rtxt) (j : Int) = Sv.rtxt p by rw [← hp]; simp [rdOf, hjq]] at hxx
   have hL0 := lcmF_nd (qs.take j) q.den q.den_pos fun x hx => hqs x (List.mem_of_mem_take hx)
   have hL1 := lcmF_pos (qs.take j) q.den q.den_pos
   have hL2 : lcmF q.den (qs.take (j + 1)) = Nat.lcm (lcmF q.den (qs.take j)) p.den := by rw [take_succ_get qs j hjq, hp, lcmF_snoc]
   rw [List.length_take] at hL0
   have hL3 := Nat.min_le_left j qs.length
   obtain ⟨d0, hd0⟩ : ∃ d0, lcmF q.den (qs.take j) = d0 := ⟨_, rfl⟩
   rw [hd0] at hL0 hL1 hL2 ⊢
   have hL4 : Sv.nd (d0 : Int) ≤ 3300 := by omega
   have pd2 := (ndR_nd p).2
   have hm2 := nd_mul (d0 : Int) (p.den : Int)
   have hg0 : (Int.gcd (d0 : Int) (p.den : Int) : Int) ≠ 0 := by
    have : 0 < Nat.gcd d0 p.den := Nat.gcd_pos_of_pos_left _ hL1
    show ((Nat.gcd d0 p.den : Nat) : Int) ≠ 0
    omega
   have hgn : Sv.nd (Int.gcd (d0 : Int) (p.den : Int) : Int) ≤ Sv.nd (d0 : Int) := nd_mono (by
    show (Nat.gcd d0 p.den) ≤ d0
    exact Nat.gcd_le_left _ hL1)
   obtain ⟨k1, A1⟩ := (botQ (p := p) (by omega)).as
   obtain ⟨k2, A2⟩ := (ref_Product (d0 : Int) (p.den : Int) (by omega) (by omega)).as
   obtain ⟨k3, A3⟩ := (ref_Common (d0 : Int) (p.den : Int) (by omega) (by omega)).as
   obtain ⟨k4, A4⟩ := (ref_Floor ((d0 : Int) * (p.den : Int)) (Int.gcd (d0 : Int) (p.den : Int) : Int) hg0 (by omega) (by omega)).as
   rw [lcm_fdiv, ← hL2] at A4
   clear hL0 hL1 hL2 hL3 hd0 hg0 hgn hm2 hL4
   go_wp2_with (refine cG rfl ?_; intro w' hb; replace B0 := fk B0 hb; replace HB := fB HB hb; clear hb; try clear p0 p1; try clear hxx)
   exact ⟨⟨j + 1, by omega, by simp, rfl, B0, HB⟩, by simp [Go.RowKit.intOf]; omega⟩
 obtain rfl : j = n := by omega
 have c4 : decide ((j : Int) < j) = false := decide_eq_false (by omega)
 rw [List.take_of_length_le (by rw [hn.out]; exact Nat.le_refl _), lcmF_D, hD.out]
 have hDd : Sv.nd (D : Int) ≤ 3400 := by
  have := lcmD_nd (qs ++ [q]) hq (qs.length + 1) (by simp)
  rw [List.take_of_length_le (by simp), hD.out] at this
  have := hn.out
  omega
 obtain ⟨ko, Ao⟩ := (ref_Frac (D : Int) 1 (by decide) (by omega) (by have := nd_lt10 (n := 1) (by decide); omega)).as
 rw [show Rat.divInt (D : Int) 1 = ((D : Nat) : Rat) from (by rw [show (1 : Int) = ((1 : Nat) : Int) from rfl, Rat.divInt_ofNat, Rat.mkRat_one]; rfl), txt1] at Ao
 have hrd : ndR r ≤ 3400 := by rw [← hr.out]; exact Nat.le_trans (ndR_intL (D : Int)) hDd
 rw [hr.out] at Ao
 have hpr : ∀ p ∈ qs ++ [q], ndR p ≤ 50000 := fun p h => by have := hq p h; omega
 go_wp2
 have hd4 := (Below.refl wr.heap.size wr).drew
 refine start_ (n := 6) (S := fun w' => w'.cell? ⟨w.heap.size, 0, none⟩ = some (.slice A j c) ∧ w'.cell? ⟨w.heap.size, 1, none⟩ = some (.string (Sv.rtxt q))) (ds := [5]) _ (by kernel_rfl) rfl rfl ⟨p0, p1⟩ (fun hHeld => ?_)
 refine tk 0 34 (by exact hHeld) ?_
 refine tp 1 35 ?_
 have B0d := Z0.mk (blk_below B0.out hd4)
 have HBd := Z0.mk (below_step HB.out hd4)
 obtain ⟨S_, hS_⟩ : ∃ S_ : World → Prop, S_ = (fun w' => w'.cell? ⟨w.heap.size, 0, none⟩ = some (.slice A j c) ∧ w'.cell? ⟨w.heap.size, 1, none⟩ = some (.string (Sv.rtxt q))) := ⟨_, rfl⟩
 obtain ⟨BB, hBB⟩ : ∃ BB : World → Prop, BB = (fun u => u.heap[w.heap.size]? = some (.cells #[.slice A j c, .string (Sv.rtxt q)] 25 (0, 0)) ∧ Below w.heap.size w u) := ⟨_, rfl⟩
 have hBu : BB wr.drew := by rw [hBB]; exact ⟨B0d.out, HBd.out⟩
 have hBon : ∀ u u', BB u → Below u.heap.size u u' → BB u' := fun u u' h hb => by rw [hBB] at h ⊢; exact ⟨blk_below h.1 hb, below_step h.2 hb⟩
 have hBS : ∀ u, BB u → S_ u := fun u h => by rw [hBB] at h; rw [hS_]; exact ⟨(b2 ⟨h.1⟩).1, (b2 ⟨h.1⟩).2.1⟩
 have hBw : ∀ u, BB u → Below w.heap.size w u := fun u h => by rw [hBB] at h; exact h.2
 rw [← hS_]
 have hz4 : w.heap.size < wr.drew.heap.size := blk_lt B0d.out
 clear hS_ B0 HB p0 p1 hHeld B0d HBd hd4
 generalize wr.drew = W4 at *
 refine pend1s 8 (fun b => #[true, true, false, false, b, false]) (n := 2) (n0 := W4.heap.size) (ob := .cells #[.slice none 0 0, .string ⟨#[]⟩] 25) (b := false) 2 4 (AF1.start (Nat.le_refl _)) hBu (fun b x u hAF hBu => ?_) hBon hBS
 refine pcl 2 36 ⟨_, Tryz.func87, by kernel_rfl, rfl⟩ (rFFrac.calls ko _ _ _ u Ao.out) ?_
 rintro _ ua ⟨rfl, hb⟩
 have hBu1 := hBon _ _ hBu hb
 have hAF1 := hAF.on hb
 refine ⟨_, rfl, hBS _ hBu1, ?_⟩
 clear hAF hBu hb
 simp only [Act.put, List.setIfInBounds_toArray, List.set_cons_zero, List.set_cons_succ]
 refine pend1s 8 (fun b => #[true, true, true, false, b, false]) (n := 1) (B := BB) 3 4 hAF1 hBu1 (fun b x u hAF hBu => ?_) hBon hBS
 clear hAF1 hBu1
 refine pcl 3 37 ⟨_, Tryz.func50, by kernel_rfl, rfl⟩ (refLTimes_ok A j c qs q r u ⟨Kd.C_below hCw.out (hBw _ hBu)⟩ hn.out (by omega) hpr (by omega)) ?_
 rintro _ ub ⟨X, d, rfl, HO, hb⟩
 have CX := (Kd.R_reads' HO).2.2
 rw [List.length_map, List.length_map, ← hn.out] at CX
 have hBu1 := hBon _ _ hBu hb
 have hAF1 := hAF.on hb
 refine ⟨_, rfl, hBS _ hBu1, ?_⟩
 clear hAF hBu hb HO
 simp only [Act.put, List.setIfInBounds_toArray, List.set_cons_zero, List.set_cons_succ]
 refine pend1z 8 (fun b => #[true, true, true, true, b, false]) (n := 1) (B := fun u => BB u ∧ Kd.string.C u X j ((qs.map (· * r)).map Sv.rtxt)) 4 hAF1 ⟨hBu1, CX⟩ (fun x u hAF hBu => ?_) (fun _ _ h hb => ⟨hBon _ _ h.1 hb, Kd.C_below h.2 hb⟩) (fun _ h => hBS _ h.1)
 clear hAF1 hBu1 CX
 obtain ⟨gm, rfl, hgm, Bm⟩ := hAF.p rfl
 obtain ⟨hBu, CX⟩ := hBu
 clear hAF
 obtain ⟨k0, k1, k2, k3⟩ := b2 ⟨Bm⟩
 simp only [Act.put, List.setIfInBounds_toArray, List.set_cons_zero, List.set_cons_succ]
 refine stL 5 ?_
 refine done_ (by kernel_rfl) ?_
 have CX5 := Z0.mk (Cs_setE CX Bm (fun x hx => by obtain ⟨y, -, rfl⟩ := List.mem_map.1 hx; exact (rtxt_head _).1) (.slice X j d) (.string (Sv.rtxt (q * r))))
 have Bm5 := Z0.mk (blk_put (blk_put Bm 0 (.slice X j d) rfl) 1 (.string (Sv.rtxt (q * r))) rfl)
 have HB5 := Z0.mk (below_set (below_set (g := gm) (j := 0) (v := .slice X j d) (hBw _ hBu) (by omega)) (g := gm) (j := 1) (v := .string (Sv.rtxt (q * r))) (by omega))
 generalize ((u.setCell ⟨gm, 0, none⟩ (.slice X j d)).setCell ⟨gm, 1, none⟩ (.string (Sv.rtxt (q * r)))) = W5 at *
 clear hBu CX Bm k0 k1 k2 k3 hBS hBon hBw hBB c4
 go_wp2
 have HBz := Z0.mk (Below.refl W5.heap.size W5)
 go_loopw [9, 10] (fun v i wr => ∃ k : Nat, k ≤ j ∧ i = .int .i64 k ∧ Z0 (Kd.R Kd.string 51 wr W5.heap.size (fun _ => True) v ((qs.take k).map fun p => Sv.txt (p * r).num)) ∧ Z0 (Below W5.heap.size W5 wr))
  (fun _ i _ => j - (Go.RowKit.intOf i).toNat)
 case atStart => exact ⟨0, by omega, rfl, ⟨Kd.R_nil _ _ _ _ _⟩, HBz⟩
 clear HBz
 rename_i wq vq iq
 obtain ⟨k, hk, rfl, HO, HZ⟩ := hrel
 have Bmq := Z0.mk (blk_below Bm5.out HZ.out)
 obtain ⟨k0, k1, -, -⟩ := b2 Bmq
 rcases Nat.lt_or_ge k j with h5 | h5
 · have c5 : decide ((k : Int) < j) = true := decide_eq_true (by omega)
   have hkq : k < qs.length := by have := hn.out; omega
   obtain ⟨p, hp⟩ : ∃ p, qs[k] = p := ⟨_, rfl⟩
   have hpd : ndR p ≤ 100 := hqs p (by rw [← hp]; exact List.getElem_mem _)
   have hpm := ndR_mul p r
   obtain ⟨kt, At⟩ := (topQ (p := p * r) (by omega)).as
   obtain ⟨ad, rfl, hxx, x1, x2⟩ := asI (Kd.C_below CX5.out HZ.out) (k : Int) (by omega) (by omega)
   rw [Int.toNat_natCast, show rdOf ByteArray.empty ((qs.map (· * r)).map Sv.rtxt) (k : Int) = Sv.rtxt (p * r) by rw [← hp]; simp [rdOf, hkq]] at hxx
   clear hpm
   go_wp2_with (first
    | ((with_reducible refine gate_builtin (b := .append) rfl ?_); refine apL (Sv.txt (p * r).num) HO (below_size HZ.out) (by simp; omega) rfl ht infoInt ?_; intro v1 w1 HO1 hb hg; replace HO := HO1; replace HZ := Z0.mk (HZ.out.trans hb); clear HO1 hb hg)
    | (refine cG rfl ?_; intro w' hb; replace HO := Z0.mk (Kd.R_below HO.out hb); replace HZ := Z0.mk (below_step HZ.out hb); clear hb k0 k1 hxx))
   have et : (qs.take (k + 1)).map (fun p => Sv.txt (p * r).num) = (qs.take k).map (fun p => Sv.txt (p * r).num) ++ [Sv.txt (p * r).num] := by rw [take_succ_get qs k hkq, List.map_append, hp]; rfl
   exact ⟨⟨k + 1, by omega, by simp, ⟨by rw [et]; exact HO.out⟩, HZ⟩, by simp [Go.RowKit.intOf]; omega⟩
 obtain rfl : k = j := by omega
 have c5 : decide ((k : Int) < k) = false := decide_eq_false (by omega)
 rw [List.take_of_length_le (by rw [hn.out]; exact Nat.le_refl _)] at HO
 obtain ⟨Y, e, rfl, HO2⟩ := R_cut (m := k) HO (by rw [List.length_map]; exact hn.out.symm)
 have hqm := ndR_mul q r
 obtain ⟨kt, At⟩ := (topQ (p := q * r) (by omega)).as
 clear hqm HO
 go_wp2_with (refine cG rfl ?_; intro w' hb; replace HO2 := Z0.mk (Kd.R_below HO2.out hb); replace HZ := Z0.mk (below_step HZ.out hb); clear hb k0 k1)
 refine bodyPost_ret (results_list (rs := [.tmp 2, .tmp 3, .tmp 4]) rfl (by simp) (.tmp (.tmp (.tmp .nil)))) rfl ?_
 have CY := Kd.R_reads' HO2.out
 rw [List.length_map, ← hn.out] at CY
 exact ⟨Y, e, rfl, CY.2.1, CY.2.2, below_step HB5.out HZ.out⟩
theorem refIntegral_ok (A : Option Addr) (n c : Nat) (l : List ByteArray) (s : ByteArray) (w : World) (hC : Z0 (Kd.string.C w A n l)) (hn : n = l.length) (hO : ∀ s ∈ l, s.size ≤ 10000000000) (hOs : s.size ≤ 10000000000) :
  Calls Tryz.prog 24 #[.agg #[.slice A n c, .string s]] w (IntR w (intS l s)) := by
 have HB := Z0.mk (Below.refl w.heap.size w)
 have hu := Tryz.underlying25
 have hCw := hC
 replace hn := Z0.mk hn
 obtain ⟨y, hy⟩ : ∃ x, Z0 (chkL l s = x) := ⟨_, ⟨rfl⟩⟩
 go_enter Tryz.func24, Tryz.ntmps24
 go_upto_region 1 with (fail)
 refine al1 ?_
 intro W hb B0
 replace HB := fB HB hb
 obtain ⟨p0, p1, -, -⟩ := b2 B0
 replace hC := Z0.mk (Kd.C_below hC.out hb)
 clear hb
 by_cases h0 : y = 0
 · subst h0
   obtain ⟨a1, qs, q, rfl, rfl, a2, a3⟩ := of_chkL hy.out
   have hq : ∀ p ∈ qs ++ [q], ndR p ≤ 100 := fun p hp => by
    rcases List.mem_append.1 hp with hp | hp
    · exact a2 p hp
    · rw [List.mem_singleton.1 hp]; exact a3
   obtain ⟨D, hD⟩ : ∃ D, Z0 (lcmD (qs ++ [q]) = D) := ⟨_, ⟨rfl⟩⟩
   obtain ⟨r, hr⟩ : ∃ r : Rat, Z0 (((D : Nat) : Rat) = r) := ⟨_, ⟨rfl⟩⟩
   have hnq : Z0 (n = qs.length) := ⟨by rw [hn.out, List.length_map]⟩
   have hm2 : n ≤ 32 := by rw [List.length_map] at a1; have := hnq.out; omega
   have hDd : Sv.nd (D : Int) ≤ 3400 := by
    have := lcmD_nd (qs ++ [q]) hq (qs.length + 1) (by simp)
    rw [List.take_of_length_le (by simp), hD.out] at this
    have := hnq.out
    omega
   have hrd : ndR r ≤ 3400 := by rw [← hr.out]; exact Nat.le_trans (ndR_intL (D : Int)) hDd
   have he : Z0 (intS (qs.map Sv.rtxt) (Sv.rtxt q) = if ∀ m ∈ (qs.map fun p => (p * r).num) ++ [(q * r).num, (D : Int)], Sv.nd m ≤ 100 then (qs.map fun p => Sv.txt (p * r).num, Sv.txt (q * r).num, Sv.txt (D : Int), 0) else ([], ⟨#[]⟩, ⟨#[]⟩, 10)) := ⟨by
    unfold intS
    rw [hy.out, if_pos rfl, rv_map, rv_rtxt, hD.out, hr.out]⟩
   go_upto_region 5 with (first
    | ((with_reducible refine gc_ 63 rfl ?_); refine gL 19 Tryz.func63 (refScaled_ok A n c qs q D r _ ⟨Kd.C_below hCw.out HB.out⟩ hnq.out hm2 hq hD hr) ?_; rintro _ w3 ⟨X, d, rfl, hXd, CX, hb⟩; refine ⟨_, rfl, ?_⟩; replace CX := Z0.mk CX; replace B0 := fk B0 hb; replace HB := fB HB hb; clear hb p0 p1)
    | (refine cG rfl ?_; intro w' hb; replace B0 := fk B0 hb; replace HB := fB HB hb; replace hC := Z0.mk (Kd.C_below hC.out hb); clear hb p0 p1; obtain ⟨p0, p1, -, -⟩ := b2 B0))
   have hqd : ∀ p, ndR p ≤ 100 → Sv.nd (p * r).num ≤ 3500 := fun p h => by have := ndR_mul p r; have := ndR_nd (p * r); omega
   have hq0 := hqd q a3
   have A1 := Z0.mk (ref_Digits (q * r).num (by omega))
   have A2 := Z0.mk (ref_Digits (D : Int) (by omega))
   go_cut [10] (fun v10 wc => ∃ b : Bool, v10 = .bool b ∧ Z0 (b = true ↔ ¬ (Sv.nd (q * r).num ≤ 100 ∧ Sv.nd (D : Int) ≤ 100)) ∧ Z0 (Below w.heap.size w wc) ∧ Z0 (Kd.string.C wc X n (qs.map fun p => Sv.txt (p * r).num)))
   case first =>
    clear hC
    by_cases b1 : Sv.nd (q * r).num ≤ 100
    · have c1 : decide (100 < (Sv.nd (q * r).num : Int)) = false := decide_eq_false (by omega)
      by_cases b2 : Sv.nd (D : Int) ≤ 100
      · have c2 : decide (100 < (Sv.nd (D : Int) : Int)) = false := decide_eq_false (by omega)
        replace b1 := Z0.mk b1
        replace b2 := Z0.mk b2
        go_wp2_with (first
         | (go_at_call 64; refine (drB (rEDigits.calls _ _ _ A2.out)).mono ?_; rintro _ w' ⟨rfl, hb⟩; replace CX := Z0.mk (Kd.C_below CX.out hb); replace HB := fB HB hb; clear hb)
         | (refine cG rfl ?_; intro w' hb; replace CX := Z0.mk (Kd.C_below CX.out hb); replace HB := fB HB hb; clear hb))
        go_meet
        exact ⟨_, rfl, ⟨by simp [b1.out, b2.out]⟩, HB, CX⟩
      · have c2 : decide (100 < (Sv.nd (D : Int) : Int)) = true := decide_eq_true (by omega)
        replace b1 := Z0.mk b1
        replace b2 := Z0.mk b2
        go_wp2_with (first
         | (go_at_call 64; refine (drB (rEDigits.calls _ _ _ A2.out)).mono ?_; rintro _ w' ⟨rfl, hb⟩; replace CX := Z0.mk (Kd.C_below CX.out hb); replace HB := fB HB hb; clear hb)
         | (refine cG rfl ?_; intro w' hb; replace CX := Z0.mk (Kd.C_below CX.out hb); replace HB := fB HB hb; clear hb))
        go_meet
        exact ⟨_, rfl, ⟨by simp [b1.out, b2.out]⟩, HB, CX⟩
    · have c1 : decide (100 < (Sv.nd (q * r).num : Int)) = true := decide_eq_true (by omega)
      replace b1 := Z0.mk b1
      go_wp2_with (refine cG rfl ?_; intro w' hb; replace CX := Z0.mk (Kd.C_below CX.out hb); replace HB := fB HB hb; clear hb)
      go_meet
      exact ⟨_, rfl, ⟨by simp [b1.out]⟩, HB, CX⟩
   case rest =>
    clear B0 HB CX hC A1
    obtain ⟨b0, rfl, hb0, HB, CX⟩ := hcut
    go_wp2
    go_loopw [10, 11] (fun v i wr => ∃ (j : Nat) (b : Bool), j ≤ n ∧ i = .int .i64 j ∧ v = .bool b ∧ Z0 (b = true ↔ ¬ ((∀ p ∈ qs.take j, Sv.nd (p * r).num ≤ 100) ∧ Sv.nd (q * r).num ≤ 100 ∧ Sv.nd (D : Int) ≤ 100)) ∧ Z0 (Below w.heap.size w wr) ∧ Z0 (Kd.string.C wr X n (qs.map fun p => Sv.txt (p * r).num)))
     (fun _ i _ => n - (Go.RowKit.intOf i).toNat)
    case atStart => exact ⟨0, b0, by omega, rfl, rfl, ⟨by simpa using hb0.out⟩, HB, CX⟩
    clear hb0 HB CX
    obtain ⟨j, b, hj, rfl, rfl, hbb, HB, CX⟩ := hrel
    rcases Nat.lt_or_ge j n with h4 | h4
    · have c4 : decide ((j : Int) < n) = true := decide_eq_true (by omega)
      have hjq : j < qs.length := by have := hnq.out; omega
      obtain ⟨p, hp⟩ : ∃ p, qs[j] = p := ⟨_, rfl⟩
      have hpd := hqd p (a2 p (by rw [← hp]; exact List.getElem_mem _))
      have et : ∀ P : Rat → Prop, (∀ x ∈ qs.take (j + 1), P x) ↔ (∀ x ∈ qs.take j, P x) ∧ P p := fun P => by
       rw [take_succ_get qs j hjq, hp]
       constructor
       · exact fun h => ⟨fun x hx => h x (List.mem_append_left _ hx), h p (List.mem_append_right _ (by simp))⟩
       · rintro ⟨h1, h2⟩ x hx
         rcases List.mem_append.1 hx with hx | hx
         · exact h1 x hx
         · rw [List.mem_singleton.1 hx]; exact h2
      replace et := Z0.mk et
      obtain ⟨ad, rfl, hxx, x1, x2⟩ := asI CX.out (j : Int) (by omega) (by omega)
      rw [Int.toNat_natCast, show rdOf ByteArray.empty (qs.map fun p => Sv.txt (p * r).num) (j : Int) = Sv.txt (p * r).num by rw [← hp]; simp [rdOf, hjq]] at hxx
      cases b with
      | true =>
       go_wp2
       refine ⟨⟨j + 1, true, by omega, by simp, rfl, ⟨?_⟩, HB, CX⟩, by simp [Go.RowKit.intOf]; omega⟩
       rw [et.out (fun p => Sv.nd (p * r).num ≤ 100)]
       exact ⟨fun _ h => hbb.out.1 rfl ⟨h.1.1, h.2⟩, fun _ => rfl⟩
      | false =>
       have A1 := Z0.mk (ref_Digits (p * r).num (by omega))
       by_cases b1 : Sv.nd (p * r).num ≤ 100
       · have c1 : decide (100 < (Sv.nd (p * r).num : Int)) = false := decide_eq_false (by omega)
         replace b1 := Z0.mk b1
         go_wp2_with (go_at_call 64; refine (drB (rEDigits.calls _ _ _ A1.out)).mono ?_; rintro _ w' ⟨rfl, hb⟩; replace CX := Z0.mk (Kd.C_below CX.out hb); replace HB := fB HB hb; clear hb)
         refine ⟨⟨j + 1, false, by omega, by simp, rfl, ⟨?_⟩, HB, CX⟩, by simp [Go.RowKit.intOf]; omega⟩
         rw [et.out (fun p => Sv.nd (p * r).num ≤ 100)]
         exact ⟨fun h => (by cases h), fun h => hbb.out.2 fun h' => h ⟨⟨h'.1, b1.out⟩, h'.2⟩⟩
       · have c1 : decide (100 < (Sv.nd (p * r).num : Int)) = true := decide_eq_true (by omega)
         replace b1 := Z0.mk b1
         go_wp2_with (go_at_call 64; refine (drB (rEDigits.calls _ _ _ A1.out)).mono ?_; rintro _ w' ⟨rfl, hb⟩; replace CX := Z0.mk (Kd.C_below CX.out hb); replace HB := fB HB hb; clear hb)
         refine ⟨⟨j + 1, true, by omega, by simp, rfl, ⟨?_⟩, HB, CX⟩, by simp [Go.RowKit.intOf]; omega⟩
         rw [et.out (fun p => Sv.nd (p * r).num ≤ 100)]
         exact ⟨fun _ h => b1.out h.1.2, fun _ => rfl⟩
    obtain rfl : j = n := by omega
    have c4 : decide ((j : Int) < j) = false := decide_eq_false (by omega)
    rw [List.take_of_length_le (by rw [hnq.out]; exact Nat.le_refl _)] at hbb
    have hall : (∀ m ∈ (qs.map fun p => (p * r).num) ++ [(q * r).num, (D : Int)], Sv.nd m ≤ 100) ↔ ((∀ p ∈ qs, Sv.nd (p * r).num ≤ 100) ∧ Sv.nd (q * r).num ≤ 100 ∧ Sv.nd (D : Int) ≤ 100) := by
     constructor
     · exact fun h => ⟨fun p hp => h _ (List.mem_append_left _ (List.mem_map.2 ⟨p, hp, rfl⟩)), h _ (by simp), h _ (by simp)⟩
     · rintro ⟨h1, h2, h3⟩ m hm
       rcases List.mem_append.1 hm with hm | hm
       · obtain ⟨p, hp, rfl⟩ := List.mem_map.1 hm
         exact h1 p hp
       · rcases List.mem_cons.1 hm with rfl | hm
         · exact h2
         · rw [List.mem_singleton.1 hm]; exact h3
    replace hall := Z0.mk hall
    cases b with
    | true =>
     go_wp2
     refine bodyPost_ret (results_list (rs := [.tmp 2, .tmp 3, .tmp 4, .tmp 5]) rfl (by simp) (.tmp (.tmp (.tmp (.tmp .nil))))) rfl ?_
     rw [he.out, if_neg (fun h => hbb.out.1 (by trivial) (hall.out.1 h))]
     exact ⟨none, 0, rfl, Nat.le_refl _, C_nilS, HB.out⟩
    | false =>
     go_wp2
     refine bodyPost_ret (results_list (rs := [.tmp 2, .tmp 3, .tmp 4, .tmp 5]) rfl (by simp) (.tmp (.tmp (.tmp (.tmp .nil))))) rfl ?_
     rw [he.out, if_pos (hall.out.2 (Classical.byContradiction fun h => by have := hbb.out.2 h; cases this))]
     have hml : (qs.map fun p => Sv.txt (p * r).num).length = j := by rw [List.length_map]; exact hnq.out.symm
     refine ⟨X, d, ?_, ?_, ?_, HB.out⟩
     · simp only [hml]; rfl
     · simp only [hml]; exact hXd
     · simp only [hml]; exact CX.out
 · have he : Z0 (intS l s = ([], ⟨#[]⟩, ⟨#[]⟩, y)) := ⟨by unfold intS; rw [hy.out, if_neg h0]⟩
   have h0' : (y != 0) = true := bne_iff_ne.mpr h0
   go_wp2_with (refine cG rfl ?_; intro w' hb; replace HB := fB HB hb; clear hb p0 p1)
   refine bodyPost_ret (results_list (rs := [.tmp 2, .tmp 3, .tmp 4, .tmp 5]) rfl (by simp) (.tmp (.tmp (.tmp (.tmp .nil))))) rfl ?_
   rw [he.out]
   exact ⟨none, 0, rfl, Nat.le_refl _, C_nilS, HB.out⟩
instance nr_Integral : Ctr 24 (type_of% @refIntegral_ok) := ⟨@refIntegral_ok, _, Tryz.func24, by kernel_rfl, rfl⟩
theorem movA_nd (tv : List Int) (n : Nat) (qs : List Rat) (h : ∀ q ∈ qs, ndR q ≤ 100) (j : Nat) (hj : j ≤ qs.length) : ∀ x ∈ movA tv n qs j, ndR x ≤ 1 + 102 * j := by
 induction j with
 | zero =>
  intro x hx
  rw [List.eq_of_mem_replicate hx]
  exact ndR_0
 | succ j ih =>
  intro x hx
  have ih := ih (by omega)
  have hq := h qs[j] (List.getElem_mem _)
  have hqg : qs.getD j 0 = qs[j] := by rw [List.getD_eq_getElem?_getD, List.getElem?_eq_getElem (by omega)]; rfl
  rw [movA] at hx
  rcases List.mem_or_eq_of_mem_set hx with hx | rfl
  · have := ih x hx; omega
  · have h1 := ndR_add ((movA tv n qs j).getD (tv.getD j 0).toNat 0) (qs.getD j 0)
    have h2 : ndR ((movA tv n qs j).getD (tv.getD j 0).toNat 0) ≤ 1 + 102 * j := by
     rw [List.getD_eq_getElem?_getD]
     rcases Nat.lt_or_ge (tv.getD j 0).toNat (movA tv n qs j).length with h | h
     · rw [List.getElem?_eq_getElem h]; exact ih _ (List.getElem_mem _)
     · rw [List.getElem?_eq_none h]; have := ndR_0; show ndR 0 ≤ _; omega
    rw [hqg] at h1 ⊢
    omega
theorem refRename_ok (A T : Option Addr) (m c m' c' : Nat) (l : List ByteArray) (s : ByteArray) (tv : List Int) (n : Int) (w : World) (hC : Z0 (Kd.string.C w A m l)) (hC' : Z0 (Kd.C (Kd.int .i64) w T m' tv)) (hn : m = l.length) (hn' : m' = tv.length) (hO : ∀ s ∈ l, s.size ≤ 10000000000) (hs : s.size ≤ 10000000000) :
  Calls Tryz.prog 14 #[.agg #[.slice A m c, .string s], .slice T m' c', .int .i64 n] w (LinR w w.heap.size (renS l s tv n)) := by
 have HB := Z0.mk (Below.refl w.heap.size w)
 have hu := Tryz.underlying25
 have hCw := hC
 have hCw' := hC'
 obtain ⟨y, hy⟩ : ∃ x, Z0 (chkL l s = x) := ⟨_, ⟨rfl⟩⟩
 replace hn := Z0.mk hn
 replace hn' := Z0.mk hn'
 go_enter Tryz.func14, Tryz.ntmps14
 go_upto_region 1 with (fail)
 refine al2 ?_
 intro W hb B0 B2
 replace HB := fB HB hb
 replace hC := Z0.mk (Kd.C_below hC.out hb)
 obtain ⟨p0, p1, -, -⟩ := b2 B0
 obtain ⟨r0, r1, f0, f1⟩ := b2 B2
 clear hb
 by_cases h0 : y = 0
 · subst h0
   by_cases h1 : n < 0
   · have he : Z0 (renS l s tv n = ([], ⟨#[]⟩, 2)) := ⟨by unfold renS; rw [hy.out, if_pos rfl, if_pos (.inl h1)]⟩
     have c1 : decide (n < 0) = true := decide_eq_true h1
     clear h1
     go_wp2_with (refine cG rfl ?_; intro w' hb; replace B0 := fk B0 hb; replace B2 := fk B2 hb; replace HB := fB HB hb; clear hb p0 p1 r0 r1 f0 f1; obtain ⟨p0, p1, -, -⟩ := b2 B0; obtain ⟨r0, r1, f0, f1⟩ := b2 B2)
     refine bodyPost_ret (results_ct rfl _ _ (w.heap.size + 1) 25 #[.slice none 0 0, .string ⟨#[]⟩] (0, 0) _ rfl (blk_put (blk_put B2.out 0 _ rfl) 1 _ rfl) hu rfl (by kernel_rfl)) rfl ?_
     rw [he.out]
     exact ⟨none, 0, rfl, Nat.le_refl _, C_nilS, Ab.none, below_set (below_set HB.out (by omega)) (by omega)⟩
   have c1 : decide (n < 0) = false := decide_eq_false h1
   by_cases h2 : 32 < n
   · have he : Z0 (renS l s tv n = ([], ⟨#[]⟩, 2)) := ⟨by unfold renS; rw [hy.out, if_pos rfl, if_pos (.inr h2)]⟩
     have c2 : decide (32 < n) = true := decide_eq_true h2
     clear h1
     go_wp2_with (refine cG rfl ?_; intro w' hb; replace B0 := fk B0 hb; replace B2 := fk B2 hb; replace HB := fB HB hb; clear hb p0 p1 r0 r1 f0 f1; obtain ⟨p0, p1, -, -⟩ := b2 B0; obtain ⟨r0, r1, f0, f1⟩ := b2 B2)
     refine bodyPost_ret (results_ct rfl _ _ (w.heap.size + 1) 25 #[.slice none 0 0, .string ⟨#[]⟩] (0, 0) _ rfl (blk_put (blk_put B2.out 0 _ rfl) 1 _ rfl) hu rfl (by kernel_rfl)) rfl ?_
     rw [he.out]
     exact ⟨none, 0, rfl, Nat.le_refl _, C_nilS, Ab.none, below_set (below_set HB.out (by omega)) (by omega)⟩
   have c2 : decide (32 < n) = false := decide_eq_false h2
   obtain ⟨N, rfl⟩ := Int.eq_ofNat_of_zero_le (by omega : 0 ≤ n)
   by_cases h3 : tv.length = l.length
   · have he0 : Z0 (renS l s tv N = if tosOk tv N = true then fin (movT tv N (tmL l l.length)) (rv s) else ([], ⟨#[]⟩, 6)) := ⟨by unfold renS; rw [hy.out, if_pos rfl, if_neg (by omega), if_pos h3]; rfl⟩
     obtain rfl : m' = m := by rw [hn.out, hn'.out, h3]
     have c3 : ((m' : Int) != m') = false := bne_self_eq_false _
     replace h3 := Z0.mk h3
     have hm32 : m' ≤ 32 := by have := (of_chkL hy.out).1; have := hn.out; omega
     clear h1
     go_wp2_with (refine cG rfl ?_; intro w' hb; replace B0 := fk B0 hb; replace B2 := fk B2 hb; replace HB := fB HB hb; clear hb p0 p1 r0 r1 f0 f1; obtain ⟨p0, p1, -, -⟩ := b2 B0; obtain ⟨r0, r1, f0, f1⟩ := b2 B2)
     go_loopw [9] (fun i wr => ∃ j : Nat, j ≤ m' ∧ i = .int .i64 j ∧ (∀ k (hk : k < j) (hk' : k < tv.length), 0 ≤ tv[k] ∧ tv[k] < N) ∧ Z0 (wr.heap[w.heap.size]? = some (.cells #[.slice A m' c, .string s] 25 (0, 0))) ∧ Z0 (wr.heap[w.heap.size + 1]? = some (.cells #[.slice none 0 0, .string ⟨#[]⟩] 25 (0, 0))) ∧ Z0 (Below w.heap.size w wr))
      (fun i _ => m' - (Go.RowKit.intOf i).toNat)
     case atStart => exact ⟨0, by omega, rfl, fun k hk => absurd hk (by omega), B0, B2, HB⟩
     clear B0 B2 HB p0 p1 r0 r1 f0 f1 hC hC'
     obtain ⟨j, hj, rfl, hgood, B0, B2, HB⟩ := hrel
     obtain ⟨p0, p1, -, -⟩ := b2 B0
     obtain ⟨r0, r1, f0, f1⟩ := b2 B2
     rcases Nat.lt_or_ge j m' with h4 | h4
     · have c4 : decide ((j : Int) < m') = true := decide_eq_true (by omega)
       have hjt : j < tv.length := by have := hn'.out; omega
       obtain ⟨ad, rfl, hxx, x1, x2⟩ := atI (Kd.C_below hCw'.out HB.out) (j : Int) (by omega) (by omega)
       rw [Int.toNat_natCast, rd_get tv j hjt] at hxx
       have hbad : ¬ (0 ≤ tv[j] ∧ tv[j] < N) → renS l s tv N = ([], ⟨#[]⟩, 6) := fun h => by
        rw [he0.out, if_neg]
        intro e
        exact h (tosOk_get e j hjt)
       by_cases h5 : tv[j] < 0
       · have c5 : decide (tv[j] < 0) = true := decide_eq_true h5
         have he := Z0.mk (hbad (by omega))
         clear hbad
         go_wp2
         refine bodyPost_ret (results_ct rfl _ _ (w.heap.size + 1) 25 #[.slice none 0 0, .string ⟨#[]⟩] (0, 0) _ rfl (blk_put (blk_put B2.out 0 _ rfl) 1 _ rfl) hu rfl (by kernel_rfl)) rfl ?_
         rw [he.out]
         exact ⟨none, 0, rfl, Nat.le_refl _, C_nilS, Ab.none, below_set (below_set HB.out (by omega)) (by omega)⟩
       have c5 : decide (tv[j] < 0) = false := decide_eq_false h5
       by_cases h6 : (N : Int) ≤ tv[j]
       · have c6 : decide ((N : Int) ≤ tv[j]) = true := decide_eq_true h6
         have he := Z0.mk (hbad (by omega))
         clear hbad
         go_wp2
         refine bodyPost_ret (results_ct rfl _ _ (w.heap.size + 1) 25 #[.slice none 0 0, .string ⟨#[]⟩] (0, 0) _ rfl (blk_put (blk_put B2.out 0 _ rfl) 1 _ rfl) hu rfl (by kernel_rfl)) rfl ?_
         rw [he.out]
         exact ⟨none, 0, rfl, Nat.le_refl _, C_nilS, Ab.none, below_set (below_set HB.out (by omega)) (by omega)⟩
       have c6 : decide ((N : Int) ≤ tv[j]) = false := decide_eq_false h6
       clear hbad
       go_wp2
       refine ⟨⟨j + 1, by omega, by simp, fun k hk hk' => ?_, B0, B2, HB⟩, by simp [Go.RowKit.intOf]; omega⟩
       rcases Nat.lt_or_ge k j with h | h
       · exact hgood k h hk'
       · obtain rfl : k = j := by omega
         omega
     obtain rfl : j = m' := by omega
     have c4 : decide ((j : Int) < j) = false := decide_eq_false (by omega)
     have htok : tosOk tv N = true := List.all_eq_true.2 fun k hk => by
      obtain ⟨i, hi, rfl⟩ := List.getElem_of_mem hk
      have := hgood i (by have := hn'.out; omega) hi
      exact (Bool.and_eq_true _ _).mpr ⟨decide_eq_true this.1, decide_eq_true this.2⟩
     obtain ⟨-, qs, q, rfl, rfl, a2, a3⟩ := of_chkL hy.out
     have hnq : Z0 (j = qs.length) := ⟨by rw [hn.out, List.length_map]⟩
     obtain ⟨zs, hzs⟩ : ∃ zs, movA tv N qs j = zs := ⟨_, rfl⟩
     have he : Z0 (renS (qs.map Sv.rtxt) (Sv.rtxt q) tv N = fin zs q) := ⟨by
      rw [he0.out, if_pos htok, List.length_map, rv_rtxt, movT_eq qs tv N qs.length (Nat.le_refl _), ← hnq.out, hzs]⟩
     have e14 : Z0 (N = zs.length) := ⟨by rw [← hzs, movA_length]⟩
     have e12 : ∀ x ∈ zs, ndR x ≤ 100000 := fun x hx => by
      rw [← hzs] at hx
      have := movA_nd tv N qs a2 j (by rw [hnq.out]; exact Nat.le_refl _) x hx
      omega
     have T := fun w hC hC' => refMoved_ok A T j c c' N qs q tv w hC hC' hnq.out hn'.out (by omega) (by omega) htok a2
     rw [hzs] at T
     clear hzs he0 htok hgood
     have e13 : ndR q ≤ 100000 := by omega
     have hN2 : N ≤ 1000 := by omega
     go_wp2_with (first
      | ((with_reducible refine gc_ 47 rfl ?_); refine gL 53 Tryz.func47 (T _ ⟨Kd.C_below hCw.out HB.out⟩ ⟨Kd.C_below hCw'.out HB.out⟩) ?_; rintro _ w6 ⟨Y, d6, rfl, HY, hb⟩; refine ⟨_, rfl, ?_⟩; have z5 := Z0.mk (blk_lt B2.out); have CY := Z0.mk (Kd.R_reads' HY).2.2; have hd6 := (Kd.R_reads' HY).2.1; have hY6 := Z0.mk ((Ab.of_R HY).mono (lo' := w.heap.size + 1 + 1) (by have := z5.out; omega)); replace B2 := fk B2 hb; replace HB := fB HB hb; clear hb HY; (try clear p0 p1); clear r0 r1 f0 f1; obtain ⟨r0, r1, f0, f1⟩ := b2 B2)
      | ((with_reducible refine gc_ 40 rfl ?_); refine gL 54 Tryz.func40 (refDone_ok Y N d6 (w.heap.size + 1 + 1) zs q w6 ⟨by have := CY.out; rwa [List.length_map, ← e14.out] at this⟩ e14.out hN2 hd6 hY6.out e12 e13) ?_; rintro _ w7 ⟨Z, d7, rfl, hd7, CZ, hZ, hb⟩; refine ⟨_, rfl, ?_⟩; replace hZ := Z0.mk hZ; replace CZ := Z0.mk CZ; replace B2 := fk B2 hb; replace HB := fB HB hb; clear hb r0 r1 f0 f1; obtain ⟨r0, r1, f0, f1⟩ := b2 B2))
     refine bodyPost_ret (results_ct rfl _ _ (w.heap.size + 1) 25 #[.slice Z _ d7, .string _] (0, 0) _ rfl (blk_put (blk_put B2.out 0 _ rfl) 1 _ rfl) hu rfl (by kernel_rfl)) rfl ?_
     rw [he.out]
     exact ⟨Z, d7, rfl, hd7, Cs_set2 CZ.out hZ.out (by omega) _ _, hZ.out.mono (by omega), below_set (below_set HB.out (by omega)) (by omega)⟩
   · have he : Z0 (renS l s tv N = ([], ⟨#[]⟩, 15)) := ⟨by unfold renS; rw [hy.out, if_pos rfl, if_neg (by omega), if_neg h3]⟩
     have c3 : ((m' : Int) != m) = true := bne_iff_ne.mpr (fun e => h3 (by have := hn.out; have := hn'.out; omega))
     clear h1 h3
     go_wp2_with (refine cG rfl ?_; intro w' hb; replace B0 := fk B0 hb; replace B2 := fk B2 hb; replace HB := fB HB hb; clear hb p0 p1 r0 r1 f0 f1; obtain ⟨p0, p1, -, -⟩ := b2 B0; obtain ⟨r0, r1, f0, f1⟩ := b2 B2)
     refine bodyPost_ret (results_ct rfl _ _ (w.heap.size + 1) 25 #[.slice none 0 0, .string ⟨#[]⟩] (0, 0) _ rfl (blk_put (blk_put B2.out 0 _ rfl) 1 _ rfl) hu rfl (by kernel_rfl)) rfl ?_
     rw [he.out]
     exact ⟨none, 0, rfl, Nat.le_refl _, C_nilS, Ab.none, below_set (below_set HB.out (by omega)) (by omega)⟩
 · have he : Z0 (renS l s tv n = ([], ⟨#[]⟩, y)) := ⟨by unfold renS; rw [hy.out, if_neg h0]⟩
   have h0' : (y != 0) = true := bne_iff_ne.mpr h0
   go_wp2_with (refine cG rfl ?_; intro w' hb; replace B0 := fk B0 hb; replace B2 := fk B2 hb; replace HB := fB HB hb; clear hb p0 p1 r0 r1 f0 f1; obtain ⟨p0, p1, -, -⟩ := b2 B0; obtain ⟨r0, r1, f0, f1⟩ := b2 B2)
   refine bodyPost_ret (results_ct rfl _ _ (w.heap.size + 1) 25 #[.slice none 0 0, .string ⟨#[]⟩] (0, 0) _ rfl (blk_put (blk_put B2.out 0 _ rfl) 1 _ rfl) hu rfl (by kernel_rfl)) rfl ?_
   rw [he.out]
   exact ⟨none, 0, rfl, Nat.le_refl _, C_nilS, Ab.none, below_set (below_set HB.out (by omega)) (by omega)⟩
instance no_Rename : Ctr 14 (type_of% @refRename_ok) := ⟨@refRename_ok, _, Tryz.func14, by kernel_rfl, rfl⟩
theorem chk2_map {qs rs : List Rat} {q r : Rat} (h1 : fine qs q) (h2 : fine rs r) (hl : qs.length = rs.length) : chk2L (qs.map Sv.rtxt) (Sv.rtxt q) (rs.map Sv.rtxt) (Sv.rtxt r) = 0 := by
 unfold chk2L
 rw [(chkL_map qs q).2 h1, if_pos rfl, (chkL_map rs r).2 h2, if_pos rfl, if_pos (by rw [List.length_map, List.length_map, hl])]
theorem addS_map {qs rs : List Rat} {q r : Rat} (h1 : fine qs q) (h2 : fine rs r) (hl : qs.length = rs.length) : addS (qs.map Sv.rtxt) (Sv.rtxt q) (rs.map Sv.rtxt) (Sv.rtxt r) = fin (List.zipWith (· + ·) qs rs) (q + r) := by
 unfold addS
 rw [chk2_map h1 h2 hl, if_pos rfl, rv_map, rv_map, rv_rtxt, rv_rtxt]
def evR (qs : List Rat) (q : Rat) (ps : List Rat) : Rat := (List.zipWith (· * ·) qs ps).foldl (· + ·) q
theorem evalS_map {qs ps : List Rat} {q : Rat} (h1 : fine qs q) (hp : ∀ p ∈ ps, ndR p ≤ 100) (hl : ps.length = qs.length) : evalS (qs.map Sv.rtxt) (Sv.rtxt q) (ps.map Sv.rtxt) = if ndR (evR qs q ps) ≤ 100 then (Sv.rtxt (evR qs q ps), 0) else (⟨#[]⟩, 10) := by
 unfold evalS
 rw [(chkL_map qs q).2 h1, if_pos rfl, if_pos (by rw [List.length_map, List.length_map, hl]), numsC_map, if_pos hp, if_pos rfl]
 unfold evalL
 rw [rv_map, rv_map, rv_rtxt]
 rfl
theorem subS_map {qs rs : List Rat} {q r : Rat} (h1 : fine qs q) (h2 : fine rs r) (hl : qs.length = rs.length) (i : Nat) (hi : i < qs.length) : subS (qs.map Sv.rtxt) (Sv.rtxt q) i (rs.map Sv.rtxt) (Sv.rtxt r) = fin (List.zipWith (· + ·) (qs.set i 0) (rs.map (· * qs.getD i 0))) (q + r * qs.getD i 0) := by
 unfold subS
 rw [chk2_map h1 h2 hl, if_pos rfl, if_neg (by rw [List.length_map]; omega), rv_map, rv_map, rv_rtxt, rv_rtxt, Int.toNat_natCast]
theorem renS_map {qs : List Rat} {q : Rat} (h1 : fine qs q) (tv : List Int) (n : Nat) (hn : n ≤ 32) (hl : tv.length = qs.length) (ht : tosOk tv n = true) : renS (qs.map Sv.rtxt) (Sv.rtxt q) tv n = fin (movA tv n qs qs.length) q := by
 unfold renS
 rw [(chkL_map qs q).2 h1, if_pos rfl, if_neg (by omega), if_pos (by rw [List.length_map, hl]), if_pos ht, List.length_map, rv_rtxt, Int.toNat_natCast, movT_eq qs tv n qs.length (Nat.le_refl _)]
theorem intS_map {qs : List Rat} {q : Rat} (h1 : fine qs q) (D : Nat) (r : Rat) (hD : lcmD (qs ++ [q]) = D) (hr : ((D : Nat) : Rat) = r) : intS (qs.map Sv.rtxt) (Sv.rtxt q) = if ∀ m ∈ (qs.map fun p => (p * r).num) ++ [(q * r).num, (D : Int)], Sv.nd m ≤ 100 then (qs.map fun p => Sv.txt (p * r).num, Sv.txt (q * r).num, Sv.txt (D : Int), 0) else ([], ⟨#[]⟩, ⟨#[]⟩, 10) := by
 unfold intS
 rw [(chkL_map qs q).2 h1, if_pos rfl, rv_map, rv_rtxt, hD, hr]
def q4 : Rat := Rat.mk' 4 1 (by decide) (by decide)
def q2 : Rat := Rat.mk' 2 1 (by decide) (by decide)
def q3 : Rat := Rat.mk' 3 1 (by decide) (by decide)
def q133 : Rat := Rat.mk' 13 3 (by decide) (by decide)
def q32 : Rat := Rat.mk' 3 2 (by decide) (by decide)
def qm52 : Rat := Rat.mk' (-5) 2 (by decide) (by decide)
theorem r4 : Sv.rtxt q4 = ⟨#[52]⟩ := rt_lit 4 1 _ _ _ (by simp [Sv.txtL, Sv.txtN, Sv.dg, Sv.dch])
theorem r2 : Sv.rtxt q2 = ⟨#[50]⟩ := rt_lit 2 1 _ _ _ (by simp [Sv.txtL, Sv.txtN, Sv.dg, Sv.dch])
theorem r3 : Sv.rtxt q3 = ⟨#[51]⟩ := rt_lit 3 1 _ _ _ (by simp [Sv.txtL, Sv.txtN, Sv.dg, Sv.dch])
theorem r133 : Sv.rtxt q133 = ⟨#[49, 51, 47, 51]⟩ := rt_lit 13 3 _ _ _ (by simp [Sv.txtL, Sv.txtN, Sv.dg, Sv.dch])
theorem r32 : Sv.rtxt q32 = ⟨#[51, 47, 50]⟩ := rt_lit 3 2 _ _ _ (by simp [Sv.txtL, Sv.txtN, Sv.dg, Sv.dch])
theorem rm52 : Sv.rtxt qm52 = ⟨#[45, 53, 47, 50]⟩ := rt_lit (-5) 2 _ _ _ (by simp [Sv.txtL, Sv.txtN, Sv.dg, Sv.dch])
theorem ndR_lit2 (n : Int) (d : Nat) (h0 : d ≠ 0) (h1 : n.natAbs.Coprime d) (hn : n.natAbs < 100) (hd : d < 100) : ndR (Rat.mk' n d h0 h1) ≤ 100 := by
 have e1 : Sv.nd n ≤ 2 := Sv.nd_le (by omega) (by omega)
 have e2 : Sv.nd (d : Int) ≤ 2 := Sv.nd_le (by omega) (by omega)
 unfold ndR
 show max (Sv.nd n) (Sv.nd (d : Int)) ≤ 100
 omega
theorem s12 : ndR q12 ≤ 100 := ndR_lit2 _ _ _ _ (by decide) (by decide)
theorem sm3 : ndR qm3 ≤ 100 := ndR_lit2 _ _ _ _ (by decide) (by decide)
theorem s4 : ndR q4 ≤ 100 := ndR_lit2 _ _ _ _ (by decide) (by decide)
theorem s2 : ndR q2 ≤ 100 := ndR_lit2 _ _ _ _ (by decide) (by decide)
theorem s3 : ndR q3 ≤ 100 := ndR_lit2 _ _ _ _ (by decide) (by decide)
theorem s13 : ndR q13 ≤ 100 := ndR_lit2 _ _ _ _ (by decide) (by decide)
theorem s133 : ndR q133 ≤ 100 := ndR_lit2 _ _ _ _ (by decide) (by decide)
theorem s32 : ndR q32 ≤ 100 := ndR_lit2 _ _ _ _ (by decide) (by decide)
theorem sm52 : ndR qm52 ≤ 100 := ndR_lit2 _ _ _ _ (by decide) (by decide)
theorem s1 : ndR 1 ≤ 100 := ndR_lit2 1 1 (by decide) (by decide) (by decide) (by decide)
theorem s0 : ndR 0 ≤ 100 := ndR_lit2 0 1 (by decide) (by decide) (by decide) (by decide)
theorem fine2 {a b c : Rat} (h1 : ndR a ≤ 100) (h2 : ndR b ≤ 100) (h3 : ndR c ≤ 100) : fine [a, b] c := ⟨by simp, fun q hq => by rcases List.mem_cons.1 hq with rfl | hq; · exact h1
                                                                                                                                 · rw [List.mem_singleton.1 hq]; exact h2, h3⟩
theorem fine1 {a c : Rat} (h1 : ndR a ≤ 100) (h3 : ndR c ≤ 100) : fine [a] c := ⟨by simp, fun q hq => by rw [List.mem_singleton.1 hq]; exact h1, h3⟩
abbrev tl : List ByteArray := [⟨#[49, 47, 50]⟩, ⟨#[45, 51]⟩]
abbrev tm : List ByteArray := [⟨#[49]⟩, ⟨#[48]⟩]
theorem tl_e : tl = [q12, qm3].map Sv.rtxt := by rw [List.map_cons, List.map_cons, List.map_nil, r12, rm3]
theorem tm_e : tm = ([1, 0] : List Rat).map Sv.rtxt := by rw [List.map_cons, List.map_cons, List.map_nil, r1, r0]
theorem fl : fine [q12, qm3] q4 := fine2 s12 sm3 s4
theorem fm : fine [1, 0] q13 := fine2 s1 s0 s13
theorem awAdd : addS tl ⟨#[52]⟩ tm ⟨#[49, 47, 51]⟩ = ([⟨#[51, 47, 50]⟩, ⟨#[45, 51]⟩], ⟨#[49, 51, 47, 51]⟩, 0) := by
 rw [tl_e, tm_e, ← r4, ← r13, addS_map fl fm rfl, show List.zipWith (· + ·) [q12, qm3] ([1, 0] : List Rat) = [q32, qm3] by decide +kernel, show q4 + q13 = q133 by decide +kernel, fin_pos (fine2 s32 sm3 s133), List.map_cons, List.map_cons, List.map_nil, r32, rm3, r133]
theorem awEval : evalS tl ⟨#[52]⟩ [⟨#[50]⟩, ⟨#[49, 47, 51]⟩] = (⟨#[52]⟩, 0) := by
 rw [tl_e, ← r4, show ([⟨#[50]⟩, ⟨#[49, 47, 51]⟩] : List ByteArray) = [q2, q13].map Sv.rtxt by rw [List.map_cons, List.map_cons, List.map_nil, r2, r13], evalS_map (ps := [q2, q13]) fl (by
  intro p hp
  rcases List.mem_cons.1 hp with rfl | hp
  · exact s2
  · rw [List.mem_singleton.1 hp]; exact s13) rfl, show evR [q12, qm3] q4 [q2, q13] = q4 by decide +kernel, if_pos s4]
theorem awSub : subS tl ⟨#[52]⟩ 1 tm ⟨#[49, 47, 51]⟩ = ([⟨#[45, 53, 47, 50]⟩, ⟨#[48]⟩], ⟨#[51]⟩, 0) := by
 rw [tl_e, tm_e, ← r4, ← r13, show (1 : Int) = ((1 : Nat) : Int) from rfl, subS_map fl fm rfl 1 (by decide), show List.zipWith (· + ·) ([q12, qm3].set 1 0) (([1, 0] : List Rat).map (· * [q12, qm3].getD 1 0)) = [qm52, 0] by decide +kernel, show q4 + q13 * [q12, qm3].getD 1 0 = q3 by decide +kernel, fin_pos (fine2 sm52 s0 s3), List.map_cons, List.map_cons, List.map_nil, rm52, r0, r3]
theorem awRen1 : renS tl ⟨#[52]⟩ [1, 0] 2 = ([⟨#[45, 51]⟩, ⟨#[49, 47, 50]⟩], ⟨#[52]⟩, 0) := by
 rw [tl_e, ← r4, show (2 : Int) = ((2 : Nat) : Int) from rfl, renS_map fl [1, 0] 2 (by decide) rfl (by decide), show movA [1, 0] 2 [q12, qm3] [q12, qm3].length = [qm3, q12] by decide +kernel, fin_pos (fine2 sm3 s12 s4), List.map_cons, List.map_cons, List.map_nil, rm3, r12]
theorem awRen2 : renS tl ⟨#[52]⟩ [0, 0] 1 = ([⟨#[45, 53, 47, 50]⟩], ⟨#[52]⟩, 0) := by
 rw [tl_e, ← r4, show (1 : Int) = ((1 : Nat) : Int) from rfl, renS_map fl [0, 0] 1 (by decide) rfl (by decide), show movA [0, 0] 1 [q12, qm3] [q12, qm3].length = [qm52] by decide +kernel, fin_pos (fine1 sm52 s4), List.map_cons, List.map_nil, rm52]
theorem awInt : intS tl ⟨#[52]⟩ = ([⟨#[49]⟩, ⟨#[45, 54]⟩], ⟨#[56]⟩, ⟨#[50]⟩, 0) := by
 rw [tl_e, ← r4, intS_map fl 2 q2 (by decide +kernel) (by decide +kernel), show ([q12, qm3].map fun p => (p * q2).num) = [1, -6] by decide +kernel, show (q4 * q2).num = 8 by decide +kernel, if_pos (by
  intro m hm
  refine Nat.le_trans (nd_lt10 ?_) (by decide)
  simp only [List.cons_append, List.nil_append, List.mem_cons, List.not_mem_nil, or_false] at hm
  rcases hm with rfl | rfl | rfl | rfl <;> decide), show ([q12, qm3].map fun p => Sv.txt (p * q2).num) = ([1, -6] : List Int).map Sv.txt by
   rw [← show ([q12, qm3].map fun p => (p * q2).num) = [1, -6] by decide +kernel, List.map_map]; rfl]
 simp [Sv.txt, Sv.txtL, Sv.txtN, Sv.dg, Sv.dch]
set_option linter.unusedVariables false
set_option linter.unusedSimpArgs false
open Go.RowKit Go.Proofs.WWords Go.Proofs.WLast Go.Proofs.WMore
structure EvD where
  i : Nat
  d : Tmp
  deps : List Nat
  al : Bool
  F : Value → World → Prop
  st : ∀ v w w', F v w → Below w.heap.size w w' → F v w'
  hal : al = true → ∀ v w, F v w → ∃ g, v = .pointer (some ⟨g, 0, none⟩) ∧ g < w.heap.size
section
variable {P : Program} {ops : Array Oper} {Q : Exit → Act → World → Prop} {md : Region.Mode} {S : World → Prop} {ds : List Nat}
end
section
variable {P : Program} {ops : Array Oper} {Q : Exit → Act → World → Prop} {D : List EvD} {B : World → Prop} {a0 : Act}
end
section
variable {P : Program} {ops : Array Oper} {Q : Exit → Act → World → Prop} {md : Region.Mode} {S : World → Prop} {ds : List Nat}
end
end Go.Proofs.YtgihllbgjpcapaaGreatDoor.PA
