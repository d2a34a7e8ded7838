import Derived.Test.YtihbebbabjklkaaGreatDoorAG6
import Derived.Test.YtihbebbabjklkaaGreatDoorAG4
import Derived.Test.YtihbebbabjklkaaGreatDoorAG1
import Derived.Test.YtihbebbabjklkaaGreatDoorAP2
import Derived.Test.YtihbebbabjklkaaGreatDoorAD
set_option maxHeartbeats 8000000
set_option maxRecDepth 100000
set_option linter.unusedVariables false
namespace Go.Proofs.YtihbebbabjklkaaGreatDoor.PA
set_option linter.unusedVariables false
set_option linter.unusedSimpArgs false
open Go.RowKit Go.Shelf Go.Proofs.WWords Go.Proofs.WLast Go.Proofs.WMore
theorem R_empty {w : World} {e base g : Nat} (h : w.heap[g]? = some (.cells #[] e (0, 0))) (hb : base ≤ g) : Kd.R Kd.string e w base (fun _ => True) (.slice (some ⟨g, 0, none⟩) 0 0) [] :=
 ⟨fun _ _ => trivial, [], ⟨rfl, .inr ⟨g, 0, #[], rfl, hb, h, Nat.le_refl _, Nat.zero_le _, rfl, rfl⟩⟩, rfl, fun j p hj => by simp at hj⟩
noncomputable def subS (l : List ByteArray) (s : ByteArray) (i : Int) (m : List ByteArray) (t : ByteArray) : List ByteArray × ByteArray × Int :=
 if chk2L l s m t = 0 then (if i < 0 ∨ (l.length : Int) ≤ i then ([], ⟨#[]⟩, 6) else fin (List.zipWith (· + ·) ((l.map rv).set i.toNat 0) ((m.map rv).map (· * (l.map rv).getD i.toNat 0))) (rv s + rv t * (l.map rv).getD i.toNat 0)) else ([], ⟨#[]⟩, chk2L l s m t)
structure S3 (w : World) (o0 o1 o2 : Obj) (u : World) : Prop where
  a : u.heap[w.heap.size]? = some o0
  b : u.heap[w.heap.size + 1]? = some o1
  c : u.heap[w.heap.size + 1 + 1]? = some o2
  B : Below w.heap.size w u
theorem S3.on {w u u' : World} {o0 o1 o2 : Obj} (h : S3 w o0 o1 o2 u) (hb : Below u.heap.size u u') : S3 w o0 o1 o2 u' :=
 ⟨blk_below h.a hb, blk_below h.b hb, blk_below h.c hb, below_step h.B hb⟩
theorem S3.grown {w u u' : World} {o0 o1 o2 : Obj} (h : S3 w o0 o1 o2 u) {base : Nat} {row : Option Nat} (hg : u.grownBy u' row) (hB : Below base u u') (hb : w.heap.size ≤ base) (h0 : some w.heap.size ≠ row) (h1 : some (w.heap.size + 1) ≠ row) (h2 : some (w.heap.size + 1 + 1) ≠ row) : S3 w o0 o1 o2 u' :=
 ⟨(hg.block _ (blk_lt h.a) h0).trans h.a, (hg.block _ (blk_lt h.b) h1).trans h.b, (hg.block _ (blk_lt h.c) h2).trans h.c, h.B.trans (hB.mono hb)⟩
theorem Cs_setE {w : World} {A : Option Addr} {n g t : Nat} {xs : List ByteArray} (h : Kd.string.C w A n xs) (hb : w.heap[g]? = some (.cells #[.slice none 0 0, .string ⟨#[]⟩] t (0, 0))) (hx : ∀ x ∈ xs, 0 < x.size) (v v' : Value) : Kd.string.C ((w.setCell ⟨g, 0, none⟩ v).setCell ⟨g, 1, none⟩ v') A n xs := by
 obtain ⟨h1, h2, h3⟩ := Kd.reads_of_C (enc := Value.string) (d := ByteArray.empty) (h1 := fun _ => rfl) h
 refine Kd.C_of_reads (d := ByteArray.empty) ⟨h1, h2, fun hn => ?_⟩
 obtain ⟨ad, e, hc⟩ := h3 hn
 refine ⟨ad, e, fun j hj => ?_⟩
 have hj' : j < xs.length := by omega
 have hp : 0 < (xs.getD j ByteArray.empty).size := by rw [List.getD_eq_getElem?_getD, List.getElem?_eq_getElem hj']; exact hx _ (List.getElem_mem _)
 have hc' := hc j hj
 have hne : (ad.add j).block ≠ g := fun e' => by
  unfold World.cell? at hc'
  rw [e', hb] at hc'
  simp only at hc'
  split at hc'
  · cases hc'
  · generalize (ad.add j).off = o at hc'
    match o, hc' with
    | 0, h => cases h
    | 1, h =>
     injection h with h
     injection h with h
     rw [← h] at hp
     exact absurd hp (by decide)
    | o + 2, h => simp at h
 rw [World.cell?_setCell_other (h := fun e' => hne (congrArg Addr.block e').symm), World.cell?_setCell_other (h := fun e' => hne (congrArg Addr.block e').symm)]
 exact hc'
theorem Substitute_ok (A B : Option Addr) (n c n' c' : Nat) (i : Int) (l m : List ByteArray) (s t : ByteArray) (w : World) (hL : LaidW w) (hC : Z0 (Kd.string.C w A n l)) (hC' : Z0 (Kd.string.C w B n' m)) (hn : n = l.length) (hn' : n' = m.length) (hm : n ≤ 1000) (hm' : n' ≤ 1000) (hO : ∀ s ∈ l, Okt s) (hO' : ∀ s ∈ m, Okt s) (hs : Okt s) (ht : Okt t) :
  Calls Tryz.prog 15 #[.agg #[.slice A n c, .string s], .int .i64 i, .agg #[.slice B n' c', .string t]] w (LinR w w.heap.size (subS l s i m t)) := by
 have HB := Z0.mk (Below.refl w.heap.size w)
 have hu := Tryz.underlying25
 have hCw := hC
 have hCw' := hC'
 obtain ⟨y, hy⟩ : ∃ x, Z0 (chk2L l s m t = x) := ⟨_, ⟨rfl⟩⟩
 replace hn := Z0.mk hn
 replace hn' := Z0.mk hn'
 go_enter Tryz.func15, Tryz.ntmps15
 go_upto_region 1 with (fail)
 refine al3 ?_
 intro W hb B0 B1 B2
 replace HB := fB HB hb
 replace hC := Z0.mk (Kd.C_below hC.out hb)
 replace hC' := Z0.mk (Kd.C_below hC'.out hb)
 obtain ⟨p0, p1, -, -⟩ := b2 B0
 obtain ⟨q0, q1, -, -⟩ := b2 B1
 obtain ⟨r0, r1, f0, f1⟩ := b2 B2
 clear hb
 by_cases h0 : y = 0
 · subst h0
   by_cases h1 : i < 0 ∨ (l.length : Int) ≤ i
   · have hs' : Z0 (subS l s i m t = ([], ⟨#[]⟩, 6)) := ⟨by unfold subS; rw [hy.out, if_pos rfl, if_pos h1]⟩
     rw [← hn.out] at h1
     by_cases h2 : i < 0
     · have c1 : decide (i < 0) = true := decide_eq_true h2
       clear h1
       go_wp2_with ((with_reducible refine gc_ 58 rfl ?_); refine cG rfl ?_; intro w' hb; replace B0 := fk B0 hb; replace B2 := fk B2 hb; replace HB := fB HB hb; clear hb p0 p1 q0 q1 r0 r1 f0 f1; obtain ⟨p0, p1, -, -⟩ := b2 B0; obtain ⟨r0, r1, f0, f1⟩ := b2 B2)
       refine bodyPost_ret (results_ct rfl _ _ (w.heap.size + 1 + 1) 25 #[.slice none 0 0, .string ⟨#[]⟩] (0, 0) _ rfl (blk_put (blk_put B2.out 0 _ rfl) 1 _ rfl) hu rfl (by kernel_rfl)) rfl ?_
       rw [hs'.out]
       exact ⟨none, 0, rfl, Nat.le_refl _, C_nilS, Ab.none, below_set (below_set HB.out (by omega)) (by omega)⟩
     · have c1 : decide (i < 0) = false := decide_eq_false h2
       have c2 : decide ((n : Int) ≤ i) = true := decide_eq_true (by omega)
       clear h1
       go_wp2_with ((with_reducible refine gc_ 58 rfl ?_); refine cG rfl ?_; intro w' hb; replace B0 := fk B0 hb; replace B2 := fk B2 hb; replace HB := fB HB hb; clear hb p0 p1 q0 q1 r0 r1 f0 f1; obtain ⟨p0, p1, -, -⟩ := b2 B0; obtain ⟨r0, r1, f0, f1⟩ := b2 B2)
       refine bodyPost_ret (results_ct rfl _ _ (w.heap.size + 1 + 1) 25 #[.slice none 0 0, .string ⟨#[]⟩] (0, 0) _ rfl (blk_put (blk_put B2.out 0 _ rfl) 1 _ rfl) hu rfl (by kernel_rfl)) rfl ?_
       rw [hs'.out]
       exact ⟨none, 0, rfl, Nat.le_refl _, C_nilS, Ab.none, below_set (below_set HB.out (by omega)) (by omega)⟩
   obtain ⟨k, rfl⟩ := Int.eq_ofNat_of_zero_le (by omega : 0 ≤ i)
   have hk : k < n := by have := hn.out; omega
   have hs' : subS l s k m t = fin (List.zipWith (· + ·) ((l.map rv).set k 0) ((m.map rv).map (· * (l.map rv).getD k 0))) (rv s + rv t * (l.map rv).getD k 0) := by unfold subS; rw [hy.out, if_pos rfl, if_neg h1]; rfl
   clear h1
   obtain ⟨qs, rs, q, r, rfl, rfl, rfl, rfl, e1, e2, e3, e4⟩ := of_chk2L hy.out
   rw [rv_map, rv_map, rv_rtxt, rv_rtxt] at hs'
   have e5 : n = qs.length := by rw [hn.out, List.length_map]
   have hkq : k < qs.length := by omega
   obtain ⟨p, hp⟩ : ∃ p, qs[k] = p := ⟨_, rfl⟩
   have hpd : qs.getD k 0 = p := by rw [List.getD_eq_getElem?_getD, List.getElem?_eq_getElem hkq, Option.getD_some, hp]
   rw [hpd] at hs'
   replace hs' := Z0.mk hs'
   have hpn : ndR p ≤ 100 := e3 p (by rw [← hp]; exact List.mem_append_left _ (List.getElem_mem _))
   have c1 : decide ((k : Int) < 0) = false := decide_eq_false (by omega)
   have c2 : decide ((n : Int) ≤ (k : Int)) = false := decide_eq_false (by omega)
   replace e1 := Z0.mk e1
   replace e5 := Z0.mk e5
   go_wp2_with ((with_reducible refine gc_ 58 rfl ?_); refine cG rfl ?_; intro w' hb; replace B0 := fk B0 hb; replace B1 := fk B1 hb; replace B2 := fk B2 hb; replace HB := fB HB hb; clear hb p0 p1 q0 q1 r0 r1 f0 f1; obtain ⟨p0, p1, -, -⟩ := b2 B0; obtain ⟨r0, r1, f0, f1⟩ := b2 B2)
   refine start_ (n := 9) (S := fun w' => w'.cell? ⟨w.heap.size, 0, none⟩ = some (.slice A n c) ∧ w'.cell? ⟨w.heap.size, 1, none⟩ = some (.string (Sv.rtxt q))) (ds := [8]) _ (by kernel_rfl) rfl rfl ⟨p0, p1⟩ (fun hHeld => ?_)
   refine tp 1 30 ?_
   refine tk 2 31 (by exact hHeld) ?_
   refine tp 4 33 ?_
   refine tk 5 34 (by exact hHeld) ?_
   have N := S3.on (w := w) ⟨B0.out, B1.out, B2.out, HB.out⟩ (Below.refl w'.heap.size w').drew
   obtain ⟨S_, hS_⟩ : ∃ S_ : World → Prop, S_ = (fun w' => w'.cell? ⟨w.heap.size, 0, none⟩ = some (.slice A n c) ∧ w'.cell? ⟨w.heap.size, 1, none⟩ = some (.string (Sv.rtxt q))) := ⟨_, rfl⟩
   have hBS : ∀ u, S3 w (.cells #[.slice A n c, .string (Sv.rtxt q)] 25) (.cells #[.slice B n' c', .string (Sv.rtxt r)] 25) (.cells #[.slice none 0 0, .string ⟨#[]⟩] 25) u → S_ u := fun u h => by rw [hS_]; exact ⟨(b2 ⟨h.a⟩).1, (b2 ⟨h.a⟩).2.1⟩
   rw [← hS_]
   clear hS_
   clear B0 B1 B2 HB p0 p1 r0 r1 f0 f1 hHeld hC hC'
   generalize w'.drew = W0 at *
   refine pend1s 9 (fun b => #[false, true, true, false, true, true, false, b, false]) (n := 3) (n0 := W0.heap.size) (ob := .cells #[.slice none 0 0, .string ⟨#[]⟩] 25) (b := false) 0 7 (AF1.start (Nat.le_refl _)) N (fun b x u hAF hBu => ?_) (fun _ _ h hb => h.on hb) hBS
   have hb0 := below_alloc (Below.refl u.heap.size u) (.cells #[] 23)
   refine pev 0 29 (v := .slice (some ⟨u.heap.size, 0, none⟩) 0 0) (w1 := u.alloc (.cells #[] 23)) ?hr ?_
   case hr => go_simp; try rfl
   refine ⟨hBS _ (hBu.on hb0), ?_⟩
   have HO := R_empty (base := W0.heap.size) (blk_new u (.cells #[] 23)) hAF.n
   have hAF1 := hAF.on hb0
   have hBu1 := hBu.on hb0
   clear hAF hBu hb0
   simp only [Act.put, List.setIfInBounds_toArray, List.set_cons_zero, List.set_cons_succ]
   generalize u.heap.size = g0 at *
   generalize u.alloc (.cells #[] 23) = W1 at *
   refine pend1s 9 (fun b => #[true, true, true, false, true, true, false, b, false]) (n := 2) (B := fun u => S3 w (.cells #[.slice A n c, .string (Sv.rtxt q)] 25) (.cells #[.slice B n' c', .string (Sv.rtxt r)] 25) (.cells #[.slice none 0 0, .string ⟨#[]⟩] 25) u ∧ Kd.R Kd.string 23 u W0.heap.size (fun _ => True) (.slice (some ⟨g0, 0, none⟩) 0 0) []) 3 7 hAF1 ⟨hBu1, HO⟩ (fun b x u hAF hBu => ?_) (fun _ _ h hb => ⟨h.1.on hb, Kd.R_below h.2 hb⟩) (fun _ h => hBS _ h.1)
   clear hAF1 hBu1 HO
   obtain ⟨hBu, HO⟩ := hBu
   refine plst 3 ?_
   have hW0 : w.heap.size + 1 + 1 < W0.heap.size := blk_lt N.c
   refine Kd.R_append_rows Kd.string (w0 := u) W0.heap.size rfl (.tmp 29) (.tmp 31) 22 23 (.string ⟨#[]⟩) 16 rfl Tryz.underlying22 infoRat rfl (by decide) (by decide) _ [] (qs.map Sv.rtxt) A n c (fun _ => True) (fun _ => False) rfl rfl HO (Kd.C_below hCw.out hBu.B) (fun _ _ h => h) (fun _ h => h.elim) (fun _ _ => trivial) (Below.refl _ _) hAF.n (by simp; omega) ?_
   intro v1 w1 HO1 hb1 hg1 _
   have hBu1 := hBu.grown hg1 hb1 (by omega) (Kd.R_ne HO hBu.a (by decide)) (Kd.R_ne HO hBu.b (by decide)) (Kd.R_ne HO hBu.c (by decide))
   have hAF1 := hAF.keep hb1.size (fun g hg => (hg1.block g (blk_lt hg) (Kd.R_ne HO hg (by decide))).trans hg)
   refine ⟨fun _ _ => hBS _ hBu1, ?_⟩
   rw [List.nil_append] at HO1
   obtain ⟨X, d, rfl, HO2⟩ := R_cut (m := n) ⟨HO1⟩ (by rw [List.length_map]; exact e5.out.symm)
   clear hAF HO HO1 hBu hb1 hg1
   simp only [Act.put, List.setIfInBounds_toArray, List.set_cons_zero, List.set_cons_succ]
   refine pend1s 9 (fun b => #[true, true, true, true, true, true, false, b, false]) (n := 1) (B := fun u => S3 w (.cells #[.slice A n c, .string (Sv.rtxt q)] 25) (.cells #[.slice B n' c', .string (Sv.rtxt r)] 25) (.cells #[.slice none 0 0, .string ⟨#[]⟩] 25) u ∧ Kd.R Kd.string 23 u W0.heap.size (fun _ => True) (.slice X n d) (qs.map Sv.rtxt)) 6 7 hAF1 ⟨hBu1, HO2.out⟩ (fun b x u hAF hBu => ?_) (fun _ _ h hb => ⟨h.1.on hb, Kd.R_below h.2 hb⟩) (fun _ h => hBS _ h.1)
   clear hAF1 hBu1 HO2
   refine pev 6 35 (v := .agg #[.slice X n d, .string (Sv.rtxt q)]) (w1 := u) ?hr2 ?_
   case hr2 => go_simp; try rfl
   refine ⟨hBS _ hBu.1, ?_⟩
   simp only [Act.put, List.setIfInBounds_toArray, List.set_cons_zero, List.set_cons_succ]
   refine pend1z 9 (fun b => #[true, true, true, true, true, true, true, b, false]) (n := 1) (B := fun u => S3 w (.cells #[.slice A n c, .string (Sv.rtxt q)] 25) (.cells #[.slice B n' c', .string (Sv.rtxt r)] 25) (.cells #[.slice none 0 0, .string ⟨#[]⟩] 25) u ∧ Kd.R Kd.string 23 u W0.heap.size (fun _ => True) (.slice X n d) (qs.map Sv.rtxt)) 7 hAF hBu (fun x u hAF' hBu' => ?_) (fun _ _ h hb => ⟨h.1.on hb, Kd.R_below h.2 hb⟩) (fun _ h => hBS _ h.1)
   clear hAF hBu
   obtain ⟨gk, rfl, hgk, Bk⟩ := hAF'.p rfl
   obtain ⟨hBu, HO⟩ := hBu'
   clear hAF'
   obtain ⟨k0, k1, k2, k3⟩ := b2 ⟨Bk⟩
   simp only [Act.put, List.setIfInBounds_toArray, List.set_cons_zero, List.set_cons_succ]
   refine stL 8 ?_
   refine done_ (by kernel_rfl) ?_
   have B3 := Z0.mk (blk_put (blk_put Bk 0 (.slice X n d) rfl) 1 (.string (Sv.rtxt q)) rfl)
   replace HO := Z0.mk (Rstr_put HO Bk (.slice X n d) (.string (Sv.rtxt q)))
   have N2 : S3 w _ _ _ ((u.setCell ⟨gk, 0, none⟩ (.slice X n d)).setCell ⟨gk, 1, none⟩ (.string (Sv.rtxt q))) := ⟨blk_far (p := ⟨gk, 1, none⟩) (blk_far (p := ⟨gk, 0, none⟩) hBu.a (by show w.heap.size ≠ gk; omega) _) (by show w.heap.size ≠ gk; omega) _, blk_far (p := ⟨gk, 1, none⟩) (blk_far (p := ⟨gk, 0, none⟩) hBu.b (by show w.heap.size + 1 ≠ gk; omega) _) (by show w.heap.size + 1 ≠ gk; omega) _, blk_far (p := ⟨gk, 1, none⟩) (blk_far (p := ⟨gk, 0, none⟩) hBu.c (by show w.heap.size + 1 + 1 ≠ gk; omega) _) (by show w.heap.size + 1 + 1 ≠ gk; omega) _, below_set (below_set hBu.B (by omega)) (by omega)⟩
   generalize ((u.setCell ⟨gk, 0, none⟩ (.slice X n d)).setCell ⟨gk, 1, none⟩ (.string (Sv.rtxt q))) = W2 at *
   clear hBu Bk k0 k1 k2 k3 hBS
   obtain ⟨g, rfl, k0, k1, k2, k3⟩ := ownS HO k (by omega) (by omega)
   obtain ⟨r0, r1, -, -⟩ := b2 B3
   rw [Int.toNat_natCast] at k0 k1
   have ka1 : (Addr.mk g 0 none).add k = ⟨g, k, none⟩ := add_plain g k
   go_wp2_with ((with_reducible refine gate_store rfl ?_); (with_reducible refine gs_ 39 rfl ?_); refine stS k (⟨#[48]⟩ : ByteArray) HO rfl ?_; intro w4 HO4 hg hb; replace B3 := Z0.mk ((hg.block _ (blk_lt B3.out) (Kd.R_ne HO.out B3.out (by decide))).trans B3.out); replace N2 := N2.grown hg hb (by omega) (Kd.R_ne HO.out N2.a (by decide)) (Kd.R_ne HO.out N2.b (by decide)) (Kd.R_ne HO.out N2.c (by decide)); replace HO := HO4; clear HO4 hg hb k0 k1 k2 k3 r0 r1)
   clear hgk ka1
   have hz4 := Z0.mk (blk_lt B3.out)
   have hCA := Kd.C_below hCw.out N2.B
   obtain ⟨ad, rfl, hxx, x1, x2⟩ := asI hCA (k : Int) (by omega) (by omega)
   rw [Int.toNat_natCast] at hxx
   have hs0 : rdOf ByteArray.empty (qs.map Sv.rtxt) (k : Int) = Sv.rtxt p := by rw [← hp]; simp [rdOf, hkq]
   rw [hs0] at hxx
   clear hs0 hCA
   obtain ⟨p0, p1, -, -⟩ := b2 ⟨N2.a⟩
   obtain ⟨q0, q1, -, -⟩ := b2 ⟨N2.b⟩
   refine start_ (n := 13) (S := fun w' => w'.cell? ⟨w.heap.size + 1, 0, none⟩ = some (.slice B n' c') ∧ w'.cell? ⟨w.heap.size + 1, 1, none⟩ = some (.string (Sv.rtxt r)) ∧ w'.cell? ⟨w.heap.size, 0, none⟩ = some (.slice (some ad) n c) ∧ w'.cell? (ad.add k) = some (.string (Sv.rtxt p))) (ds := [11]) _ (by kernel_rfl) rfl rfl ⟨q0, q1, p0, hxx⟩ (fun hHeld => ?_)
   refine tk 0 41 (by exact hHeld) ?_
   refine tp 1 42 ?_
   refine tk 2 43 (by exact hHeld) ?_
   refine tp 3 44 ?_
   refine tp 4 45 ?_
   refine tk 5 46 (by exact hHeld) ?_
   obtain ⟨S_, hS_⟩ : ∃ S_ : World → Prop, S_ = (fun w' => w'.cell? ⟨w.heap.size + 1, 0, none⟩ = some (.slice B n' c') ∧ w'.cell? ⟨w.heap.size + 1, 1, none⟩ = some (.string (Sv.rtxt r)) ∧ w'.cell? ⟨w.heap.size, 0, none⟩ = some (.slice (some ad) n c) ∧ w'.cell? (ad.add k) = some (.string (Sv.rtxt p))) := ⟨_, rfl⟩
   obtain ⟨BB, hBB⟩ : ∃ BB : World → Prop, BB = (fun u => S3 w (.cells #[.slice (some ad) n c, .string (Sv.rtxt q)] 25) (.cells #[.slice B n' c', .string (Sv.rtxt r)] 25) (.cells #[.slice none 0 0, .string ⟨#[]⟩] 25) u ∧ u.heap[gk]? = some (.cells #[.slice (some ⟨g, 0, none⟩) n d, .string (Sv.rtxt q)] 25 (0, 0)) ∧ Kd.R Kd.string 23 u W0.heap.size (fun _ => True) (.slice (some ⟨g, 0, none⟩) n d) ((qs.map Sv.rtxt).set (k : Int).toNat ⟨#[48]⟩)) := ⟨_, rfl⟩
   have hd4 := (Below.refl w4.heap.size w4).drew
   have hBu : BB w4.drew := by rw [hBB]; exact ⟨N2.on hd4, blk_below B3.out hd4, Kd.R_below HO.out hd4⟩
   have hBon : ∀ u u', BB u → Below u.heap.size u u' → BB u' := fun u u' h hb => by rw [hBB] at h ⊢; exact ⟨h.1.on hb, blk_below h.2.1 hb, Kd.R_below h.2.2 hb⟩
   have hBw : ∀ u, BB u → Below w.heap.size w u := fun u h => by rw [hBB] at h; exact h.1.B
   have hBS : ∀ u, BB u → S_ u := fun u h => by
    rw [hBB] at h
    rw [hS_]
    obtain ⟨h1, h2, h3⟩ := h
    obtain ⟨ad', e', hx', -, -⟩ := asI (Kd.C_below hCw.out h1.B) (k : Int) (by omega) (by omega)
    obtain rfl : ad = ad' := by injection e'
    rw [Int.toNat_natCast, show rdOf ByteArray.empty (qs.map Sv.rtxt) (k : Int) = Sv.rtxt p by rw [← hp]; simp [rdOf, hkq]] at hx'
    exact ⟨(b2 ⟨h1.b⟩).1, (b2 ⟨h1.b⟩).2.1, (b2 ⟨h1.a⟩).1, hx'⟩
   rw [← hS_]
   clear hS_ hHeld p0 p1 q0 q1 hxx x1 x2 N2 B3 HO hd4
   generalize w4.drew = W4 at *
   have hz5 : gk < W4.heap.size := by rw [hBB] at hBu; exact blk_lt hBu.2.1
   have hz6 : w.heap.size + 1 + 1 < W4.heap.size := by rw [hBB] at hBu; exact blk_lt hBu.1.c
   have hpr : ∀ x ∈ rs ++ [r], ndR x + ndR p + 1 ≤ 4096 := fun x hx => by have := e4 x hx; omega
   have hn2 : n' = rs.length := by rw [hn'.out, List.length_map]
   replace hn2 := Z0.mk hn2
   refine pend1s 10 (fun b => #[true, true, true, true, true, true, false, false, false, false, b, false, false]) (n := 5) (n0 := W4.heap.size) (ob := .cells #[.slice none 0 0, .string ⟨#[]⟩] 25) (b := false) 6 10 (AF1.start (Nat.le_refl _)) hBu (fun b x u hAF hBu => ?_) hBon hBS
   refine pcl 6 47 ⟨_, Tryz.func59, by kernel_rfl, rfl⟩ (times_ok B n' c' rs r p u (hL.below (hBw _ hBu)) ⟨Kd.C_below hCw'.out (hBw _ hBu)⟩ hn2.out hm' hpr) ?_
   rintro _ wa ⟨X', d', rfl, hd', CX, hX, hb⟩
   have hBu1 := hBon _ _ hBu hb
   have hAF1 := hAF.on hb
   refine ⟨_, rfl, hBS _ hBu1, ?_⟩
   clear hAF hBu hb
   simp only [Act.put, List.setIfInBounds_toArray, List.set_cons_zero, List.set_cons_succ]
   rw [show 5 + pd b = 4 + pd b + 1 by omega]
   refine tp 7 40 ?_ (hc := by (clear hAF1; cases b <;> kernel_rfl))
   rw [show 4 + pd b = 3 + pd b + 1 by omega]
   refine tp 8 48 ?_ (hc := by (clear hAF1; cases b <;> kernel_rfl))
   rw [show 3 + pd b = 2 + pd b + 1 by omega]
   refine tp 9 49 ?_ (hc := by (clear hAF1; cases b <;> kernel_rfl))
   refine pend1z 10 (fun b => #[true, true, true, true, true, true, true, true, true, true, b, false, false]) (n := 2) (B := fun u => BB u ∧ Kd.string.C u X' n' (rs.map fun x => Sv.rtxt (x * p))) 10 hAF1 ⟨hBu1, CX⟩ (fun x u hAF hBu => ?_) (fun _ _ h hb => ⟨hBon _ _ h.1 hb, Kd.C_below h.2 hb⟩) (fun _ h => hBS _ h.1)
   clear hAF1 hBu1 CX
   obtain ⟨gm, rfl, hgm, Bm⟩ := hAF.p rfl
   obtain ⟨hBu, CX⟩ := hBu
   clear hAF
   obtain ⟨k0, k1, k2, k3⟩ := b2 ⟨Bm⟩
   simp only [Act.put, List.setIfInBounds_toArray, List.set_cons_zero, List.set_cons_succ]
   refine stL 11 ?_
   refine tp 12 11 ?_
   refine done_ (by kernel_rfl) ?_
   rw [hBB] at hBu
   obtain ⟨N4, Bk, HO⟩ := hBu
   have CX5 := Z0.mk (Cs_setE CX Bm (fun x hx => by obtain ⟨y, -, rfl⟩ := List.mem_map.1 hx; exact (rtxt_head _).1) (.slice X' n' d') (.string (Sv.rtxt (r * p))))
   have Bm5 := Z0.mk (blk_put (blk_put Bm 0 (.slice X' n' d') rfl) 1 (.string (Sv.rtxt (r * p))) rfl)
   have Bk5 := Z0.mk (blk_far (p := ⟨gm, 1, none⟩) (blk_far (p := ⟨gm, 0, none⟩) Bk (by show gk ≠ gm; omega) (.slice X' n' d')) (by show gk ≠ gm; omega) (.string (Sv.rtxt (r * p))))
   have B5 := Z0.mk (blk_far (p := ⟨gm, 1, none⟩) (blk_far (p := ⟨gm, 0, none⟩) N4.c (by show w.heap.size + 1 + 1 ≠ gm; omega) (.slice X' n' d')) (by show w.heap.size + 1 + 1 ≠ gm; omega) (.string (Sv.rtxt (r * p))))
   have HO5 := Z0.mk (Rstr_put HO Bm (.slice X' n' d') (.string (Sv.rtxt (r * p))))
   have HB5 := Z0.mk (below_set (below_set (g := gm) (j := 0) (v := .slice X' n' d') N4.B (by omega)) (g := gm) (j := 1) (v := .string (Sv.rtxt (r * p))) (by omega))
   generalize ((u.setCell ⟨gm, 0, none⟩ (.slice X' n' d')).setCell ⟨gm, 1, none⟩ (.string (Sv.rtxt (r * p)))) = W5 at *
   clear N4 Bk HO CX Bm k0 k1 k2 k3 hBS hBon hBw hBB hX
   have hnn : n' = n := by have := e1.out; have := e5.out; have := hn2.out; omega
   subst hnn
   obtain ⟨r0, r1, -, -⟩ := b2 Bk5
   obtain ⟨q0, q1, -, -⟩ := b2 Bm5
   obtain ⟨f0, f1, f2, f3⟩ := b2 B5
   have e6 : (qs.map Sv.rtxt).set (k : Int).toNat ⟨#[48]⟩ = (qs.set k 0).map Sv.rtxt := by rw [List.map_set, Int.toNat_natCast]; rfl
   have e7 : (rs.map fun x => Sv.rtxt (x * p)) = (rs.map (· * p)).map Sv.rtxt := by rw [List.map_map]; rfl
   have CK := HO5.out
   rw [e6] at CK
   have CK := (Kd.R_reads' CK).2.2
   rw [List.length_map, List.length_set, ← e5.out] at CK
   have CX5 := CX5.out
   rw [e7] at CX5
   have e8 : n' = (qs.set k 0).length := by rw [List.length_set]; exact e5.out
   have e9 : n' = (rs.map (· * p)).length := by rw [List.length_map]; exact hn2.out
   have hm9 : n' ≤ 900 := by have := e5.out; omega
   have e10 : ∀ x ∈ qs.set k 0 ++ [q], ndR x ≤ 2000 := fun x hx => by
    rcases List.mem_append.1 hx with hx | hx
    · rcases List.mem_or_eq_of_mem_set hx with hx | rfl
      · have := e3 x (List.mem_append_left _ hx); omega
      · have := ndR_0; omega
    · have := e3 x (List.mem_append_right _ hx); omega
   have e11 : ∀ x ∈ rs.map (· * p) ++ [r * p], ndR x ≤ 2000 := fun x hx => by
    rcases List.mem_append.1 hx with hx | hx
    · obtain ⟨y, hy', rfl⟩ := List.mem_map.1 hx
      have := ndR_mul y p
      have := e4 y (List.mem_append_left _ hy')
      omega
    · rw [List.mem_singleton.1 hx]
      have := ndR_mul r p
      have := e4 r (by simp)
      omega
   have P1 := Z0.mk (plus_ok (some ⟨g, 0, none⟩) X' n' d d' (qs.set k 0) (rs.map (· * p)) q (r * p) W5 (hL.below HB5.out) ⟨CK⟩ ⟨CX5⟩ e8 e9 hm9 e10 e11)
   obtain ⟨zs, hzs⟩ : ∃ zs, List.zipWith (· + ·) (qs.set k 0) (rs.map (· * p)) = zs := ⟨_, rfl⟩
   have e12 : ∀ x ∈ zs, ndR x ≤ 4096 := fun x hx => by
    rw [← hzs] at hx
    obtain ⟨j, hj, rfl⟩ := List.getElem_of_mem hx
    rw [List.getElem_zipWith]
    rw [List.length_zipWith] at hj
    have a := e10 (qs.set k 0)[j] (List.mem_append_left _ (List.getElem_mem _))
    have b := e11 (rs.map (· * p))[j] (List.mem_append_left _ (List.getElem_mem _))
    have := ndR_add (qs.set k 0)[j] (rs.map (· * p))[j]
    omega
   have e13 : ndR (q + r * p) ≤ 4096 := by
    have a := e10 q (by simp)
    have b := e11 (r * p) (by simp)
    have := ndR_add q (r * p)
    omega
   have e14 : n' = zs.length := by rw [← hzs, List.length_zipWith, ← e8, ← e9]; omega
   rw [hzs] at P1 hs'
   replace e14 := Z0.mk e14
   have z5 := Z0.mk (blk_lt B5.out)
   clear hzs e6 e7 e8 e9 CK CX5
   go_wp2_with (first
      | ((with_reducible refine gc_ 61 rfl ?_); refine gL 55 Tryz.func61 P1.out ?_; rintro _ w6 ⟨Y, d6, rfl, hd6, CY, hY, hb⟩; refine ⟨_, rfl, ?_⟩; have hY6 := Z0.mk (hY.mono (lo' := w.heap.size + 1 + 1 + 1) (by have := z5.out; omega)); replace CY := Z0.mk CY; have B6 := Z0.mk (blk_below B5.out hb); have HB6 := Z0.mk (below_step HB5.out hb); clear hb hY r0 r1 q0 q1 f0 f1 f2 f3; obtain ⟨f0, f1, f2, f3⟩ := b2 B6)
      | ((with_reducible refine gc_ 60 rfl ?_); refine gL 58 Tryz.func60 (done_ok Y n' d6 (w.heap.size + 1 + 1 + 1) zs (q + r * p) w6 (hL.below HB6.out) CY e14.out (by omega) hd6 hY6.out e12 e13) ?_; rintro _ w7 ⟨Z, d7, rfl, hd7, CZ, hZ, hb⟩; refine ⟨_, rfl, ?_⟩; replace hZ := Z0.mk hZ; replace CZ := Z0.mk CZ; have B7 := Z0.mk (blk_below B6.out hb); have HB7 := Z0.mk (below_step HB6.out hb); clear hb f0 f1 f2 f3; obtain ⟨f0, f1, f2, f3⟩ := b2 B7))
   refine bodyPost_ret (results_ct rfl _ _ (w.heap.size + 1 + 1) 25 #[.slice Z _ d7, .string _] (0, 0) _ rfl (blk_put (blk_put B7.out 0 _ rfl) 1 _ rfl) hu rfl (by kernel_rfl)) rfl ?_
   rw [hs'.out]
   exact ⟨Z, d7, rfl, hd7, Cs_set2 CZ.out hZ.out (by omega) _ _, hZ.out.mono (by omega), below_set (below_set HB7.out (by omega)) (by omega)⟩
 · have hs' : Z0 (subS l s i m t = ([], ⟨#[]⟩, y)) := ⟨by unfold subS; rw [hy.out, if_neg h0]⟩
   have h0' : (y != 0) = true := bne_iff_ne.mpr h0
   go_wp2_with ((with_reducible refine gc_ 58 rfl ?_); refine cG rfl ?_; intro w' hb; replace B2 := fk B2 hb; replace HB := fB HB hb; clear hb p0 p1 q0 q1 r0 r1 f0 f1; obtain ⟨r0, r1, f0, f1⟩ := b2 B2)
   refine bodyPost_ret (results_ct rfl _ _ (w.heap.size + 1 + 1) 25 #[.slice none 0 0, .string ⟨#[]⟩] (0, 0) _ rfl (blk_put (blk_put B2.out 0 _ rfl) 1 _ rfl) hu rfl (by kernel_rfl)) rfl ?_
   rw [hs'.out]
   exact ⟨none, 0, rfl, Nat.le_refl _, C_nilS, Ab.none, below_set (below_set HB.out (by omega)) (by omega)⟩
instance : Ctr 15 (type_of% @Substitute_ok) := ⟨@Substitute_ok, _, Tryz.func15, by kernel_rfl, rfl⟩
set_option linter.unusedVariables false
set_option linter.unusedSimpArgs false
open Go.RowKit Go.Proofs.WWords Go.Proofs.WLast Go.Proofs.WMore
instance : Ctr 110 (type_of% @strings_TrimPrefix.calls) := ⟨@strings_TrimPrefix.calls, _, Tryz.func110, by kernel_rfl, rfl⟩
instance : Ctr 135 (type_of% @strconv_Itoa.calls) := ⟨@strconv_Itoa.calls, _, Tryz.func135, by kernel_rfl, rfl⟩
theorem bIOf.calls (n : Int) (r : ByteArray) (w : World) (hL : LaidW w) (h : bIOf.f n = some r) :
  Calls Tryz.prog 99 #[.int .i64 n] w fun e w' => e = .returned (.string r) ∧ Below w.heap.size w w' := by
 have HB := Z0.mk (Below.refl w.heap.size w)
 unfold bIOf.f at h
 obtain ⟨s, A1, h⟩ := bnd h
 cases h
 go_enter Tryz.func99, Tryz.ntmps99
 go_wp2_with (refine cG rfl ?_; intro w' hb; replace HB := fB HB hb; clear hb)
 go_ret
 exact ⟨rfl, HB.out⟩
theorem bIAbs.calls (a0 r1 : ByteArray) (r2 : Int) (w : World) (h : bIAbs.f a0 = some (r1, r2)) :
  Calls Tryz.prog 52 #[.string a0] w fun e w' => e = .returned (.tuple #[.string r1, .int .i64 r2]) ∧ Below w.heap.size w w' := by
 have HB := Z0.mk (Below.refl w.heap.size w)
 unfold bIAbs.f at h
 obtain ⟨e, A1, h⟩ := bnd h
 go_enter Tryz.func52, Tryz.ntmps52
 rcases je h with ⟨-, e0, e1, h⟩ | ⟨-, e0, e1, h⟩
 · obtain ⟨s, A2, h⟩ := bnd h
   cases h
   go_wp2_with (refine cG rfl ?_; intro w' hb; replace HB := fB HB hb; clear hb)
   go_ret2
   exact ⟨rfl, HB.out⟩
 · cases h
   go_wp2_with (refine cG rfl ?_; intro w' hb; replace HB := fB HB hb; clear hb)
   go_ret2
   exact ⟨rfl, HB.out⟩
theorem lcm_ok (m n : Int) (w : World) (hL : LaidW w) (hm : Sv.nd m ≤ 4096) (hn : Sv.nd n ≤ 4096) (s : ByteArray) (x : Int) (hs : (s, x) = lim ((Nat.lcm m.natAbs n.natAbs : Nat) : Int)) :
  Calls Tryz.prog 49 #[.string (Sv.txt m), .string (Sv.txt n)] w fun e w' => e = .returned (.tuple #[.string s, .int .i64 x]) ∧ Below w.heap.size w w' := by
 have HB := Z0.mk (Below.refl w.heap.size w)
 obtain ⟨kp, Ap⟩ := (bi_pair m n hm hn).as
 have l1 := len_of_nd hm
 have l2 := len_of_nd hn
 have z1 := mag_len0 m.natAbs
 have z2 := mag_len0 n.natAbs
 have hu := Tryz.underlying122
 go_enter Tryz.func49, Tryz.ntmps49
 go_upto_region 2 with (refine cX rfl ?_; rintro _ w1 ⟨X0, c0, X1, c1, rfl, C0, hc0, C1, hc1, hb⟩; refine ⟨_, rfl, ?_⟩; replace HB := fB HB hb; clear hb)
 refine al2 ?_
 intro W hb B0 B1
 replace HB := fB HB hb
 replace C0 := Kd.C_below C0 hb
 replace C1 := Kd.C_below C1 hb
 clear hb
 obtain ⟨p0, p1, -, -⟩ := b2 B0
 obtain ⟨q0, q1, -, -⟩ := b2 B1
 have hz : ∀ N : Nat, (s, x) = lim ((N : Nat) : Int) → N = 0 → s = ⟨#[48]⟩ ∧ x = 0 := fun N h e => by
  subst e
  unfold lim at h
  rw [if_pos (by rw [show ((0 : Nat) : Int) = 0 from rfl]; exact Nat.le_trans (nd_lt10 (by decide)) (by decide))] at h
  injection h with h1 h2
  exact ⟨h1.trans r0, h2⟩
 by_cases h0 : m.natAbs = 0
 · obtain ⟨rfl, rfl⟩ := hz _ hs (by rw [h0, Nat.lcm_zero_left])
   have h3 : mag m.natAbs = [] := by rw [h0, mag_zero]
   clear h0 hs hz z1 l1 Ap
   rw [h3] at p1
   go_wp2
   go_ret2
   exact ⟨rfl, HB.out⟩
 have e0 : (((mag m.natAbs).length : Int) == 0) = false := by rw [beq_eq_false_iff_ne]; omega
 have e1 : (mag m.natAbs = []) = False := eq_false (mag_ne (by omega))
 by_cases h1 : n.natAbs = 0
 · obtain ⟨rfl, rfl⟩ := hz _ hs (by rw [h1, Nat.lcm_zero_right])
   have h3 : mag n.natAbs = [] := by rw [h1, mag_zero]
   clear h1 hs hz z2 l2 Ap
   rw [h3] at q1
   go_wp2
   go_ret2
   exact ⟨rfl, HB.out⟩
 have e2 : (((mag n.natAbs).length : Int) == 0) = false := by rw [beq_eq_false_iff_ne]; omega
 have e3 : (mag n.natAbs = []) = False := eq_false (mag_ne (by omega))
 have g0 : 0 < Nat.gcd m.natAbs n.natAbs := Nat.gcd_pos_of_pos_left _ (by omega)
 have g1 := Nat.le_trans (mag_mono (Nat.gcd_le_left n.natAbs (show 0 < m.natAbs by omega))) l1
 have g2 := Nat.le_trans (mag_mono (Nat.div_le_self m.natAbs (Nat.gcd m.natAbs n.natAbs))) l1
 obtain ⟨k1, A1⟩ := (bi_common m.natAbs n.natAbs (by omega) (by omega)).as
 obtain ⟨k2, A2⟩ := (bi_divide m.natAbs _ g0 (by omega) (by omega)).as
 obtain ⟨k3, A3⟩ := (bi_times (m.natAbs / Nat.gcd m.natAbs n.natAbs) n.natAbs (by omega)).as
 have hp := mag_mul_len2 (m.natAbs / Nat.gcd m.natAbs n.natAbs) n.natAbs
 have A4 := Z0.mk (bi_written false (m.natAbs / Nat.gcd m.natAbs n.natAbs * n.natAbs) (by omega))
 rw [if_neg (by decide), show m.natAbs / Nat.gcd m.natAbs n.natAbs * n.natAbs = Nat.lcm m.natAbs n.natAbs by rw [Nat.lcm, Nat.div_mul_right_comm (Nat.gcd_dvd_left _ _)], ← hs] at A4
 rw [show m.natAbs / Nat.gcd m.natAbs n.natAbs * n.natAbs = Nat.lcm m.natAbs n.natAbs by rw [Nat.lcm, Nat.div_mul_right_comm (Nat.gcd_dvd_left _ _)]] at A3
 go_wp2
 have hd := (Below.refl W.heap.size W).drew
 replace B0 := Z0.mk (blk_drew B0.out)
 replace B1 := Z0.mk (blk_drew B1.out)
 replace HB := fB HB hd
 replace C0 := Kd.C_drew C0
 replace C1 := Kd.C_drew C1
 go_region_held3 (fun w' => w'.cell? ⟨w1.heap.size, 1, none⟩ = some (.slice X0 (mag m.natAbs).length c0) ∧ w'.cell? ⟨w1.heap.size + 1, 1, none⟩ = some (.slice X1 (mag n.natAbs).length c1))
  (exact ⟨(b2 B0).2.1, (b2 B1).2.1⟩)
  (first
  | (go_at_call 105; refine (comC k1 _ _ _ _ _ _ _ _ C0 hc0 C1 hc1 A1.out).mono ?_; rintro _ w2 ⟨X2, c2, rfl, C2, hc2, hb⟩; replace B0 := fk B0 hb; replace B1 := fk B1 hb; replace HB := fB HB hb; replace C0 := Kd.C_below C0 hb; replace C1 := Kd.C_below C1 hb)
  | (go_at_call 104; refine (divC k2 _ _ _ _ _ _ _ _ _ C0 hc0 C2 hc2 A2.out).mono ?_; rintro _ w3 ⟨X3, c3, X4, c4, rfl, C3, hc3, -, -, hb⟩; replace B0 := fk B0 hb; replace B1 := fk B1 hb; replace HB := fB HB hb; replace C1 := Kd.C_below C1 hb))
 clear p0 p1 q0 q1
 obtain ⟨q0, q1, -, -⟩ := b2 B1
 all_goals go_wp2_with (first
  | ((with_reducible refine gc_ 107 rfl ?_); refine cX rfl ?_; rintro _ w4 ⟨v4, rfl, ho, hb⟩; refine ⟨_, rfl, ?_⟩; obtain ⟨X5, c5, rfl, hc5, C5⟩ := Kd.R_reads ho; replace HB := fB HB hb; clear hb)
  | (refine cG rfl ?_; intro w' hb; replace HB := fB HB hb; clear hb))
 go_ret2
 exact ⟨rfl, HB.out⟩
set_option linter.unusedVariables false
set_option linter.unusedSimpArgs false
open Go.RowKit Go.Shelf Go.Proofs.WWords Go.Proofs.WLast Go.Proofs.WMore
noncomputable def lcmD (qs : List Rat) : Nat := qs.foldl (fun d q => Nat.lcm d q.den) 1
theorem lcmD_snoc (qs : List Rat) (q : Rat) : lcmD (qs ++ [q]) = Nat.lcm (lcmD qs) q.den := by unfold lcmD; rw [List.foldl_append]; rfl
theorem lcmD_pos (qs : List Rat) : 0 < lcmD qs := by
 have : ∀ (qs : List Rat) (d : Nat), 0 < d → 0 < qs.foldl (fun d q => Nat.lcm d q.den) d := by
  intro qs
  induction qs with
  | nil => intro d h; exact h
  | cons q qs ih => intro d h; exact ih _ (Nat.lcm_pos h q.den_pos)
 exact this qs 1 (by decide)
theorem take_succ_get {α : Type} (l : List α) (k : Nat) (h : k < l.length) : l.take (k + 1) = l.take k ++ [l[k]] := by
 rw [List.take_add_one, List.getElem?_eq_getElem h]; rfl
theorem lcmD_nd (qs : List Rat) (h : ∀ q ∈ qs, ndR q ≤ 100) (k : Nat) (hk : k ≤ qs.length) : Sv.nd (lcmD (qs.take k) : Int) ≤ 1 + 100 * k := by
 induction k with
 | zero => exact nd_lt10 (by show Int.natAbs ((1 : Nat) : Int) < 10; decide)
 | succ k ih =>
  have h1 := ih (by omega)
  rw [take_succ_get qs k (by omega), lcmD_snoc]
  have h2 := (ndR_nd qs[k]).2
  have h3 := h _ (List.getElem_mem (by omega : k < qs.length))
  have h4 : Sv.nd (Nat.lcm (lcmD (qs.take k)) qs[k].den : Int) ≤ Sv.nd ((lcmD (qs.take k) : Int) * (qs[k].den : Int)) := nd_mono (by
   rw [Int.natAbs_mul, Int.natAbs_natCast, Int.natAbs_natCast, Int.natAbs_natCast]
   exact Nat.le_of_dvd (Nat.mul_pos (lcmD_pos _) qs[k].den_pos) (Nat.lcm_dvd_mul _ _))
  have h5 := nd_mul (lcmD (qs.take k) : Int) (qs[k].den : Int)
  omega
section
variable {P : Program} {ops : Array Oper} {Q : Exit → Act → World → Prop} {md : Region.Mode} {S : World → Prop} {ds : List Nat}
theorem ev1 {oi : Oper} {fuel : Nat} {l : Array Bool} {a : Act} {w w1 : World} {v : Value} (i : Nat) (d : Tmp) (hrun : (execOp a.eval oi).run P w = .ok (.value v) w1) (hK : S w1 ∧ wpAnyLast P md ops Q S ds fuel (l.setIfInBounds i true) (a.put (some d) v) w1)
  (hi : ops[i]? = some oi := by rfl) (hr : readyB md ops l (l.setIfInBounds i true) i = true := by kernel_rfl) (hd : i ∉ ds := by decide) (hw : Region.wanted oi (yielded ops a.tmps) = true := by rfl) (hN : oi.dst = some d := by rfl) : wpAnyLast P md ops Q S ds (fuel + 1) l a w :=
 one_ _ hi hN hr hd fun K h => by
  rw [← hN]
  exact event_step hw hrun (by rw [hN]; exact h.out _ _ hK.1 fun _ => hK.2)
end
theorem wp_append1 {P : Program} {ops : Array Oper} {Q : Exit → Act → World → Prop} {rest : List Oper} {o : Oper} {a : Act} {W : World} {e : TypeId} (hg : o.guard = none) (s x : Operand) (t : TypeId) (hop : o.op = Op.call { callee := Callee.builtin Builtin.append, args := #[s, x], argTypes := #[t, t] })
  (ht : P.underlying t = some (.slice e)) (hi : (P.info? e).map (fun i => (i.zero, i.size, i.bytes)) = some (some (.string ⟨#[]⟩), 1, 16)) (A : Option Addr) (n g : Nat) (xs : List ByteArray) (p : ByteArray) (hs : a.eval s = .slice A n n) (hx : a.eval x = .slice (some ⟨g, 0, none⟩) 1 1)
  (hC : Kd.string.C W A n xs) (hp : W.cell? ⟨g, 0, none⟩ = some (.string p)) (hn : n ≤ 1000) (dt : Tmp) (K : ∀ v w', Kd.R Kd.string e w' W.heap.size (fun _ => True) v (xs ++ [p]) → W.grownBy w' none → wpList P ops Q rest (a.put (some dt) v) w') (hd : o.dst = some dt := by rfl) : wpList P ops Q (o :: rest) a W := by
 obtain ⟨i0, hi0, hzz⟩ := Option.map_eq_some_iff.1 hi
 simp only [Prod.mk.injEq] at hzz
 obtain ⟨hz0, hz1, hz2⟩ := hzz
 obtain ⟨h1, h2, h3⟩ := Kd.reads_of_C (enc := Value.string) (d := ByteArray.empty) (h1 := fun _ => rfl) hC
 refine wpList_append_grows W hg s x t hop e i0 (.string ⟨#[]⟩) 1 16 ht hi0 hz0 hz1 hz2 rfl (by decide) A n n (encs Value.string xs) hs ?_ (by rw [encs_length, h1, Nat.mul_one]) ?_ ⟨g, 0, none⟩ 1 1 [.string p] hx rfl ?_ ?_ (by omega) (by simp only [maxLen]; omega) (by omega) ?_
 · intro e'
   rcases Nat.eq_zero_or_pos n with h | h
   · exact ⟨h, h⟩
   · obtain ⟨ad, e2, -⟩ := h3 h
     rw [e'] at e2; cases e2
 · intro b e' j u hj
   have hj' : j < n := by
    have := (List.getElem?_eq_some_iff.1 hj).1
    rw [encs_length] at this; omega
   obtain ⟨ad, e2, hc⟩ := h3 (by omega)
   rw [e'] at e2
   cases e2
   rw [hc j hj', ← hj]
   have hjx : j < xs.length := by omega
   unfold encs
   rw [List.getElem?_map, List.getElem?_eq_getElem hjx, List.getD_eq_getElem?_getD, List.getElem?_eq_getElem hjx]
   rfl
 · intro j u hj
   match j, hj with
   | 0, h => injection h with h; subst h; exact hp
   | j + 1, h => simp at h
 · intro u hu
   rw [List.mem_singleton.1 hu]; rfl
 · intro v w' ho hgr
   rw [hd]
   refine K v w' (Kd.R_of_own ?_ (fun _ _ => trivial)) hgr
   rw [encs_append, List.length_append, h1]
   exact ho
theorem denominator_ok (A : Option Addr) (n c : Nat) (qs : List Rat) (q : Rat) (w : World) (hL : LaidW w) (hC : Z0 (Kd.string.C w A n (qs.map Sv.rtxt))) (hn : n = qs.length) (hm : n ≤ 32) (hc : n ≤ c) (hq : ∀ p ∈ qs ++ [q], ndR p ≤ 100) :
  Calls Tryz.prog 75 #[.agg #[.slice A n c, .string (Sv.rtxt q)]] w fun e w' => e = .returned (.tuple #[.string (Sv.txt (lcmD (qs ++ [q]))), .int .i64 0]) ∧ Below w.heap.size w w' := by
 have HB := Z0.mk (Below.refl w.heap.size w)
 have hu := Tryz.underlying25
 have hCw := hC
 have hcc := eq_true hc
 obtain ⟨L, hLl⟩ : ∃ L, Z0 (qs ++ [q] = L) := ⟨_, ⟨rfl⟩⟩
 rw [hLl.out]
 rw [hLl.out] at hq
 replace hn := Z0.mk hn
 go_enter Tryz.func75, Tryz.ntmps75
 go_upto_region 1 with (fail)
 refine al1 ?_
 intro W hb B0
 replace HB := fB HB hb
 obtain ⟨p0, p1, -, -⟩ := b2 B0
 clear hb
 go_wp2
 refine start_ (n := 15) (S := fun w' => w'.cell? ⟨w.heap.size, 0, none⟩ = some (.slice A n c) ∧ w'.cell? ⟨w.heap.size, 1, none⟩ = some (.string (Sv.rtxt q))) (ds := []) _ (by kernel_rfl) rfl rfl ⟨p0, p1⟩ (fun hHeld => ?_)
 refine tp 0 9 ?_
 refine tk 1 10 (by exact hHeld) ?_
 refine tp 2 11 ?_
 refine tk 3 12 (by exact hHeld) ?_
 refine tp 4 13 ?_
 refine tp 5 14 ?_
 refine tk 6 15 (by exact hHeld) ?_
 refine tp 7 16 ?_
 refine tp 8 17 ?_
 refine tp 9 18 ?_
 refine tk 10 19 (by exact hHeld) ?_
 refine tp 14 23 ?_
 clear hHeld
 refine ev1 11 20 (v := .slice (some ⟨W.heap.size, 0, none⟩) 1 1) (w1 := W.drew.alloc (.cells #[.string (Sv.rtxt q)] 23)) ?hr ?_
 case hr => go_simp; try rfl
 have hbd := below_alloc (Below.refl W.heap.size W).drew (.cells #[.string (Sv.rtxt q)] 23)
 replace B0 := Z0.mk (blk_below B0.out hbd)
 have BN := Z0.mk (blk_new W.drew (.cells #[.string (Sv.rtxt q)] 23))
 replace HB := Z0.mk (below_step HB.out hbd)
 generalize hWz : W.heap.size = z0 at *
 generalize W.drew.alloc (.cells #[.string (Sv.rtxt q)] 23) = W1 at *
 clear p0 p1
 obtain ⟨p0, p1, -, -⟩ := b2 B0
 refine ⟨⟨p0, p1⟩, ?_⟩
 simp only [Act.put, List.setIfInBounds_toArray, List.set_cons_zero, List.set_cons_succ]
 have BN' : W1.heap[z0]? = some (.cells #[.string (Sv.rtxt q)] 23 (0, 0)) := by rw [← hWz]; exact BN.out
 refine lst 12 ?_
 refine wp_append1 rfl (.tmp 17) (.tmp 20) 22 rfl Tryz.underlying22 infoRat A n z0 (qs.map Sv.rtxt) (Sv.rtxt q) rfl rfl (Kd.C_below hCw.out HB.out) (c1' BN') (by omega) 21 ?_
 intro v W2 HO hgr
 have hb2 : Below W1.heap.size W1 W2 := (Below.refl W1.heap.size W1).grown hgr (Nat.le_refl _) (fun _ h => by cases h)
 replace HB := Z0.mk (below_step HB.out hb2)
 replace B0 := Z0.mk (blk_below B0.out hb2)
 clear p0 p1 hgr BN BN' hbd hWz
 obtain ⟨p0, p1, -, -⟩ := b2 B0
 refine wpList_nil ?_
 refine ⟨fun _ => ⟨p0, p1⟩, ?_⟩
 have hlen : L.length = n + 1 := by rw [← hLl.out, List.length_append, hn.out]; rfl
 rw [show qs.map Sv.rtxt ++ [Sv.rtxt q] = L.map Sv.rtxt by rw [← hLl.out, List.map_append]; rfl] at HO
 obtain ⟨X, d, rfl, HO2⟩ := R_cut (m := n + 1) ⟨HO⟩ (by rw [List.length_map]; exact hlen)
 clear HO
 replace hlen := Z0.mk hlen
 simp only [Act.put, List.setIfInBounds_toArray, List.set_cons_zero, List.set_cons_succ]
 refine tp 13 22 ?_
 refine done_ (by kernel_rfl) ?_
 clear p0 p1 B0 hb2 hLl hCw hC hcc
 go_wp2
 go_loopw [4, 23] (fun v i wr => ∃ j : Nat, j ≤ n + 1 ∧ v = .string (Sv.txt (lcmD (L.take j) : Int)) ∧ i = .int .i64 j ∧ Z0 (Kd.string.C wr X (n + 1) (L.map Sv.rtxt)) ∧ Z0 (Below w.heap.size w wr))
  (fun _ i _ => n + 1 - (Go.RowKit.intOf i).toNat)
 case atStart => exact ⟨0, by omega, by rw [List.take_zero]; exact congrArg Value.string txt1.symm, rfl, ⟨by have := (Kd.R_reads' HO2.out).2.2; rwa [List.length_map, hlen.out] at this⟩, HB⟩
 clear HO2 HB
 obtain ⟨j, hj, rfl, rfl, HC, HB⟩ := hrel
 rcases Nat.lt_or_ge j (n + 1) with h4 | h4
 · obtain ⟨ad, rfl, hxx, x1, x2⟩ := asI HC.out (j : Int) (by omega) (by omega)
   rw [Int.toNat_natCast] at hxx
   have hjl : j < L.length := by rw [hlen.out]; exact h4
   obtain ⟨p, hp⟩ : ∃ p, L[j] = p := ⟨_, rfl⟩
   have hs : rdOf ByteArray.empty (L.map Sv.rtxt) (j : Int) = Sv.rtxt p := by rw [← hp]; simp [rdOf, hjl]
   rw [hs] at hxx
   clear hs
   have c4 : decide ((j : Int) < n + 1) = true := decide_eq_true (by omega)
   have hpd : ndR p ≤ 100 := hq p (by rw [← hp]; exact List.getElem_mem _)
   obtain ⟨kd, Ad⟩ := (denE p (by omega)).as
   have hd1 := lcmD_nd L hq j (by omega)
   have hd2 := lcmD_nd L hq (j + 1) (by omega)
   have hd3 := (ndR_nd p).2
   have hsn : lcmD (L.take (j + 1)) = Nat.lcm (lcmD (L.take j)) p.den := by rw [take_succ_get L j hjl, lcmD_snoc, hp]
   rw [hsn] at hd2
   have hlc : (Sv.txt ((Nat.lcm (lcmD (L.take j)) p.den : Nat) : Int), (0 : Int)) = lim ((Nat.lcm (lcmD (L.take j) : Int).natAbs (p.den : Int).natAbs : Nat) : Int) := by
    rw [Int.natAbs_natCast, Int.natAbs_natCast]
    exact (lim_small (by omega)).symm
   generalize hD : lcmD (L.take j) = D at *
   go_wp2_with (first
    | ((with_reducible refine gc_ 49 rfl ?_); refine gL 37 Tryz.func49 (lcm_ok D p.den _ (hL.below HB.out) (by omega) (by omega) _ _ hlc) ?_; rintro _ w6 ⟨rfl, hb⟩; refine ⟨_, rfl, ?_⟩; replace HB := Z0.mk (below_step HB.out hb); replace HC := Z0.mk (Kd.C_below HC.out hb); clear hb)
    | (refine cG rfl ?_; intro w' hb; replace HB := Z0.mk (below_step HB.out hb); replace HC := Z0.mk (Kd.C_below HC.out hb); clear hb hxx))
   exact ⟨⟨j + 1, by omega, by rw [hsn], by simp, HC, HB⟩, by simp [Go.RowKit.intOf]; omega⟩
 obtain rfl : j = n + 1 := by omega
 rw [List.take_of_length_le (by rw [hlen.out]; omega)]
 go_wp2
 go_ret2
 exact ⟨rfl, HB.out⟩
instance : Ctr 75 (type_of% @denominator_ok) := ⟨@denominator_ok, _, Tryz.func75, by kernel_rfl, rfl⟩
theorem mappedI_ok (F : FuncId) (caps : Array Value) (A : Option Addr) (n c : Nat) (l : List ByteArray) (G : Nat → ByteArray) (E : Nat → Int) (x : Int) (w : World)
  (hf : HasF F) (hn : n = l.length) (hn' : n ≤ 1000) (hC : Z0 (Kd.string.C w A n l))
  (hF : ∀ k (h : k < l.length) W, Below w.heap.size w W → Calls Tryz.prog F (#[.string l[k]] ++ caps) W fun e W' => e = .returned (.tuple #[.string (G k), .int .i64 (E k)]) ∧ Below W.heap.size W W')
  (hx : Z0 ((x = 0 ∧ ∀ k < n, E k = 0) ∨ (x ≠ 0 ∧ ∃ k < n, E k = x ∧ ∀ k' < n, E k' = 0 ∨ E k' = x))) :
  Calls Tryz.prog 80 #[.slice A n c, .func (.func F) #[] caps] w fun e w' => ∃ X m d, e = .returned (.tuple #[.slice X m d, .int .i64 x]) ∧ (x = 0 → m = n ∧ n ≤ d ∧ Kd.string.C w' X n ((List.range n).map G)) ∧ Ab w.heap.size X ∧ Below w.heap.size w w' := by
 subst hn
 have ht := Tryz.underlying44
 go_enter Tryz.func80, Tryz.ntmps80
 go_wp2
 go_loopw [6, 13] (fun v i wr => ∃ j : Nat, j ≤ l.length ∧ i = .int .i64 j ∧ (∀ k < j, E k = 0) ∧ Z0 (Kd.R Kd.string 45 wr w.heap.size (fun _ => True) v ((List.range j).map G)) ∧ Z0 (Below w.heap.size w wr))
  (fun _ i _ => l.length - (Go.RowKit.intOf i).toNat)
 case atStart => exact ⟨0, by omega, rfl, fun k h => absurd h (by omega), ⟨Kd.R_nil _ _ _ _ _⟩, ⟨Below.refl _ _⟩⟩
 obtain ⟨j, hj, rfl, hz, HO, HB⟩ := hrel
 rcases Nat.lt_or_ge j l.length with h4 | h4
 · obtain ⟨ad, rfl, hxx, p, q⟩ := asI (Kd.C_below hC.out HB.out) (j : Int) (by omega) (by omega)
   rw [Int.toNat_natCast] at hxx
   have hs : rdOf ByteArray.empty l (j : Int) = l[j] := by simp [rdOf, h4]
   rw [hs] at hxx
   clear hs
   have c4 : decide ((j : Int) < l.length) = true := decide_eq_true (by omega)
   obtain ⟨y, hy⟩ : ∃ y, E j = y := ⟨_, rfl⟩
   have hFj := hF j h4
   rw [hy] at hFj
   by_cases h5 : y = 0
   · subst h5
     go_wp2_with (first
      | ((with_reducible refine gv_ 18 rfl ?_); refine cV rfl hf (hFj _ HB.out) ?_; rintro _ w2 ⟨rfl, hb2⟩; refine ⟨_, rfl, ?_⟩; have hs2 := below_size HB.out; replace HO := Z0.mk (Kd.R_below HO.out hb2); replace HB := Z0.mk (below_step HB.out hb2); clear hb2)
      | ((with_reducible refine gate_builtin (b := .append) rfl ?_); refine apL (G j) HO (below_size HB.out) (by simp; omega) rfl ht infoInt ?_; intro v1 w1 HO1 hb hg; replace HO := HO1; replace HB := Z0.mk (HB.out.trans hb); clear HO1 hb hg))
     refine ⟨⟨j + 1, by omega, by simp, fun k hk => ?_, ⟨by rw [range_snoc]; exact HO.out⟩, HB⟩, by simp [Go.RowKit.intOf]; omega⟩
     rcases Nat.lt_or_ge k j with h | h
     · exact hz k h
     · obtain rfl : k = j := by omega
       exact hy
   · have hyx : y = x := by
      rcases hx.out with ⟨-, h⟩ | ⟨-, k, -, -, h⟩
      · exact absurd (hy.symm.trans (h j h4)) h5
      · rcases h j h4 with h | h
        · exact absurd (hy.symm.trans h) h5
        · exact hy.symm.trans h
     subst hyx
     have c5 : (y != 0) = true := bne_iff_ne.mpr h5
     clear hy
     go_wp2_with ((with_reducible refine gv_ 18 rfl ?_); refine cV rfl hf (hFj _ HB.out) ?_; rintro _ w2 ⟨rfl, hb2⟩; refine ⟨_, rfl, ?_⟩; replace HB := Z0.mk (below_step HB.out hb2); clear hb2 hFj)
     go_ret2
     exact ⟨none, 0, 0, rfl, fun h => absurd h h5, Ab.none, HB.out⟩
 obtain rfl : j = l.length := by omega
 obtain rfl : x = 0 := by
  rcases hx.out with ⟨h, -⟩ | ⟨h0, k, hk, h1, -⟩
  · exact h
  · exact absurd (h1.symm.trans (hz k hk)) h0
 obtain ⟨X, d, rfl⟩ := Kd.R_slice HO.out
 rw [List.length_map, List.length_range] at HO
 go_wp2
 go_ret2
 have C := Kd.R_reads' HO.out
 exact ⟨X, l.length, d, by simp, ⟨rfl, C.2.1, by simpa using C.2.2⟩, Ab.of_R HO.out, HB.out⟩
theorem whole_ok (gc : Nat) (p r : Rat) (m x : Int) (W : World) (hL : LaidW W) (hg : Z0 (W.heap[gc]? = some (.cells #[.string (Sv.rtxt r)] 23 (0, 0)))) (h : ndR p + ndR r + 1 ≤ 4096) (hm : Z0 ((p * r).num = m)) (hx : Z0 ((if Sv.nd m ≤ 100 then 0 else 10) = x)) :
  Calls Tryz.prog 77 #[.string (Sv.rtxt p), .pointer (some ⟨gc, 0, none⟩)] W fun e W' => e = .returned (.tuple #[.string (Sv.txt m), .int .i64 x]) ∧ Below W.heap.size W W' := by
 have HB := Z0.mk (Below.refl W.heap.size W)
 obtain ⟨k, A⟩ := (mulE p r h).as
 have h1 := ndR_mul p r
 obtain ⟨k2, A2⟩ := (numE (p * r) (by omega)).as
 have h2 := (ndR_nd (p * r)).1
 rw [hm.out] at A2 h2
 have p0 : W.cell? ⟨gc, 0, none⟩ = some (.string (Sv.rtxt r)) := (blk_cell hg.out 0).trans rfl
 have hs : Sv.nd m ≤ 100000 := by omega
 go_enter Tryz.func77, Tryz.ntmps77
 go_wp2_with (refine cG rfl ?_; intro w' hb; replace HB := fB HB hb; clear hb)
 go_ret2
 exact ⟨rfl, HB.out⟩
theorem ndR_intL (n : Int) : ndR (n : Rat) ≤ Sv.nd n := by
 have h := Sv.nd_pos n
 have h2 : Sv.nd ((1 : Nat) : Int) ≤ 1 := nd_lt10 (by decide)
 unfold ndR
 rw [Rat.num_intCast, Rat.den_intCast]
 omega
open Classical in
noncomputable def intS (l : List ByteArray) (s : ByteArray) : List ByteArray × ByteArray × ByteArray × Int :=
 if chkL l s = 0 then (if ∀ m ∈ ((l.map rv).map fun p => (p * ((lcmD (l.map rv ++ [rv s]) : Nat) : Rat)).num) ++ [(rv s * ((lcmD (l.map rv ++ [rv s]) : Nat) : Rat)).num, (lcmD (l.map rv ++ [rv s]) : Int)], Sv.nd m ≤ 100 then ((l.map rv).map fun p => Sv.txt (p * ((lcmD (l.map rv ++ [rv s]) : Nat) : Rat)).num, Sv.txt (rv s * ((lcmD (l.map rv ++ [rv s]) : Nat) : Rat)).num, Sv.txt (lcmD (l.map rv ++ [rv s]) : Int), 0) else ([], ⟨#[]⟩, ⟨#[]⟩, 10)) else ([], ⟨#[]⟩, ⟨#[]⟩, chkL l s)
def IntR (w : World) (r : List ByteArray × ByteArray × ByteArray × Int) (e : Ending) (w' : World) : Prop := ∃ X d, e = .returned (.tuple #[.slice X r.1.length d, .string r.2.1, .string r.2.2.1, .int .i64 r.2.2.2]) ∧ r.1.length ≤ d ∧ Kd.string.C w' X r.1.length r.1 ∧ Below w.heap.size w w'
theorem Integral_ok (A : Option Addr) (n c : Nat) (l : List ByteArray) (s : ByteArray) (w : World) (hL : LaidW w) (hC : Z0 (Kd.string.C w A n l)) (hn : n = l.length) (hm : n ≤ 1000) (hc : n ≤ c) (hO : ∀ s ∈ l, Okt s) (hOs : Okt s) :
  Calls Tryz.prog 23 #[.agg #[.slice A n c, .string s]] w (IntR w (intS l s)) := by
 have HB := Z0.mk (Below.refl w.heap.size w)
 have hCw := hC
 replace hn := Z0.mk hn
 obtain ⟨y, hy⟩ : ∃ x, Z0 (chkL l s = x) := ⟨_, ⟨rfl⟩⟩
 go_enter Tryz.func23, Tryz.ntmps23
 go_upto_region 1 with (fail)
 refine al1 ?_
 intro W hb B0
 replace HB := fB HB hb
 obtain ⟨p0, p1, -, -⟩ := b2 B0
 replace hC := Z0.mk (Kd.C_below hC.out hb)
 clear hb
 by_cases h0 : y = 0
 · subst h0
   obtain ⟨a1, qs, q, rfl, rfl, a2, a3⟩ := of_chkL hy.out
   obtain ⟨D, hD⟩ : ∃ D, lcmD (qs ++ [q]) = D := ⟨_, rfl⟩
   have hq : ∀ p ∈ qs ++ [q], ndR p ≤ 100 := fun p hp => by
    rcases List.mem_append.1 hp with hp | hp
    · exact a2 p hp
    · rw [List.mem_singleton.1 hp]; exact a3
   have hnq : Z0 (n = qs.length) := ⟨by rw [hn.out, List.length_map]⟩
   have hm2 : n ≤ 32 := by rw [List.length_map] at a1; have := hnq.out; omega
   have hDd : Sv.nd (D : Int) ≤ 3400 := by
    have := lcmD_nd (qs ++ [q]) hq (qs.length + 1) (by simp)
    rw [List.take_of_length_le (by simp), hD] at this
    have := hnq.out
    omega
   have hD0 : 0 < D := by rw [← hD]; exact lcmD_pos _
   have hDn := Z0.mk (denominator_ok A n c qs q)
   rw [hD] at hDn
   obtain ⟨ko, Ao⟩ := (rat_Of (D : Int) 1 (by decide) (by omega) (by have := nd_lt10 (n := 1) (by decide); omega)).as
   rw [show Rat.divInt (D : Int) 1 = ((D : Nat) : Rat) from (by rw [show (1 : Int) = ((1 : Nat) : Int) from rfl, Rat.divInt_ofNat, Rat.mkRat_one]; rfl), txt1] at Ao
   have hrd : ndR ((D : Nat) : Rat) ≤ 3400 := Nat.le_trans (ndR_intL (D : Int)) hDd
   generalize hr : ((D : Nat) : Rat) = r at *
   go_upto_region 8 with (first
    | ((with_reducible refine gc_ 75 rfl ?_); refine gL 20 Tryz.func75 (hDn.out _ (hL.below HB.out) hC hnq.out hm2 hc hq) ?_; rintro _ w3 ⟨rfl, hb⟩; refine ⟨_, rfl, ?_⟩; replace B0 := Z0.mk (blk_below B0.out hb); replace HB := Z0.mk (below_step HB.out hb); clear hb p0 p1; obtain ⟨p0, p1, -, -⟩ := b2 B0)
    | ((with_reducible refine gc_ 76 rfl ?_); refine gL 27 Tryz.func76 (rAOf.calls ko _ _ _ _ _ (hL.below HB.out) Ao.out) ?_; rintro _ w4 ⟨rfl, hb⟩; refine ⟨_, rfl, ?_⟩; replace B0 := Z0.mk (blk_below B0.out hb); replace HB := Z0.mk (below_step HB.out hb); clear hb p0 p1; obtain ⟨p0, p1, -, -⟩ := b2 B0)
    | (refine cG rfl ?_; intro w' hb; replace B0 := Z0.mk (blk_below B0.out hb); replace HB := Z0.mk (below_step HB.out hb); replace hC := Z0.mk (Kd.C_below hC.out hb); clear hb p0 p1; obtain ⟨p0, p1, -, -⟩ := b2 B0))
   refine al1 ?_
   intro W5 hb B9
   replace B0 := Z0.mk (blk_below B0.out hb)
   replace HB := Z0.mk (below_step HB.out hb)
   replace hC := Z0.mk (Kd.C_below hCw.out HB.out)
   clear hb p0 p1 hDn Ao
   obtain ⟨p0, p1, -, -⟩ := b2 B0
   have he : intS (qs.map Sv.rtxt) (Sv.rtxt q) = if ∀ m ∈ (qs.map fun p => (p * r).num) ++ [(q * r).num, (D : Int)], Sv.nd m ≤ 100 then (qs.map fun p => Sv.txt (p * r).num, Sv.txt (q * r).num, Sv.txt (D : Int), 0) else ([], ⟨#[]⟩, ⟨#[]⟩, 10) := by
    unfold intS
    rw [hy.out, if_pos rfl, rv_map, rv_rtxt, hD, hr]
   replace he := Z0.mk he
   obtain ⟨E, hE⟩ : ∃ E : Nat → Int, E = fun k => if Sv.nd (qs.getD k 0 * r).num ≤ 100 then 0 else 10 := ⟨_, rfl⟩
   obtain ⟨G, hG⟩ : ∃ G : Nat → ByteArray, G = fun k => Sv.txt (qs.getD k 0 * r).num := ⟨_, rfl⟩
   have hE2 : ∀ k, E k = 0 ∨ E k = 10 := fun k => by
    rw [hE]
    show (if _ then _ else _) = _ ∨ (if _ then _ else _) = _
    split
    · exact .inl rfl
    · exact .inr rfl
   have hF : ∀ k (h : k < (qs.map Sv.rtxt).length) W, Below W5.heap.size W5 W → Calls Tryz.prog 77 (#[.string (qs.map Sv.rtxt)[k]] ++ #[.pointer (some ⟨w4.heap.size, 0, none⟩)]) W fun e W' => e = .returned (.tuple #[.string (G k), .int .i64 (E k)]) ∧ Below W.heap.size W W' := fun k h W hW => by
    have hk : k < qs.length := by simpa using h
    have e1 : qs.getD k 0 = qs[k] := by rw [List.getD_eq_getElem?_getD, List.getElem?_eq_getElem hk]; rfl
    have h3 := a2 qs[k] (List.getElem_mem _)
    have := whole_ok w4.heap.size qs[k] r _ _ W (hL.below (below_step HB.out hW)) ⟨blk_below B9.out hW⟩ (by omega) ⟨rfl⟩ ⟨rfl⟩
    rw [hG, hE]
    simp only [e1]
    rw [List.getElem_map]
    exact this
   have hW : ∀ W, Below W5.heap.size W5 W → Calls Tryz.prog 77 (#[.string (Sv.rtxt q)] ++ #[.pointer (some ⟨w4.heap.size, 0, none⟩)]) W fun e W' => e = .returned (.tuple #[.string (Sv.txt (q * r).num), .int .i64 (if Sv.nd (q * r).num ≤ 100 then 0 else 10)]) ∧ Below W.heap.size W W' := fun W hW => whole_ok w4.heap.size q r _ _ W (hL.below (below_step HB.out hW)) ⟨blk_below B9.out hW⟩ (by omega) ⟨rfl⟩ ⟨rfl⟩
   have hfI : HasF 77 := ⟨_, Tryz.func77, by kernel_rfl, rfl⟩
   replace hF := Z0.mk hF
   replace hW := Z0.mk hW
   have hB5 := Z0.mk (Below.refl W5.heap.size W5)
   obtain ⟨z, hz⟩ : ∃ z : Int, Z0 ((if Sv.nd (D : Int) ≤ 100 then 0 else 10) = z) := ⟨_, ⟨rfl⟩⟩
   obtain ⟨x2, hx2⟩ : ∃ x : Int, (if Sv.nd (q * r).num ≤ 100 then 0 else 10) = x := ⟨_, rfl⟩
   rw [hx2] at hW
   replace hx2 := Z0.mk hx2
   by_cases h1 : ∀ k < n, E k = 0
   · have M := Z0.mk (mappedI_ok 77 _ A n c _ G E 0 W5 hfI hn.out hm hC hF.out ⟨.inl ⟨rfl, h1⟩⟩)
     by_cases h2 : x2 = 0
     · subst h2
       by_cases h3 : z = 0
       · subst h3
         go_wp2_with (first
             | ((with_reducible refine gc_ 80 rfl ?_); refine gL 37 Tryz.func80 M.out ?_; rintro _ w6 ⟨X, m, d, rfl, hX, hA, hb⟩; refine ⟨_, rfl, ?_⟩; replace hX := Z0.mk hX; replace hA := Z0.mk hA; replace B0 := Z0.mk (blk_below B0.out hb); replace HB := Z0.mk (below_step HB.out hb); replace hB5 := Z0.mk (below_step hB5.out hb); clear hb p0 p1; obtain ⟨p0, p1, -, -⟩ := b2 B0)
             | ((with_reducible refine gv_ 43 rfl ?_); refine cV rfl hfI (hW.out _ hB5.out) ?_; rintro _ w7 ⟨rfl, hb⟩; refine ⟨_, rfl, ?_⟩; have hb7 := Z0.mk hb; replace B0 := Z0.mk (blk_below B0.out hb); replace HB := Z0.mk (below_step HB.out hb); clear hb p0 p1; obtain ⟨p0, p1, -, -⟩ := b2 B0)
             | (go_at_call 79; refine (short_ok (D : Int) _ _ (by omega) hz).mono ?_; rintro _ w8 ⟨rfl, hb⟩; have hb8 := Z0.mk hb; replace B0 := Z0.mk (blk_below B0.out hb); replace HB := Z0.mk (below_step HB.out hb); clear hb p0 p1; obtain ⟨p0, p1, -, -⟩ := b2 B0))
         have hyes : ∀ m ∈ (qs.map fun p => (p * r).num) ++ [(q * r).num, (D : Int)], Sv.nd m ≤ 100 := fun m hm => by
          rcases List.mem_append.1 hm with hm | hm
          · obtain ⟨p, hp, rfl⟩ := List.mem_map.1 hm
            obtain ⟨k, hk, rfl⟩ := List.getElem_of_mem hp
            have h := h1 k (by rw [hnq.out]; exact hk)
            rw [hE] at h
            have h : (if Sv.nd (qs.getD k 0 * r).num ≤ 100 then (0 : Int) else 10) = 0 := h
            rw [List.getD_eq_getElem?_getD, List.getElem?_eq_getElem hk] at h
            exact Classical.byContradiction fun h' => absurd h (by show ¬ (if Sv.nd (qs[k] * r).num ≤ 100 then (0 : Int) else 10) = 0; rw [if_neg h']; decide)
          · rcases List.mem_cons.1 hm with rfl | hm
            · exact Classical.byContradiction fun h' => absurd hx2.out (by rw [if_neg h']; decide)
            · rw [List.mem_singleton.1 hm]
              exact Classical.byContradiction fun h' => absurd hz.out (by rw [if_neg h']; decide)
         obtain ⟨rfl, hXd, hXC⟩ := hX.out trivial
         refine bodyPost_ret (results_list (rs := [.tmp 2, .tmp 3, .tmp 4, .tmp 5]) rfl (by simp) (.tmp (.tmp (.tmp (.tmp .nil))))) rfl ?_
         rw [he.out, if_pos hyes]
         have hmr : (List.range m).map G = qs.map fun p => Sv.txt (p * r).num := by rw [hnq.out, hG]; exact map_range qs fun p => Sv.txt (p * r).num
         rw [hmr] at hXC
         have hml : (qs.map fun p => Sv.txt (p * r).num).length = m := by rw [List.length_map]; exact hnq.out.symm
         refine ⟨X, d, ?_, ?_, ?_, HB.out⟩
         · simp only [hml]; rfl
         · simp only [hml]; exact hXd
         · simp only [hml]; exact Kd.C_below (Kd.C_below hXC hb7.out) hb8.out
       · have hno : ¬ ∀ m ∈ (qs.map fun p => (p * r).num) ++ [(q * r).num, (D : Int)], Sv.nd m ≤ 100 := fun h => h3 (by rw [← hz.out, if_pos (h _ (by simp))])
         have h3' : (z != 0) = true := bne_iff_ne.mpr h3
         go_wp2_with (first
             | ((with_reducible refine gc_ 80 rfl ?_); refine gL 37 Tryz.func80 M.out ?_; rintro _ w6 ⟨X, m, d, rfl, hX, hA, hb⟩; refine ⟨_, rfl, ?_⟩; replace hX := Z0.mk hX; replace hA := Z0.mk hA; replace B0 := Z0.mk (blk_below B0.out hb); replace HB := Z0.mk (below_step HB.out hb); replace hB5 := Z0.mk (below_step hB5.out hb); clear hb p0 p1; obtain ⟨p0, p1, -, -⟩ := b2 B0)
             | ((with_reducible refine gv_ 43 rfl ?_); refine cV rfl hfI (hW.out _ hB5.out) ?_; rintro _ w7 ⟨rfl, hb⟩; refine ⟨_, rfl, ?_⟩; have hb7 := Z0.mk hb; replace B0 := Z0.mk (blk_below B0.out hb); replace HB := Z0.mk (below_step HB.out hb); clear hb p0 p1; obtain ⟨p0, p1, -, -⟩ := b2 B0)
             | (go_at_call 79; refine (short_ok (D : Int) _ _ (by omega) hz).mono ?_; rintro _ w8 ⟨rfl, hb⟩; have hb8 := Z0.mk hb; replace B0 := Z0.mk (blk_below B0.out hb); replace HB := Z0.mk (below_step HB.out hb); clear hb p0 p1; obtain ⟨p0, p1, -, -⟩ := b2 B0))
         refine bodyPost_ret (results_list (rs := [.tmp 2, .tmp 3, .tmp 4, .tmp 5]) rfl (by simp) (.tmp (.tmp (.tmp (.tmp .nil))))) rfl ?_
         rw [he.out, if_neg hno]
         exact ⟨none, 0, rfl, Nat.le_refl _, C_nilS, HB.out⟩
     · have hno : ¬ ∀ m ∈ (qs.map fun p => (p * r).num) ++ [(q * r).num, (D : Int)], Sv.nd m ≤ 100 := fun h => h2 (by rw [← hx2.out, if_pos (h _ (by simp))])
       have h2' : (x2 != 0) = true := bne_iff_ne.mpr h2
       go_wp2_with (first
           | ((with_reducible refine gc_ 80 rfl ?_); refine gL 37 Tryz.func80 M.out ?_; rintro _ w6 ⟨X, m, d, rfl, hX, hA, hb⟩; refine ⟨_, rfl, ?_⟩; replace hX := Z0.mk hX; replace hA := Z0.mk hA; replace B0 := Z0.mk (blk_below B0.out hb); replace HB := Z0.mk (below_step HB.out hb); replace hB5 := Z0.mk (below_step hB5.out hb); clear hb p0 p1; obtain ⟨p0, p1, -, -⟩ := b2 B0)
           | ((with_reducible refine gv_ 43 rfl ?_); refine cV rfl hfI (hW.out _ hB5.out) ?_; rintro _ w7 ⟨rfl, hb⟩; refine ⟨_, rfl, ?_⟩; have hb7 := Z0.mk hb; replace B0 := Z0.mk (blk_below B0.out hb); replace HB := Z0.mk (below_step HB.out hb); clear hb p0 p1; obtain ⟨p0, p1, -, -⟩ := b2 B0)
           | (go_at_call 79; refine (short_ok (D : Int) _ _ (by omega) hz).mono ?_; rintro _ w8 ⟨rfl, hb⟩; have hb8 := Z0.mk hb; replace B0 := Z0.mk (blk_below B0.out hb); replace HB := Z0.mk (below_step HB.out hb); clear hb p0 p1; obtain ⟨p0, p1, -, -⟩ := b2 B0))
       refine bodyPost_ret (results_list (rs := [.tmp 2, .tmp 3, .tmp 4, .tmp 5]) rfl (by simp) (.tmp (.tmp (.tmp (.tmp .nil))))) rfl ?_
       rw [he.out, if_neg hno]
       exact ⟨none, 0, rfl, Nat.le_refl _, C_nilS, HB.out⟩
   · obtain ⟨k, hk, h1'⟩ : ∃ k, k < n ∧ E k ≠ 0 := by
      rcases Classical.em (∃ k, k < n ∧ E k ≠ 0) with h | h
      · exact h
      · exact absurd (fun k hk => Classical.byContradiction fun h' => h ⟨k, hk, h'⟩) h1
     have hk2 : k < qs.length := by have := hnq.out; omega
     have hno : ¬ ∀ m ∈ (qs.map fun p => (p * r).num) ++ [(q * r).num, (D : Int)], Sv.nd m ≤ 100 := fun h => h1' (by
      rw [hE]
      show (if _ then _ else _) = (0 : Int)
      rw [if_pos]
      refine h _ (List.mem_append_left _ (List.mem_map.2 ⟨qs[k], List.getElem_mem _, ?_⟩))
      rw [List.getD_eq_getElem?_getD, List.getElem?_eq_getElem hk2]; rfl)
     have M := Z0.mk (mappedI_ok 77 _ A n c _ G E 10 W5 hfI hn.out hm hC hF.out ⟨.inr ⟨by decide, k, hk, (hE2 k).resolve_left h1', fun k' _ => hE2 k'⟩⟩)
     clear h1
     go_wp2_with (first
         | ((with_reducible refine gc_ 80 rfl ?_); refine gL 37 Tryz.func80 M.out ?_; rintro _ w6 ⟨X, m, d, rfl, hX, hA, hb⟩; refine ⟨_, rfl, ?_⟩; replace hX := Z0.mk hX; replace hA := Z0.mk hA; replace B0 := Z0.mk (blk_below B0.out hb); replace HB := Z0.mk (below_step HB.out hb); replace hB5 := Z0.mk (below_step hB5.out hb); clear hb p0 p1; obtain ⟨p0, p1, -, -⟩ := b2 B0)
         | ((with_reducible refine gv_ 43 rfl ?_); refine cV rfl hfI (hW.out _ hB5.out) ?_; rintro _ w7 ⟨rfl, hb⟩; refine ⟨_, rfl, ?_⟩; have hb7 := Z0.mk hb; replace B0 := Z0.mk (blk_below B0.out hb); replace HB := Z0.mk (below_step HB.out hb); clear hb p0 p1; obtain ⟨p0, p1, -, -⟩ := b2 B0)
         | (go_at_call 79; refine (short_ok (D : Int) _ _ (by omega) hz).mono ?_; rintro _ w8 ⟨rfl, hb⟩; have hb8 := Z0.mk hb; replace B0 := Z0.mk (blk_below B0.out hb); replace HB := Z0.mk (below_step HB.out hb); clear hb p0 p1; obtain ⟨p0, p1, -, -⟩ := b2 B0))
     refine bodyPost_ret (results_list (rs := [.tmp 2, .tmp 3, .tmp 4, .tmp 5]) rfl (by simp) (.tmp (.tmp (.tmp (.tmp .nil))))) rfl ?_
     rw [he.out, if_neg hno]
     exact ⟨none, 0, rfl, Nat.le_refl _, C_nilS, HB.out⟩
 · have he : intS l s = ([], ⟨#[]⟩, ⟨#[]⟩, y) := by unfold intS; rw [hy.out, if_neg h0]
   replace he := Z0.mk he
   have h0' : (y != 0) = true := bne_iff_ne.mpr h0
   go_wp2_with (refine cG rfl ?_; intro w' hb; replace HB := fB HB hb; clear hb p0 p1)
   refine bodyPost_ret (results_list (rs := [.tmp 2, .tmp 3, .tmp 4, .tmp 5]) rfl (by simp) (.tmp (.tmp (.tmp (.tmp .nil))))) rfl ?_
   rw [he.out]
   exact ⟨none, 0, rfl, Nat.le_refl _, C_nilS, HB.out⟩
instance : Ctr 23 (type_of% @Integral_ok) := ⟨@Integral_ok, _, Tryz.func23, by kernel_rfl, rfl⟩
set_option linter.unusedVariables false
open Go.RowKit Go.Proofs.WWords Go.Proofs.WLast Go.Proofs.WMore
attribute [local go_sem] max2_int min2_int max_two min_two max_three min_three max_four min_four
set_option linter.unusedSimpArgs false
theorem rENegative.calls (a0 : ByteArray) (r : Bool) (w : World) (h : rENegative.f a0 = some r) :
  Calls Tryz.prog 130 #[.string a0] w fun e w' => e = .returned (.bool r) ∧ Drawn0 w w' := by
 have H := h
 clear h
 unfold rENegative.f at H
 obtain ⟨c2, c2b0, H⟩ := gd H
 have c2b1 : decide (0 < a0.size) = true := decide_eq_true (by omega)
 clear c2
 obtain rfl := Option.some.inj H
 have p3 : 0 ≤ (0 : Int) := (by omega)
 have q3 : 0 < a0.size := (by have : (0 : Int) < (a0.size : Int) := od; omega)
 have hx3 : ∀ h : 0 < a0.size, ((a0[0]'h).toNat : Int) = bt a0 0 := bt_at a0 0
 clear p3
 have qi3 : (0 < (a0.size : Int)) = True := eq_true od
 replace q3 := eq_true q3
 go_enter Tryz.func130, Tryz.ntmps130
 go_wp2
 go_ret
 exact finD
theorem rEWhole.calls (k : Nat) (a0 : Int) (r : ByteArray) (w : World) (h : rEWhole.f k a0 = some r) :
  Calls Tryz.prog 170 #[.int .i64 a0] w fun e w' => e = .returned (.string r) ∧ Below w.heap.size w w' := by
 have HB := Z0.mk (Below.refl w.heap.size w)
 have H := h
 clear h
 unfold rEWhole.f at H
 rcases je H with ⟨-, c2b0, c2b1, H⟩ | ⟨c2, c2b0, c2b1, H⟩
 ·obtain rfl := Option.some.inj H
  go_enter Tryz.func170, Tryz.ntmps170
  go_wp2
  go_ret
  exact finE
 have H' := Z0.mk H
 clear H
 go_enter Tryz.func170, Tryz.ntmps170
 go_wp2
 go_loopg [3, 4] k (fun kq v3 v4 w' => ∃ (x3_1 : ByteArray) (x4_1 : Int), v3 = .string x3_1 ∧ v4 = .int .i64 x4_1 ∧ Z0 (rEWhole.l0 kq a0 x3_1 x4_1 = some r) ∧ Z0 (kq ≤ k) ∧ Z0 (Below w.heap.size w w'))
 case atStart => exact ⟨((⟨#[]⟩ : ByteArray)), (a0), fs, fs, H', ⟨Nat.le_refl _⟩, ⟨bqs⟩⟩
 case round =>
  clear H'
  try clear c1
  try clear c2
  try clear c2b0
  try clear c2b1
  try clear p2
  obtain ⟨x3_1, x4_1, rfl, rfl, HA, HK1, HB⟩ := hrel
  cases gk with
  | zero => exact absurd HA.out (by simp [rEWhole.l0])
  | succ k1 =>
   have H := HA.out
   clear HA
   simp only [rEWhole.l0] at H
   rcases je H with ⟨-, c3b0, c3b1, H⟩ | ⟨c3, c3b0, c3b1, H⟩
   ·rcases jd H with ⟨-, c4b0, H⟩ | ⟨-, c4b0, H⟩
    ·obtain ⟨c5, c5b0, c5b1, H⟩ := gt H
     try have c5b2 : (9223372036854775807 < 1 + x3_1.size) = False := eq_false (Nat.not_lt.2 c5)
     obtain rfl := Option.some.inj H
     go_wp2
     go_ret
     exact finE
    obtain rfl := Option.some.inj H
    go_wp2
    go_ret
    exact finE
   obtain ⟨ji6, hji6⟩ : ∃ j_ : Int, (mx (Int.tmod x4_1 10) (wrap64 (-(Int.tmod x4_1 10)))) = j_ := ⟨_, rfl⟩
   replace H : (if 0 ≤ (ji6) then (if (ji6) ≤ (wrap64 ((ji6) + 1)) then (if (wrap64 ((ji6) + 1)) ≤ 10 then (if ((⟨#[48, 49, 50, 51, 52, 53, 54, 55, 56, 57]⟩ : ByteArray).extract ((ji6) : Int).toNat ((wrap64 ((ji6) + 1)) : Int).toNat).size + x3_1.size ≤ 9223372036854775807 then (rEWhole.l0 k1 a0 (((⟨#[48, 49, 50, 51, 52, 53, 54, 55, 56, 57]⟩ : ByteArray).extract ((ji6) : Int).toNat ((wrap64 ((ji6) + 1)) : Int).toNat) ++ x3_1) (wrap64 (Int.tdiv x4_1 10))) else (none)) else (none)) else (none)) else (none)) = some r := by first | (rw [hji6] at H; exact H) | (simp only [hji6] at H ⊢; exact H)
   have hji6_ : (if (Int.tmod x4_1 10) < (wrap64 (-(Int.tmod x4_1 10))) then (wrap64 (-(Int.tmod x4_1 10))) else (Int.tmod x4_1 10)) = ji6 := hji6
   obtain ⟨-, c7b0, c7b1, H⟩ := gt H
   obtain ⟨c8, c8b0, c8b1, H⟩ := gt H
   obtain ⟨c9, c9b0, c9b1, H⟩ := gt H
   obtain ⟨c10, c10b0, c10b1, H⟩ := gt H
   try have c10b2 : (9223372036854775807 < ((⟨#[48, 49, 50, 51, 52, 53, 54, 55, 56, 57]⟩ : ByteArray).extract ((ji6) : Int).toNat ((wrap64 ((ji6) + 1)) : Int).toNat).size + x3_1.size) = False := eq_false (Nat.not_lt.2 c10)
   have H' := Z0.mk H
   clear H
   go_wp2
   go_roundg k1
   case measure => have := HK1.out; omega
   case rel => exact ⟨(((⟨#[48, 49, 50, 51, 52, 53, 54, 55, 56, 57]⟩ : ByteArray).extract ((ji6) : Int).toNat ((wrap64 ((ji6) + 1)) : Int).toNat) ++ x3_1), (wrap64 (Int.tdiv x4_1 10)), (by first | rfl | (simp; done) | (simp only [← hji6] <;> (first | rfl | simp)) | (simp [*]; done)), fs, H', ⟨by have := HK1.out; omega⟩, ⟨bqs⟩⟩
theorem rEcut.calls (k : Nat) (P0_ : Nat → Prop) (A0 : Option Addr) (c0 : Nat) (l0 : List Int) (r : List Int) (w : World) (hs0 : Kd.V (Kd.int .i64) 3 w w.heap.size (fun k_ => P0_ k_) (.slice A0 l0.length c0) l0) (h : rEcut.f k l0 = some r) :
  Calls Tryz.prog 165 #[.slice A0 l0.length c0] w fun e w' => ∃ v0_ : Value, e = .returned (v0_) ∧ Kd.V (Kd.int .i64) 3 w' w.heap.size (fun k_ => (P0_ k_ ∨ w.heap.size ≤ k_)) v0_ r ∧ Below w.heap.size w w' := by
 have HO0 := Z0.mk (show Kd.V (Kd.int .i64) 3 w w.heap.size (fun k_ => (P0_ k_ ∨ w.heap.size ≤ k_)) (.slice A0 l0.length c0) l0 from Kd.V_mono hs0 (fun k_ hk => .inl hk))
 have HB := Z0.mk (Below.refl w.heap.size w)
 have H := h
 clear h
 unfold rEcut.f at H
 have H' := Z0.mk H
 clear H
 go_enter Tryz.func165, Tryz.ntmps165
 go_wp2
 go_loopg [3] k (fun kq v3 w' => ∃ (x3_1 : Int), v3 = .int .i64 x3_1 ∧ Z0 (rEcut.l0 kq l0 x3_1 = some r) ∧ Z0 (kq ≤ k) ∧ Z0 (Kd.V (Kd.int .i64) 3 w' w.heap.size (fun k_ => (P0_ k_ ∨ w.heap.size ≤ k_)) (.slice A0 l0.length c0) l0) ∧ Z0 (Below w.heap.size w w'))
 case atStart => exact ⟨((l0.length : Int)), fs, H', ⟨Nat.le_refl _⟩, ⟨vq HO0⟩, ⟨bqs⟩⟩
 case round =>
  clear H'
  try clear c1
  obtain ⟨x3_1, rfl, HA, HK1, HO_0, HB⟩ := hrel
  cases gk with
  | zero => exact absurd HA.out (by simp [rEcut.l0])
  | succ k1 =>
   have H := HA.out
   clear HA
   simp only [rEcut.l0] at H
   rcases jg H with ⟨-, c2b0, H⟩ | ⟨-, c2b0, H⟩
   ·obtain ⟨ji3, hji3⟩ : ∃ j_ : Int, (wrap64 (x3_1 - 1)) = j_ := ⟨_, rfl⟩
    replace H : (if 0 ≤ (ji3) then (if (ji3) < (l0.length : Int) then (if (rd l0 (ji3)) = 0 then (rEcut.l0 k1 l0 ji3) else (if 0 ≤ x3_1 then (if x3_1 ≤ (l0.length : Int) then (some (l0.take (x3_1 : Int).toNat)) else (none)) else (none))) else (none)) else (none)) = some r := by first | (rw [hji3] at H; exact H) | (simp only [hji3] at H ⊢; exact H)
    have hji3w : (IntKind.i64.wrap (x3_1 - 1)) = ji3 := (i64_w _).trans hji3
    obtain ⟨-, c4b0, H⟩ := gd H
    obtain ⟨-, c5b0, H⟩ := gd H
    rcases je H with ⟨-, c6b0, c6b1, H⟩ | ⟨c6, c6b0, c6b1, H⟩
    ·have H' := Z0.mk H
     clear H
     obtain ⟨ad451, e451, hx451_0, p451, q451⟩ := atI (Kd.V_reads' HO_0.out).2.2 (ji3)
     cases e451
     go_wp2
     go_roundg k1
     case measure => have := HK1.out; omega
     case rel => exact ⟨(ji3), (by first | rfl | (simp; done) | (simp only [← hji3] <;> (first | rfl | simp)) | (simp [*]; done)), H', ⟨by have := HK1.out; omega⟩, ⟨vq HO_0⟩, ⟨bqs⟩⟩
    obtain ⟨-, c7b0, c7b1, H⟩ := gt H
    obtain ⟨-, c8b0, c8b1, H⟩ := gt H
    generalize hy452 : (l0.take (x3_1 : Int).toNat : List Int) = y452 at H
    have Ny452 := Z0.mk hy452.symm
    clear hy452
    obtain rfl := Option.some.inj H
    obtain ⟨ad451, e451, hx451_0, p451, q451⟩ := atI (Kd.V_reads' HO_0.out).2.2 (ji3)
    cases e451
    have q9 : (x3_1 : Int) ≤ ((l0.length : Int) : Int) := od
    obtain ⟨i09, hi09, _, hsz9, _⟩ := info_parts info3
    have hroom9 : l0.length ≤ c0 := (Kd.V_reads' HO_0.out).2.1
    have hC9 : Kd.F (Kd.int .i64) _ _ (some ad451) l0.length l0 := (Kd.V_at (base := w.heap.size) HO_0.out).2.2
    have hcut9 := cut_to (P := Tryz.prog) 35 3 .i64 Tryz.underlying35 hi09 (some ad451) l0.length c0 x3_1 od q9 hroom9
    have hr9 := Kd.F_take (m := (x3_1 : Int).toNat) hC9 (by omega)
    have hy9 : y452.length = (x3_1 : Int).toNat := (by rw [Ny452.out, List.length_take]; omega)
    rw [← Ny452.out] at hr9
    rw [← hy9] at hcut9
    have HO456 := Z0.mk (show Kd.V (Kd.int .i64) 3 _ w.heap.size _ (.slice (some ad451) y452.length c0) y452 from Kd.V_mk (by omega) hr9)
    have HC456 := Z0.mk (show y452.length ≤ c0 from by omega)
    clear hr9 hC9 hroom9 hi09 hsz9
    have KY9 := Z0.mk hy9
    clear hy9
    replace q9 := eq_true q9
    go_wp2
    go_ret
    exact ⟨_, by first | rfl | (simp [errW_none, errW_some] <;> rfl) | (simp only [← hji3]; first | rfl | (simp [errW_none, errW_some] <;> rfl)) | (simp [*, errW_none, errW_some] <;> rfl), vq HO456, bqs⟩
   obtain ⟨-, c10b0, c10b1, H⟩ := gt H
   obtain ⟨-, c11b0, c11b1, H⟩ := gt H
   generalize hy457 : (l0.take (x3_1 : Int).toNat : List Int) = y457 at H
   have Ny457 := Z0.mk hy457.symm
   clear hy457
   obtain rfl := Option.some.inj H
   have q12 : (x3_1 : Int) ≤ ((l0.length : Int) : Int) := od
   obtain ⟨i012, hi012, _, hsz12, _⟩ := info_parts info3
   have hroom12 : l0.length ≤ c0 := (Kd.V_reads' HO_0.out).2.1
   have hC12 : Kd.F (Kd.int .i64) _ _ A0 l0.length l0 := (Kd.V_at (base := w.heap.size) HO_0.out).2.2
   have hcut12 := cut_to (P := Tryz.prog) 35 3 .i64 Tryz.underlying35 hi012 A0 l0.length c0 x3_1 od q12 hroom12
   have hr12 := Kd.F_take (m := (x3_1 : Int).toNat) hC12 (by omega)
   have hy12 : y457.length = (x3_1 : Int).toNat := (by rw [Ny457.out, List.length_take]; omega)
   rw [← Ny457.out] at hr12
   rw [← hy12] at hcut12
   have HO461 := Z0.mk (show Kd.V (Kd.int .i64) 3 _ w.heap.size _ (.slice A0 y457.length c0) y457 from Kd.V_mk (by omega) hr12)
   have HC461 := Z0.mk (show y457.length ≤ c0 from by omega)
   clear hr12 hC12 hroom12 hi012 hsz12
   have KY12 := Z0.mk hy12
   clear hy12
   replace q12 := eq_true q12
   go_wp2
   go_ret
   exact ⟨_, fe, vq HO461, bqs⟩
theorem rEdigits.calls (k : Nat) (a0 : ByteArray) (r : List Int) (w : World) (h : rEdigits.f k a0 = some r) :
  Calls Tryz.prog 166 #[.string a0] w fun e w' => ∃ v0_ : Value, e = .returned (v0_) ∧ Kd.R (Kd.int .i64) 3 w' w.heap.size (fun _ => True) v0_ r ∧ Below w.heap.size w w' := by
 have HB := Z0.mk (Below.refl w.heap.size w)
 have H := h
 clear h
 unfold rEdigits.f at H
 have H' := Z0.mk H
 clear H
 go_enter Tryz.func166, Tryz.ntmps166
 go_wp2
 go_loopg [3, 4] k (fun kq v3 v4 w' => ∃ (x3_1 : List Int) (x4_1 : Int), v4 = .int .i64 x4_1 ∧ Z0 (rEdigits.l0 kq a0 x3_1 x4_1 = some r) ∧ Z0 (kq ≤ k) ∧ Z0 (Kd.R (Kd.int .i64) 3 w' w.heap.size (fun _ => True) v3 x3_1) ∧ Z0 (Below w.heap.size w w'))
 case atStart => exact ⟨(([] : List Int)), (wrap64 ((a0.size : Int) - 1)), fs, H', ⟨Nat.le_refl _⟩, ⟨by first | exact Kd.R_nil _ _ _ _ _ | exact Kd.N_nil _ _ _ _ _ | exact Kd.V_nil _ _ _ _ _ | exact Kd.Q_nil _ _ _ _ _ | exact Kd.S_nil _ _ _ _ _⟩, ⟨bqs⟩⟩
 case round =>
  clear H'
  try clear c1
  obtain ⟨x3_1, x4_1, rfl, HA, HK1, HO_3, HB⟩ := hrel
  cases gk with
  | zero => exact absurd HA.out (by simp [rEdigits.l0])
  | succ k1 =>
   have H := HA.out
   clear HA
   simp only [rEdigits.l0] at H
   rcases jh H with ⟨-, c2b0, H⟩ | ⟨-, c2b0, H⟩
   ·obtain ⟨-, c3b0, H⟩ := gd H
    obtain ⟨-, c4b0, H⟩ := gd H
    rcases je H with ⟨-, c6b0, c6b1, H⟩ | ⟨c6, c6b0, c6b1, H⟩
    ·obtain rfl := Option.some.inj H
     obtain ⟨hx5, p5, q5⟩ := btA a0 x4_1
     go_wp2
     go_ret
     exact ⟨_, fe, rq HO_3, bqs⟩
    obtain ⟨c8, H⟩ := gn H
    have LMc8 := Z0.mk c8
    clear c8
    generalize hy444 : (x3_1 ++ [((bt a0 x4_1) - 48) % 256] : List Int) = y444 at H
    have Ny444 := Z0.mk hy444.symm
    clear hy444
    have H' := Z0.mk H
    clear H
    obtain ⟨hx5, p5, q5⟩ := btA a0 x4_1
    obtain ⟨hx7, p7, q7⟩ := btA a0 x4_1
    go_wp2_with (first | ((with_reducible refine gate_builtin (b := .append) (xs := #[.tmp 18, .tmp 24]) rfl ?_); at_builtin; refine Kd.R_append (Kd.int .i64) (w0 := w) w.heap.size rfl (.tmp 18) (.tmp 24) 35 3 (.int .i64 0) 8 rfl Tryz.underlying35 info3 rfl (by decide) (by omega) u3 x3_1 (((bt a0 x4_1) - 48) % 256) [.int .i64 (((bt a0 x4_1) - 48) % 256)] (fun _ => True) (fun _ => False) rfl rfl ?aP (fun _ hk => hk.elim) ?aF ?aO ?aB ?aS ?aL ?_; (case aP => exact rfl); (case aB => exact bqs); (case aF => exact (fun _ _ => trivial)); (case aO => exact (rq HO_3)); (case aS => exact (below_size bqs)); (case aL => have := LMc8.out; omega); intro v445 w9 ho hb hg hat; rw [← Ny444.out] at ho; have HO446 := Z0.mk (ho); replace HB := Z0.mk (hb); clear HO_3; clear ho hb hg hat))
    go_roundg k1
    case measure => have := HK1.out; omega
    case rel => exact ⟨(y444), (wrap64 (x4_1 - 1)), fs, H', ⟨by have := HK1.out; omega⟩, ⟨rq HO446⟩, ⟨bqs⟩⟩
   obtain rfl := Option.some.inj H
   go_wp2
   go_ret
   exact ⟨_, fe, rq HO_3, bqs⟩
theorem rEmade.calls (k : Nat) (A0 : Option Addr) (c0 : Nat) (l0 : List Int) (a1 : Bool) (r : ByteArray) (w : World) (hr0 : Kd.C (Kd.int .i64) w A0 l0.length l0) (hc0 : l0.length ≤ c0) (h : rEmade.f k l0 a1 = some r) :
  Calls Tryz.prog 174 #[.slice A0 l0.length c0, .bool a1] w fun e w' => e = .returned (.string r) ∧ Below w.heap.size w w' := by
 have HR0 := Z0.mk hr0
 have HC0 := Z0.mk hc0
 clear hr0 hc0
 have HB := Z0.mk (Below.refl w.heap.size w)
 have H := h
 clear h
 unfold rEmade.f at H
 obtain ⟨t479, A3, H⟩ := bnd H
 rcases je H with ⟨-, c4b0, c4b1, H⟩ | ⟨c4, c4b0, c4b1, H⟩
 ·obtain rfl := Option.some.inj H
  go_enter Tryz.func174, Tryz.ntmps174
  go_wp2_with (first | ((with_reducible refine gc_ 165 rfl ?_); refine gL 8 Tryz.func165 (rEcut.calls k (fun k_ => k_ < w.heap.size) _ _ l0 t479 _ ?side1 A3.out) ?_; (case side1 => exact Kd.V_mk HC0.out (Kd.F_below (Kd.C_F (Kd.heap_int .i64) HR0.out) bqs)); rintro _ w5 ⟨v480, rfl, ho0, hb⟩; refine ⟨_, rfl, ?_⟩; have HO481 := Z0.mk (Kd.V_lower (Kd.V_mono (ok' := fun k_ => True) ho0 (fun k_ hk_ => trivial)) (below_size bqs)); replace HB := fB HB hb; clear hb ho0; obtain ⟨Ao6, co6, eo6⟩ := Kd.V_slice HO481.out; subst eo6))
  go_ret
  exact finE
 have c4b2 : ¬ (t479 = []) := fun h_ => c4 (by rw [h_]; rfl)
 have HC7 := Z0.mk H
 clear H
 go_enter Tryz.func174, Tryz.ntmps174
 go_upto_if 12 with (first | ((with_reducible refine gc_ 165 rfl ?_); refine gL 8 Tryz.func165 (rEcut.calls k (fun k_ => k_ < w.heap.size) _ _ l0 t479 _ ?side1 A3.out) ?_; (case side1 => exact Kd.V_mk HC0.out (Kd.F_below (Kd.C_F (Kd.heap_int .i64) HR0.out) bqs)); rintro _ w8 ⟨v480, rfl, ho0, hb⟩; refine ⟨_, rfl, ?_⟩; have HO481 := Z0.mk (Kd.V_lower (Kd.V_mono (ok' := fun k_ => True) ho0 (fun k_ hk_ => trivial)) (below_size bqs)); replace HB := fB HB hb; clear hb ho0; obtain ⟨Ao9, co9, eo9⟩ := Kd.V_slice HO481.out; subst eo9))
 (try simp only [Act.put, List.setIfInBounds_toArray, List.set_cons_zero, List.set_cons_succ])
 go_cut [5] (fun v5 wc => ∃ (kq : Nat) (x5_6 : List Int), Z0 (rEmade.j0 kq t479 x5_6 = some r) ∧ Z0 (kq ≤ k) ∧ Z0 (Kd.V (Kd.int .i64) 3 wc w.heap.size (fun k_ => some k_ ≠ (v5 : Value).ownBlock) (.slice Ao9 t479.length co9) t479) ∧ Z0 (Kd.R (Kd.int .u8) 5 wc w.heap.size (fun _ => True) v5 x5_6) ∧ Z0 (Below w.heap.size w wc))
 case first =>
  have H := HC7.out
  clear HC7
  by_cases c10 : a1 = true
  ·subst c10
   have H1 : (if ([] : List Int).length < 140737488355328 then (rEmade.j0 k t479 (([] : List Int) ++ [45])) else (none)) = some r := by rw [if_pos rfl] at H; exact H
   clear H
   have H := H1
   clear H1
   obtain ⟨c11, H⟩ := gn H
   have LMc11 := Z0.mk c11
   clear c11
   generalize hy482 : (([] : List Int) ++ [45] : List Int) = y482 at H
   have Ny482 := Z0.mk hy482.symm
   clear hy482
   have H' := Z0.mk H
   clear H
   go_wp2_with (first | ((with_reducible refine gate_builtin (b := .append) (xs := #[.tmp 13, .tmp 14]) rfl ?_); at_builtin; refine Kd.R_append (Kd.int .u8) (w0 := w) w.heap.size rfl (.tmp 13) (.tmp 14) 158 5 (.int .u8 0) 1 rfl Tryz.underlying158 info5 rfl (by decide) (by omega) (.slice none 0 0) ([] : List Int) 45 [.int .u8 45] (fun _ => True) (fun _ => False) rfl rfl ?aP (fun _ hk => hk.elim) ?aF ?aO ?aB ?aS ?aL ?_; (case aP => exact rfl); (case aB => exact bqs); (case aF => exact (fun _ _ => trivial)); (case aO => exact ((Kd.R_nil _ _ _ _ (fun _ => True)))); (case aS => exact (below_size bqs)); (case aL => have := LMc11.out; omega); intro v483 w12 ho hb hg hat; rw [← Ny482.out] at ho; have HO484 := Z0.mk (ho); replace HO481 := Z0.mk (Kd.V_afterv (Kd.V_apart_nil (vq HO481)) hg hat); replace HB := Z0.mk (hb); clear ho hb hg hat))
   go_meet
   case rel => exact ⟨_, (y482), H', ⟨by first | omega | exact Nat.le_refl _⟩, ⟨by (with_reducible repeat (first | apply Kd.V_alloc | apply Kd.V_drewN | apply Kd.V_drew)); exact Kd.V_mono HO481.out (fun _ hk => hk.2)⟩, ⟨rq HO484⟩, ⟨bqs⟩⟩
  replace c10 := Bool.eq_false_iff.mpr c10
  subst c10
  have H1 : (rEmade.j0 k t479 ([] : List Int)) = some r := by rw [if_neg (show ¬ (false = true) by decide)] at H; exact H
  clear H
  have H := H1
  clear H1
  have H' := Z0.mk H
  clear H
  go_wp2
  go_meet
  case rel => exact ⟨_, (([] : List Int)), H', ⟨by first | omega | exact Nat.le_refl _⟩, ⟨by (with_reducible repeat (first | apply Kd.V_alloc | apply Kd.V_drewN | apply Kd.V_drew)); exact Kd.V_mono HO481.out (fun _ hk => (by simp [Value.ownBlock]))⟩, ⟨by first | exact Kd.R_nil _ _ _ _ _ | exact Kd.N_nil _ _ _ _ _ | exact Kd.V_nil _ _ _ _ _ | exact Kd.Q_nil _ _ _ _ _ | exact Kd.S_nil _ _ _ _ _⟩, ⟨bqs⟩⟩
 case rest =>
  clear HC7
  try clear c1
  try clear p2
  try clear c4
  try clear c4b0
  try clear c4b1
  try clear c4b2
  try clear c10
  try clear c11
  obtain ⟨kq, x5_6, HA, HJ6, HO_0, HO_5, HB⟩ := hcut
  cases kq with
  | zero => exact absurd HA.out (by simp [rEmade.j0])
  | succ kj6 =>
   have H := HA.out
   clear HA
   simp only [rEmade.j0] at H
   have H' := Z0.mk H
   clear H
   go_wp2
   go_loopg [5, 6] kj6 (fun kq v5 v6 w' => ∃ (x5_2 : List Int) (x6_2 : Int), v6 = .int .i64 x6_2 ∧ Z0 (rEmade.l0 kq t479 x5_2 x6_2 = some r) ∧ Z0 (kq ≤ kj6) ∧ Z0 (Kd.V (Kd.int .i64) 3 w' w.heap.size (fun k_ => some k_ ≠ (v5 : Value).ownBlock) (.slice Ao9 t479.length co9) t479) ∧ Z0 (Kd.R (Kd.int .u8) 5 w' w.heap.size (fun _ => True) v5 x5_2) ∧ Z0 (Below w.heap.size w w'))
   case atStart => exact ⟨(x5_6), (wrap64 ((t479.length : Int) - 1)), fs, H', ⟨Nat.le_refl _⟩, ⟨vq HO_0⟩, ⟨rq HO_5⟩, ⟨bqs⟩⟩
   case round =>
    clear H'
    try clear c1
    try clear p2
    try clear c4
    try clear c4b0
    try clear c4b1
    try clear c4b2
    try clear p6
    try clear c10
    try clear c11
    try clear p2
    obtain ⟨x5_2, x6_2, rfl, HA, HK2, HO_0, HO_5, HB⟩ := hrel
    cases gk with
    | zero => exact absurd HA.out (by simp [rEmade.l0])
    | succ k2 =>
     have H := HA.out
     clear HA
     simp only [rEmade.l0] at H
     rcases jh H with ⟨-, c13b0, H⟩ | ⟨-, c13b0, H⟩
     ·obtain ⟨-, c14b0, H⟩ := gd H
      obtain ⟨-, c15b0, H⟩ := gd H
      obtain ⟨c16, H⟩ := gn H
      have LMc16 := Z0.mk c16
      clear c16
      generalize hy486 : (x5_2 ++ [(wrap64 (48 + (rd t479 x6_2))) % 256] : List Int) = y486 at H
      have Ny486 := Z0.mk hy486.symm
      clear hy486
      have H' := Z0.mk H
      clear H
      obtain ⟨ad485, e485, hx485_0, p485, q485⟩ := atI (Kd.V_reads' HO_0.out).2.2 x6_2
      cases e485
      go_wp2_with (first | ((with_reducible refine gate_builtin (b := .append) (xs := #[.tmp 23, .tmp 30]) rfl ?_); at_builtin; refine Kd.R_append (Kd.int .u8) (w0 := w) w.heap.size rfl (.tmp 23) (.tmp 30) 158 5 (.int .u8 0) 1 rfl Tryz.underlying158 info5 rfl (by decide) (by omega) u5 x5_2 ((wrap64 (48 + (rd t479 x6_2))) % 256) [.int .u8 ((wrap64 (48 + (rd t479 x6_2))) % 256)] (fun _ => True) (fun _ => False) rfl rfl ?aP (fun _ hk => hk.elim) ?aF ?aO ?aB ?aS ?aL ?_; (case aP => exact rfl); (case aB => exact bqs); (case aF => exact (fun _ _ => trivial)); (case aO => exact (rq HO_5)); (case aS => exact (below_size bqs)); (case aL => have := LMc16.out; omega); intro v487 w17 ho hb hg hat; rw [← Ny486.out] at ho; have HO488 := Z0.mk (ho); replace HO_0 := Z0.mk (Kd.V_afterv (ok := (fun _ => True)) (by (with_reducible repeat (first | apply Kd.V_alloc | apply Kd.V_drewN | apply Kd.V_drew)); exact Kd.V_mono HO_0.out (fun _ hk => ⟨trivial, hk⟩)) hg hat); replace HB := Z0.mk (hb); clear HO_5; clear ho hb hg hat))
      go_roundg k2
      case measure => have := HJ6.out; have := HK2.out; omega
      case rel => exact ⟨(y486), (wrap64 (x6_2 - 1)), fs, H', ⟨by have := HJ6.out; have := HK2.out; omega⟩, ⟨by (with_reducible repeat (first | apply Kd.V_alloc | apply Kd.V_drewN | apply Kd.V_drew)); exact Kd.V_mono HO_0.out (fun _ hk => hk.2)⟩, ⟨rq HO488⟩, ⟨bqs⟩⟩
     obtain rfl := Option.some.inj H
     have hcv18 := own_string (P := Tryz.prog) Tryz.underlying158 Tryz.underlying5 Tryz.underlying45 (Kd.own_of_R HO_5.out)
     go_wp2
     go_ret
     exact finE
theorem rEat.calls (A0 : Option Addr) (c0 : Nat) (l0 : List Int) (a1 : Int) (r : Int) (w : World) (hr0 : Kd.C (Kd.int .i64) w A0 l0.length l0) (hc0 : l0.length ≤ c0) (h : rEat.f l0 a1 = some r) :
  Calls Tryz.prog 217 #[.slice A0 l0.length c0, .int .i64 a1] w fun e w' => e = .returned (.int .i64 r) ∧ Drawn0 w w' := by
 have HR0 := Z0.mk hr0
 have HC0 := Z0.mk hc0
 clear hr0 hc0
 have H := h
 clear h
 unfold rEat.f at H
 rcases jd H with ⟨-, c3b0, H⟩ | ⟨-, c3b0, H⟩
 ·obtain ⟨-, c4b0, H⟩ := gd H
  obtain rfl := Option.some.inj H
  obtain ⟨ad519, e519, hx519_0, p519, q519⟩ := atI HR0.out a1
  cases e519
  go_enter Tryz.func217, Tryz.ntmps217
  go_wp2
  go_ret
  exact finD
 obtain rfl := Option.some.inj H
 go_enter Tryz.func217, Tryz.ntmps217
 go_wp2
 go_ret
 exact finD
end Go.Proofs.YtihbebbabjklkaaGreatDoor.PA
