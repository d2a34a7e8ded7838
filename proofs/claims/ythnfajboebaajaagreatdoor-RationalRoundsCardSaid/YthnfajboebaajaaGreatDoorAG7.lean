import Derived.Test.YthnfajboebaajaaGreatDoorAG1
import Derived.Test.YthnfajboebaajaaGreatDoorAD
import Derived.Test.YthnfajboebaajaaGreatDoorAG6
import Derived.Test.YthnfajboebaajaaGreatDoorAG2
import Derived.Test.YthnfajboebaajaaGreatDoorAG3
set_option maxHeartbeats 8000000
set_option maxRecDepth 100000
set_option linter.unusedVariables false
namespace Go.Proofs.YthnfajboebaajaaGreatDoor.PA
open Go.RowKit Go.Proofs.WWords Go.Proofs.WLast Go.Proofs.WMore
attribute [local go_sem] max2_int min2_int max_two min_two max_three min_three max_four min_four
set_option linter.unusedVariables false
set_option linter.unusedSimpArgs false
theorem bIGcd.calls (k : Nat) (a0 : ByteArray) (a1 : ByteArray) (r1 : ByteArray) (r2 : Int) (w : World) (hL : LaidW w) (h : bIGcd.f k a0 a1 = some (r1, r2)) :
  Calls Tryz.prog 37 #[.string a0, .string a1] w fun e w' => e = .returned (.tuple #[.string r1, .int .i64 r2]) ∧ Below w.heap.size w w' := by
 have hu88 := Tryz.underlying88
 have HB := Z0.mk (Below.refl w.heap.size w)
 have H := h
 clear h
 unfold bIGcd.f at H
 obtain ⟨⟨t177, t178, t181, t182, t185⟩, A3, H⟩ := bnd H
 try dsimp only at H
 rcases je H with ⟨-, c4b0, c4b1, H⟩ | ⟨c4, c4b0, c4b1, H⟩
 ·obtain ⟨t188, A5, H⟩ := bnd H
  obtain ⟨t191, A6, H⟩ := bnd H
  simp only [Option.some.injEq, Prod.mk.injEq] at H
  obtain ⟨rfl, rfl⟩ := H
  go_enter Tryz.func37, Tryz.ntmps37
  go_wp2_with (first | ((with_reducible refine gc_ 86 rfl ?_); refine gL 12 Tryz.func86 (bIpair.calls _ _ _ _ _ _ _ _ _ A3.out) ?_; rintro _ w7 ⟨v179, v183, rfl, ho0, ho1, hb⟩; refine ⟨_, rfl, ?_⟩; have HO180 := fN ho0; have HO184 := fN ho1; replace HB := fB HB hb; clear hb ho0 ho1) | ((with_reducible refine gd_ 6 rfl ?_); refine bxE 6 #[.bool false, .slice none 0 0] 88 ?_; intro gb186 hg w8 hbox hb; have BK186 := Z0.mk hbox; have GW186 := fE HB hg; have GE186 := fE HB hg; replace HO180 := fR HO180 hb; replace HO184 := fR HO184 hb; replace HB := fB HB hb; clear hb hbox hg) | ((with_reducible refine gd_ 7 rfl ?_); refine bxE 7 #[.bool false, .slice none 0 0] 88 ?_; intro gb187 hg w9 hbox hb; have BK187 := Z0.mk hbox; have GW187 := fE HB hg; have GE187 := fE HB hg; have NB186_187 := fl BK186 hg; have NB187_186 := fg BK186 hg; replace HO180 := fR HO180 hb; replace HO184 := fR HO184 hb; replace BK186 := fk BK186 hb; replace HB := fB HB hb; clear hb hbox hg; have hnb10 := NB186_187.out; have hnc10 := NB187_186.out; obtain ⟨hcz11_0, hcz11_1, hfz11_0, hfz11_1⟩ := b2 BK186; obtain ⟨Ao12, co12, eo12⟩ := Kd.R_slice HO180.out; subst eo12) | ((with_reducible refine gate_store (t := 88) (p := 6) rfl ?_); refine store_event (t := 88) (p := 6) (v := ?vo_w13) (w1 := ((w9.setCell ⟨gb186, 0, none⟩ (.bool t177)).setCell ⟨gb186, 1, none⟩ (.slice Ao12 t178.length co12))) ?hg ?ho ?hn ?hr ?_; (case ho => rfl); (case hg => rfl); (case hn => rfl); (case hr => first | (go_simp; done) | (go_simp; rfl)); intro w13 hw; have n0_ : Z0 (Kd.R (Kd.int .i64) 3 w13 w.heap.size (fun k_ => some k_ ≠ (v183 : Value).ownBlock) (.slice Ao12 t178.length co12) t178) := ⟨(by rw [hw]; exact (by (with_reducible repeat (first | apply Kd.R_alloc | apply Kd.R_drewN | apply Kd.R_drew)); exact Kd.R_mono (Kd.R_far (p := ⟨gb186, 1, none⟩) (Kd.R_far (p := ⟨gb186, 0, none⟩) (Kd.R_types HO180.out BK186.out (by decide)) (fun _ hk => hk.2) (.bool t177)) (fun _ hk => hk.2) (.slice Ao12 t178.length co12)) (fun _ hk => hk.1)))⟩; have n1_ : Z0 (Kd.R (Kd.int .i64) 3 w13 w.heap.size (fun k_ => some k_ ≠ (.slice Ao12 t178.length co12 : Value).ownBlock) v183 t182) := ⟨(by rw [hw]; exact (by (with_reducible repeat (first | apply Kd.R_alloc | apply Kd.R_drewN | apply Kd.R_drew)); exact Kd.R_mono (Kd.R_far (p := ⟨gb186, 1, none⟩) (Kd.R_far (p := ⟨gb186, 0, none⟩) (Kd.R_types HO184.out BK186.out (by decide)) (fun _ hk => hk.2) (.bool t177)) (fun _ hk => hk.2) (.slice Ao12 t178.length co12)) (fun _ hk => hk.1)))⟩; have n2_ : Z0 (w13.heap[gb186]? = some (.cells #[.bool t177, .slice Ao12 t178.length co12] 88 (0, 0))) := ⟨(by rw [hw]; exact (by (with_reducible repeat (first | refine blk_drewN ?_ _ | refine blk_drew ?_ | refine blk_alloc ?_ _)); refine blk_put (cs := #[.bool t177, .slice none 0 0]) ?_ 1 _ rfl; (with_reducible repeat (first | refine blk_drewN ?_ _ | refine blk_drew ?_ | refine blk_alloc ?_ _)); refine blk_put (cs := #[.bool false, .slice none 0 0]) ?_ 0 _ rfl; (with_reducible repeat (first | refine blk_drewN ?_ _ | refine blk_drew ?_ | refine blk_alloc ?_ _)); exact BK186.out))⟩; have n3_ : Z0 (w13.heap[gb187]? = some (.cells #[.bool false, .slice none 0 0] 88 (0, 0))) := ⟨(by rw [hw]; exact (by (with_reducible repeat (first | refine blk_drewN ?_ _ | refine blk_drew ?_ | refine blk_alloc ?_ _)); refine blk_far ?_ NB187_186.out _; (with_reducible repeat (first | refine blk_drewN ?_ _ | refine blk_drew ?_ | refine blk_alloc ?_ _)); refine blk_far ?_ NB187_186.out _; (with_reducible repeat (first | refine blk_drewN ?_ _ | refine blk_drew ?_ | refine blk_alloc ?_ _)); exact BK187.out))⟩; have n4_ : Z0 (Below w.heap.size w w13) := ⟨(by rw [hw]; exact bqs)⟩; clear hw; clear HO180; clear HO184; clear BK186; clear BK187; clear HB; have HO180 := n0_; have HO184 := n1_; have BK186 := n2_; have BK187 := n3_; have HB := n4_; clear n0_ n1_ n2_ n3_ n4_; obtain ⟨hcz14_0, hcz14_1, hfz14_0, hfz14_1⟩ := b2 BK187; obtain ⟨Ao15, co15, eo15⟩ := Kd.R_slice HO184.out; subst eo15) | ((with_reducible refine gate_store (t := 88) (p := 7) rfl ?_); refine store_event (t := 88) (p := 7) (v := ?vo_w16) (w1 := ((w13.setCell ⟨gb187, 0, none⟩ (.bool t181)).setCell ⟨gb187, 1, none⟩ (.slice Ao15 t182.length co15))) ?hg ?ho ?hn ?hr ?_; (case ho => rfl); (case hg => rfl); (case hn => rfl); (case hr => first | (go_simp; done) | (go_simp; rfl)); intro w16 hw; have n0_ : Z0 (Kd.R (Kd.int .i64) 3 w16 w.heap.size (fun k_ => some k_ ≠ (.slice Ao15 t182.length co15 : Value).ownBlock) (.slice Ao12 t178.length co12) t178) := ⟨(by rw [hw]; exact (by (with_reducible repeat (first | apply Kd.R_alloc | apply Kd.R_drewN | apply Kd.R_drew)); exact Kd.R_mono (Kd.R_far (p := ⟨gb187, 1, none⟩) (Kd.R_far (p := ⟨gb187, 0, none⟩) (Kd.R_types HO180.out BK187.out (by decide)) (fun _ hk => hk.2) (.bool t181)) (fun _ hk => hk.2) (.slice Ao15 t182.length co15)) (fun _ hk => hk.1)))⟩; have n1_ : Z0 (Kd.R (Kd.int .i64) 3 w16 w.heap.size (fun k_ => some k_ ≠ (.slice Ao12 t178.length co12 : Value).ownBlock) (.slice Ao15 t182.length co15) t182) := ⟨(by rw [hw]; exact (by (with_reducible repeat (first | apply Kd.R_alloc | apply Kd.R_drewN | apply Kd.R_drew)); exact Kd.R_mono (Kd.R_far (p := ⟨gb187, 1, none⟩) (Kd.R_far (p := ⟨gb187, 0, none⟩) (Kd.R_types HO184.out BK187.out (by decide)) (fun _ hk => hk.2) (.bool t181)) (fun _ hk => hk.2) (.slice Ao15 t182.length co15)) (fun _ hk => hk.1)))⟩; have n2_ : Z0 (w16.heap[gb186]? = some (.cells #[.bool t177, .slice Ao12 t178.length co12] 88 (0, 0))) := ⟨(by rw [hw]; exact (by (with_reducible repeat (first | refine blk_drewN ?_ _ | refine blk_drew ?_ | refine blk_alloc ?_ _)); refine blk_far ?_ NB186_187.out _; (with_reducible repeat (first | refine blk_drewN ?_ _ | refine blk_drew ?_ | refine blk_alloc ?_ _)); refine blk_far ?_ NB186_187.out _; (with_reducible repeat (first | refine blk_drewN ?_ _ | refine blk_drew ?_ | refine blk_alloc ?_ _)); exact BK186.out))⟩; have n3_ : Z0 (w16.heap[gb187]? = some (.cells #[.bool t181, .slice Ao15 t182.length co15] 88 (0, 0))) := ⟨(by rw [hw]; exact (by (with_reducible repeat (first | refine blk_drewN ?_ _ | refine blk_drew ?_ | refine blk_alloc ?_ _)); refine blk_put (cs := #[.bool t181, .slice none 0 0]) ?_ 1 _ rfl; (with_reducible repeat (first | refine blk_drewN ?_ _ | refine blk_drew ?_ | refine blk_alloc ?_ _)); refine blk_put (cs := #[.bool false, .slice none 0 0]) ?_ 0 _ rfl; (with_reducible repeat (first | refine blk_drewN ?_ _ | refine blk_drew ?_ | refine blk_alloc ?_ _)); exact BK187.out))⟩; have n4_ : Z0 (Below w.heap.size w w16) := ⟨(by rw [hw]; exact bqs)⟩; clear hw; clear HO180; clear HO184; clear BK186; clear BK187; clear HB; have HO180 := n0_; have HO184 := n1_; have BK186 := n2_; have BK187 := n3_; have HB := n4_; clear n0_ n1_ n2_ n3_ n4_; obtain ⟨hcz17_0, hcz17_1, hfz17_0, hfz17_1⟩ := b2 BK186; obtain ⟨hcz18_0, hcz18_1, hfz18_0, hfz18_1⟩ := b2 BK187) | ((with_reducible refine gc_ 94 rfl ?_); refine gL 23 Tryz.func94 (bIcommon.calls k (fun k_ => some k_ = (.slice Ao12 t178.length co12 : Value).ownBlock) (.slice Ao12 t178.length co12) t178 (fun k_ => some k_ = (.slice Ao15 t182.length co15 : Value).ownBlock) (.slice Ao15 t182.length co15) t182 t188 w _ ?side1 ?side2 ?side3 ?side4 ?side5 A5.out) ?_; (case side1 => repeat (first | (with_reducible first | exact HB.out | apply below_alloc | apply pw_below_drewN | apply below_drew1 | refine below_set ?_ GE186.out | refine below_set ?_ GE187.out) | exact HB.out)); (case side2 => exact Kd.R_tight rfl HO180.out); (case side3 => exact fun k_ e_ => (HO180.out.1 k_ e_.symm)); (case side4 => exact Kd.R_tight rfl HO184.out); (case side5 => exact fun k_ e_ => (HO184.out.1 k_ e_.symm)); rintro _ w19 ⟨v189, rfl, ho0, hb, hkp⟩; refine ⟨_, rfl, ?_⟩; have HO190 := Z0.mk (Kd.R_mono (ok' := fun k_ => True) ho0 (fun k_ hk_ => trivial)); replace BK186 := Z0.mk (blk_kept (hq BK186) hkp (fun hs_ => Or.elim hs_ (fun e_ => (fun e_ => (Kd.R_ne HO180.out BK186.out (by decide)) e_) e_) (fun e_ => (fun e_ => (Kd.R_ne HO184.out BK186.out (by decide)) e_) e_))); replace BK187 := Z0.mk (blk_kept (hq BK187) hkp (fun hs_ => Or.elim hs_ (fun e_ => (fun e_ => (Kd.R_ne HO180.out BK187.out (by decide)) e_) e_) (fun e_ => (fun e_ => (Kd.R_ne HO184.out BK187.out (by decide)) e_) e_))); replace HB := Z0.mk (hb); clear HO180 HO184; clear hb hkp ho0; obtain ⟨Ao20, co20, eo20⟩ := Kd.R_slice HO190.out; subst eo20) | ((with_reducible refine gc_ 95 rfl ?_); refine gL 25 Tryz.func95 (bInumber_text.calls false _ _ t188 t191 _ ?side3 ?side1 ?side2 A6.out) ?_; (case side1 => exact cq (Kd.R_reads' HO190.out).2.2); (case side2 => exact (Kd.R_reads' HO190.out).2.1); (case side3 => exact LaidW.below hL bqs); rintro _ w21 ⟨rfl, hb⟩; refine ⟨_, rfl, ?_⟩; replace HO190 := fR HO190 hb; replace BK186 := fk BK186 hb; replace BK187 := fk BK187 hb; replace HB := fB HB hb; clear hb))
  go_ret2
  exact finE
 simp only [Option.some.injEq, Prod.mk.injEq] at H
 obtain ⟨rfl, rfl⟩ := H
 go_enter Tryz.func37, Tryz.ntmps37
 go_wp2_with (first | ((with_reducible refine gc_ 86 rfl ?_); refine gL 12 Tryz.func86 (bIpair.calls _ _ _ _ _ _ _ _ _ A3.out) ?_; rintro _ w22 ⟨v179, v183, rfl, ho0, ho1, hb⟩; refine ⟨_, rfl, ?_⟩; have HO180 := fN ho0; have HO184 := fN ho1; replace HB := fB HB hb; clear hb ho0 ho1) | ((with_reducible refine gd_ 6 rfl ?_); refine bxE 6 #[.bool false, .slice none 0 0] 88 ?_; intro gb186 hg w23 hbox hb; have BK186 := Z0.mk hbox; have GW186 := fE HB hg; have GE186 := fE HB hg; replace HO180 := fR HO180 hb; replace HO184 := fR HO184 hb; replace HB := fB HB hb; clear hb hbox hg) | ((with_reducible refine gd_ 7 rfl ?_); refine bxE 7 #[.bool false, .slice none 0 0] 88 ?_; intro gb187 hg w24 hbox hb; have BK187 := Z0.mk hbox; have GW187 := fE HB hg; have GE187 := fE HB hg; have NB186_187 := fl BK186 hg; have NB187_186 := fg BK186 hg; replace HO180 := fR HO180 hb; replace HO184 := fR HO184 hb; replace BK186 := fk BK186 hb; replace HB := fB HB hb; clear hb hbox hg; have hnb25 := NB186_187.out; have hnc25 := NB187_186.out; obtain ⟨hcz26_0, hcz26_1, hfz26_0, hfz26_1⟩ := b2 BK186; obtain ⟨Ao27, co27, eo27⟩ := Kd.R_slice HO180.out; subst eo27; obtain ⟨hcz28_0, hcz28_1, hfz28_0, hfz28_1⟩ := b2 BK187; obtain ⟨Ao29, co29, eo29⟩ := Kd.R_slice HO184.out; subst eo29))
 go_ret2
 exact finE
theorem rAdigits.calls (a0 : ByteArray) (r : Int) (w : World) (h : rAdigits.f a0 = some r) :
  Calls Tryz.prog 80 #[.string a0] w fun e w' => e = .returned (.int .i64 r) ∧ Drawn0 w w' := by
 have H := h
 clear h
 unfold rAdigits.f at H
 obtain ⟨t192, A2, H⟩ := bnd H
 obtain rfl := Option.some.inj H
 go_enter Tryz.func80, Tryz.ntmps80
 go_wp2_with (first | ((with_reducible refine gc_ 110 rfl ?_); refine goD (some 4) Tryz.func110 #[.string a0, .string (⟨#[45]⟩ : ByteArray)] (strings_TrimPrefix.calls a0 (⟨#[45]⟩ : ByteArray) t192 _ A2.out) ?_; intro nd))
 go_ret
 exact finD
theorem rAcommon.calls (k : Nat) (a0 : ByteArray) (a1 : ByteArray) (r : Bool) (w : World) (hL : LaidW w) (h : rAcommon.f k a0 a1 = some r) :
  Calls Tryz.prog 79 #[.string a0, .string a1] w fun e w' => e = .returned (.bool r) ∧ Below w.heap.size w w' := by
 have HB := Z0.mk (Below.refl w.heap.size w)
 have H := h
 clear h
 unfold rAcommon.f at H
 have HC3 := Z0.mk H
 clear H
 go_enter Tryz.func79, Tryz.ntmps79
 go_upto_region 1 with (fail)
 go_cut [16] (fun v16 wc => ∃ (kq : Nat) (x16_2 : Bool), v16 = .bool x16_2 ∧ Z0 (rAcommon.j0 kq a0 a1 x16_2 = some r) ∧ Z0 (kq ≤ k) ∧ Z0 (Below w.heap.size w wc))
 case first =>
  have H := HC3.out
  clear HC3
  obtain ⟨t201, A4, H⟩ := bnd H
  rcases jd H with ⟨-, c5b0, H⟩ | ⟨-, c5b0, H⟩
  ·(first | rw [c5b0] | (simp only [i64_w, i32_w]; rw [c5b0]) | skip)
   obtain ⟨t202, A6, H⟩ := bnd H
   have H' := Z0.mk H
   clear H
   go_wp2_with (first | ((with_reducible refine gc_ 80 rfl ?_); refine goD (some 10) Tryz.func80 #[.string a0] (rAdigits.calls a0 t201 _ A4.out) ?_; intro nd) | (go_at_call 80; (with_reducible refine (rAdigits.calls a1 t202 _ A6.out).mono ?_); rintro e w' ⟨rfl, ⟨nd, rfl⟩⟩))
   go_meet
   case rel => exact ⟨_, (decide (t202 ≤ 4096)), fs, H', ⟨by first | omega | exact Nat.le_refl _⟩, ⟨bqs⟩⟩
  (first | rw [c5b0] | (simp only [i64_w, i32_w]; rw [c5b0]) | skip)
  have H' := Z0.mk H
  clear H
  go_wp2_with (first | ((with_reducible refine gc_ 80 rfl ?_); refine goD (some 10) Tryz.func80 #[.string a0] (rAdigits.calls a0 t201 _ A4.out) ?_; intro nd))
  go_meet
  case rel => exact ⟨_, (false), fs, H', ⟨by first | omega | exact Nat.le_refl _⟩, ⟨bqs⟩⟩
 case rest =>
  clear HC3
  try clear p2
  try clear c5
  try clear c5b0
  obtain ⟨kq, x16_2, rfl, HA, HJ2, HB⟩ := hcut
  cases kq with
  | zero => exact absurd HA.out (by simp [rAcommon.j0])
  | succ kj2 =>
   have H := HA.out
   clear HA
   simp only [rAcommon.j0] at H
   by_cases c7 : x16_2 = true
   ·subst c7
    have H1 : ((bIGcd.f kj2 a0 a1).bind fun bt203 => (if bt203.2 = 0 then (some (bt203.1.toList != ([49] : List UInt8))) else (some true))) = some r := by rw [if_pos rfl] at H; exact H
    clear H
    have H := H1
    clear H1
    obtain ⟨⟨t203, t204⟩, A8, H⟩ := bnd H
    try dsimp only at H
    rcases je H with ⟨-, c9b0, c9b1, H⟩ | ⟨c9, c9b0, c9b1, H⟩
    ·obtain rfl := Option.some.inj H
     go_wp2_with (first | ((with_reducible refine gc_ 37 rfl ?_); refine goB (some 20) Tryz.func37 #[.string a0, .string a1] bq (bIGcd.calls kj2 a0 a1 t203 t204 _ (hL.below bq) A8.out) ?_; clear HB; intro w10 HB))
     go_ret
     exact finE
    obtain rfl := Option.some.inj H
    go_wp2_with (first | ((with_reducible refine gc_ 37 rfl ?_); refine goB (some 20) Tryz.func37 #[.string a0, .string a1] bq (bIGcd.calls kj2 a0 a1 t203 t204 _ (hL.below bq) A8.out) ?_; clear HB; intro w11 HB))
    go_ret
    exact finE
   replace c7 := Bool.eq_false_iff.mpr c7
   subst c7
   exact absurd (if_neg (show ¬ (false = true) by decide) ▸ H) (by simp)
theorem rAsplit.calls (a0 : ByteArray) (r1 : ByteArray) (r2 : ByteArray) (w : World) (h : rAsplit.f a0 = some (r1, r2)) :
  Calls Tryz.prog 71 #[.string a0] w fun e w' => e = .returned (.tuple #[.string r1, .string r2]) ∧ Below w.heap.size w w' := by
 have HB := Z0.mk (Below.refl w.heap.size w)
 have H := h
 clear h
 unfold rAsplit.f at H
 obtain ⟨t101, A2, H⟩ := bnd H
 rcases jh H with ⟨-, c3b0, H⟩ | ⟨-, c3b0, H⟩
 ·obtain ⟨-, c4b0, c4b1, H⟩ := gt H
  obtain ⟨-, c5b0, c5b1, H⟩ := gt H
  obtain ⟨ji6, hji6⟩ : ∃ j_ : Int, (wrap64 (t101 + 1)) = j_ := ⟨_, rfl⟩
  replace H : (if 0 ≤ (ji6) then (if (ji6) ≤ (a0.size : Int) then (some (a0.extract 0 (t101 : Int).toNat, a0.extract ((ji6) : Int).toNat a0.size)) else (none)) else (none)) = some (r1, r2) := by first | (rw [hji6] at H; exact H) | (simp only [hji6] at H ⊢; exact H)
  (try rw [hji6] at A2)
  have hji6w : (IntKind.i64.wrap (t101 + 1)) = ji6 := (i64_w _).trans hji6
  obtain ⟨-, c7b0, c7b1, H⟩ := gt H
  obtain ⟨-, c8b0, c8b1, H⟩ := gt H
  simp only [Option.some.injEq, Prod.mk.injEq] at H
  obtain ⟨rfl, rfl⟩ := H
  go_enter Tryz.func71, Tryz.ntmps71
  go_wp2_with (first | (go_at_call 112; (with_reducible refine (strings_IndexByte.calls a0 47 t101 _ A2.out).mono ?_); rintro e w9 ⟨rfl, hb⟩; replace HB := fB HB hb; clear hb) | (go_quiet (first | (go_at_call 112; (with_reducible refine (strings_IndexByte.calls a0 47 t101 _ A2.out).mono ?_); rintro e w9 ⟨rfl, hb⟩; replace HB := fB HB hb; clear hb))))
  go_ret2
  exact ⟨by first | rfl | (simp [errW_none, errW_some] <;> rfl) | (simp only [← hji6]; first | rfl | (simp [errW_none, errW_some] <;> rfl)) | (simp [*, errW_none, errW_some] <;> rfl), bqs⟩
 simp only [Option.some.injEq, Prod.mk.injEq] at H
 obtain ⟨rfl, rfl⟩ := H
 go_enter Tryz.func71, Tryz.ntmps71
 go_wp2_with (first | (go_at_call 112; (with_reducible refine (strings_IndexByte.calls a0 47 t101 _ A2.out).mono ?_); rintro e w10 ⟨rfl, hb⟩; replace HB := fB HB hb; clear hb) | (go_quiet (first | (go_at_call 112; (with_reducible refine (strings_IndexByte.calls a0 47 t101 _ A2.out).mono ?_); rintro e w10 ⟨rfl, hb⟩; replace HB := fB HB hb; clear hb))))
 go_ret2
 exact finE
theorem rACheck.calls (k : Nat) (a0 : ByteArray) (r : Int) (w : World) (hL : LaidW w) (h : rACheck.f k a0 = some r) :
  Calls Tryz.prog 28 #[.string a0] w fun e w' => e = .returned (.int .i64 r) ∧ Below w.heap.size w w' := by
 have HB := Z0.mk (Below.refl w.heap.size w)
 have H := h
 clear h
 unfold rACheck.f at H
 obtain ⟨⟨t215, t216⟩, A2, H⟩ := bnd H
 try dsimp only at H
 have HC3 := Z0.mk H
 clear H
 go_enter Tryz.func28, Tryz.ntmps28
 go_upto_region 2 with (first | ((with_reducible refine gc_ 71 rfl ?_); refine goB (some 7) Tryz.func71 #[.string a0] bq (rAsplit.calls a0 t215 t216 _ A2.out) ?_; clear HB; intro w4 HB))
 (try simp only [Act.put, List.setIfInBounds_toArray, List.set_cons_zero, List.set_cons_succ])
 go_cut [17] (fun v17 wc => ∃ (kq : Nat) (x17_2 : Bool), v17 = .bool x17_2 ∧ Z0 (rACheck.j0 kq a0 t215 t216 x17_2 = some r) ∧ Z0 (kq ≤ k) ∧ Z0 (Below w.heap.size w wc))
 case first =>
  have H := HC3.out
  clear HC3
  obtain ⟨t217, A5, H⟩ := bnd H
  by_cases c6 : t217 = true
  ·subst c6
   have H1 : ((rAcanonical.f t216).bind fun t218 => (rACheck.j0 k a0 t215 t216 (!t218))) = some r := by rw [if_pos rfl] at H; exact H
   clear H
   have H := H1
   clear H1
   obtain ⟨t218, A7, H⟩ := bnd H
   have H' := Z0.mk H
   clear H
   go_wp2_with (first | ((with_reducible refine gc_ 77 rfl ?_); refine goB (some 11) Tryz.func77 #[.string t215] bq (rAcanonical.calls t215 true _ A5.out) ?_; clear HB; intro w8 HB) | (go_at_call 77; (with_reducible refine (rAcanonical.calls t216 t218 _ A7.out).mono ?_); rintro e w9 ⟨rfl, hb⟩; replace HB := fB HB hb; clear hb))
   go_meet
   case rel => exact ⟨_, (!t218), fs, H', ⟨by first | omega | exact Nat.le_refl _⟩, ⟨bqs⟩⟩
  replace c6 := Bool.eq_false_iff.mpr c6
  subst c6
  have H1 : (rACheck.j0 k a0 t215 t216 true) = some r := by rw [if_neg (show ¬ (false = true) by decide)] at H; exact H
  clear H
  have H := H1
  clear H1
  have H' := Z0.mk H
  clear H
  go_wp2_with (first | ((with_reducible refine gc_ 77 rfl ?_); refine goB (some 11) Tryz.func77 #[.string t215] bq (rAcanonical.calls t215 false _ A5.out) ?_; clear HB; intro w10 HB))
  go_meet
  case rel => exact ⟨_, (true), fs, H', ⟨by first | omega | exact Nat.le_refl _⟩, ⟨bqs⟩⟩
 case rest =>
  clear HC3
  try clear c2
  try clear p2
  try clear c6
  try clear c7
  obtain ⟨kq, x17_2, rfl, HA, HJ2, HB⟩ := hcut
  cases kq with
  | zero => exact absurd HA.out (by simp [rACheck.j0])
  | succ kj2 =>
   have H := HA.out
   clear HA
   simp only [rACheck.j0] at H
   by_cases c11 : x17_2 = true
   ·subst c11
    have H1 : (some 3) = some r := by rw [if_pos rfl] at H; exact H
    clear H
    have H := H1
    clear H1
    obtain rfl := Option.some.inj H
    go_wp2
    go_ret
    exact finE
   replace c11 := Bool.eq_false_iff.mpr c11
   subst c11
   have H1 : ((strings_Contains.f a0 (⟨#[47]⟩ : ByteArray)).bind fun t219 => (if t219 = true then (if t216.toList = ([48] : List UInt8) then (rACheck.j1 kj2 t215 t216 true) else (if t216.toList = ([49] : List UInt8) then (rACheck.j1 kj2 t215 t216 true) else (if 0 < (t216.size : Int) then (if (bt t216 0) = 45 then (rACheck.j1 kj2 t215 t216 true) else ((rAcommon.f kj2 t215 t216).bind fun t220 => (rACheck.j1 kj2 t215 t216 t220))) else (none)))) else (rACheck.j1 kj2 t215 t216 false))) = some r := by rw [if_neg (show ¬ (false = true) by decide)] at H; exact H
   clear H
   have H := H1
   clear H1
   have HC12 := Z0.mk H
   clear H
   go_upto_region 4 with (fail)
   go_cut [37] (fun v37 wc => ∃ (kq : Nat) (x37_11 : Bool), v37 = .bool x37_11 ∧ Z0 (rACheck.j1 kq t215 t216 x37_11 = some r) ∧ Z0 (kq ≤ kj2) ∧ Z0 (Below w.heap.size w wc))
   case first =>
    have H := HC12.out
    clear HC12
    obtain ⟨t219, A13, H⟩ := bnd H
    by_cases c14 : t219 = true
    ·subst c14
     have H1 : (if t216.toList = ([48] : List UInt8) then (rACheck.j1 kj2 t215 t216 true) else (if t216.toList = ([49] : List UInt8) then (rACheck.j1 kj2 t215 t216 true) else (if 0 < (t216.size : Int) then (if (bt t216 0) = 45 then (rACheck.j1 kj2 t215 t216 true) else ((rAcommon.f kj2 t215 t216).bind fun t220 => (rACheck.j1 kj2 t215 t216 t220))) else (none)))) = some r := by rw [if_pos rfl] at H; exact H
     clear H
     have H := H1
     clear H1
     rcases je H with ⟨-, c15b0, c15b1, H⟩ | ⟨c15, c15b0, c15b1, H⟩
     ·(first | rw [c15b0] | (simp only [i64_w, i32_w]; rw [c15b0]) | skip)
      have H' := Z0.mk H
      clear H
      go_wp2_with (first | ((with_reducible refine gc_ 78 rfl ?_); refine goB (some 19) Tryz.func78 #[.string a0, .string (⟨#[47]⟩ : ByteArray)] bq (strings_Contains.calls a0 (⟨#[47]⟩ : ByteArray) true _ A13.out) ?_; clear HB; intro w16 HB))
      go_meet
      case rel => exact ⟨_, (true), fs, H', ⟨by have := HJ2.out; first | omega | exact Nat.le_refl _⟩, ⟨bqs⟩⟩
     (first | rw [c15b0] | (simp only [i64_w, i32_w]; rw [c15b0]) | skip)
     rcases je H with ⟨-, c17b0, c17b1, H⟩ | ⟨c17, c17b0, c17b1, H⟩
     ·have H' := Z0.mk H
      clear H
      go_wp2_with (first | ((with_reducible refine gc_ 78 rfl ?_); refine goB (some 19) Tryz.func78 #[.string a0, .string (⟨#[47]⟩ : ByteArray)] bq (strings_Contains.calls a0 (⟨#[47]⟩ : ByteArray) true _ A13.out) ?_; clear HB; intro w18 HB))
      go_meet
      case rel => exact ⟨_, (true), fs, H', ⟨by have := HJ2.out; first | omega | exact Nat.le_refl _⟩, ⟨bqs⟩⟩
     obtain ⟨c19, c19b0, H⟩ := gd H
     have c19b1 : decide (0 < t216.size) = true := decide_eq_true (by omega)
     clear c19
     rcases je H with ⟨-, c21b0, c21b1, H⟩ | ⟨c21, c21b0, c21b1, H⟩
     ·have H' := Z0.mk H
      clear H
      go_wp2_with (first | ((with_reducible refine gc_ 78 rfl ?_); refine gL 19 Tryz.func78 (strings_Contains.calls _ _ _ _ A13.out) ?_; rintro _ w22 ⟨rfl, hb⟩; refine ⟨_, rfl, ?_⟩; replace HB := fB HB hb; clear hb; have p20 : 0 ≤ (0 : Int) := (by omega); have q20 : 0 < t216.size := (by have : (0 : Int) < (t216.size : Int) := od; omega); have hx20 : ∀ h : 0 < t216.size, ((t216[0]'h).toNat : Int) = bt t216 0 := bt_at t216 0; clear p20; have qi20 : (0 < (t216.size : Int)) = True := eq_true od; replace q20 := eq_true q20))
      go_meet
      case rel => exact ⟨_, (true), fs, H', ⟨by have := HJ2.out; first | omega | exact Nat.le_refl _⟩, ⟨bqs⟩⟩
     obtain ⟨t220, A23, H⟩ := bnd H
     have H' := Z0.mk H
     clear H
     go_wp2_with (first | ((with_reducible refine gc_ 78 rfl ?_); refine gL 19 Tryz.func78 (strings_Contains.calls _ _ _ _ A13.out) ?_; rintro _ w24 ⟨rfl, hb⟩; refine ⟨_, rfl, ?_⟩; replace HB := fB HB hb; clear hb; have p20 : 0 ≤ (0 : Int) := (by omega); have q20 : 0 < t216.size := (by have : (0 : Int) < (t216.size : Int) := od; omega); have hx20 : ∀ h : 0 < t216.size, ((t216[0]'h).toNat : Int) = bt t216 0 := bt_at t216 0; clear p20; have qi20 : (0 < (t216.size : Int)) = True := eq_true od; replace q20 := eq_true q20) | (go_at_call 79; (with_reducible refine (rAcommon.calls kj2 t215 t216 t220 _ ?side1 A23.out).mono ?_); (case side1 => exact LaidW.below hL bqs); rintro e w25 ⟨rfl, hb⟩; replace HB := fB HB hb; clear hb))
     go_meet
     case rel => exact ⟨_, (t220), fs, H', ⟨by have := HJ2.out; first | omega | exact Nat.le_refl _⟩, ⟨bqs⟩⟩
    replace c14 := Bool.eq_false_iff.mpr c14
    subst c14
    have H1 : (rACheck.j1 kj2 t215 t216 false) = some r := by rw [if_neg (show ¬ (false = true) by decide)] at H; exact H
    clear H
    have H := H1
    clear H1
    have H' := Z0.mk H
    clear H
    go_wp2_with (first | ((with_reducible refine gc_ 78 rfl ?_); refine goB (some 19) Tryz.func78 #[.string a0, .string (⟨#[47]⟩ : ByteArray)] bq (strings_Contains.calls a0 (⟨#[47]⟩ : ByteArray) false _ A13.out) ?_; clear HB; intro w26 HB))
    go_meet
    case rel => exact ⟨_, (false), fs, H', ⟨by have := HJ2.out; first | omega | exact Nat.le_refl _⟩, ⟨bqs⟩⟩
   case rest =>
    clear HC12
    try clear c1
    try clear c2
    try clear p2
    try clear q2
    try clear hx2
    try clear qi2
    try clear c6
    try clear c7
    try clear c11
    try clear c14
    try clear c15
    try clear c15b0
    try clear c15b1
    try clear c17
    try clear c17b0
    try clear c17b1
    try clear c19
    try clear c19b0
    try clear c19b1
    try clear p20
    try clear q20
    try clear hx20
    try clear qi20
    try clear c21
    try clear c21b0
    try clear c21b1
    try clear p2
    try clear p20
    try clear q20
    obtain ⟨kq, x37_11, rfl, HA, HJ11, HB⟩ := hcut
    cases kq with
    | zero => exact absurd HA.out (by simp [rACheck.j1])
    | succ kj11 =>
     have H := HA.out
     clear HA
     simp only [rACheck.j1] at H
     by_cases c27 : x37_11 = true
     ·subst c27
      have H1 : (some 3) = some r := by rw [if_pos rfl] at H; exact H
      clear H
      have H := H1
      clear H1
      obtain rfl := Option.some.inj H
      go_wp2
      go_ret
      exact finE
     replace c27 := Bool.eq_false_iff.mpr c27
     subst c27
     have H1 : ((rAdigits.f t215).bind fun t221 => (if t221 > 4096 then (some 10) else ((rAdigits.f t216).bind fun t222 => (if t222 > 4096 then (some 10) else (some 0))))) = some r := by rw [if_neg (show ¬ (false = true) by decide)] at H; exact H
     clear H
     have H := H1
     clear H1
     obtain ⟨t221, A28, H⟩ := bnd H
     rcases jg H with ⟨-, c29b0, H⟩ | ⟨-, c29b0, H⟩
     ·obtain rfl := Option.some.inj H
      go_wp2_with (first | ((with_reducible refine gc_ 80 rfl ?_); refine goD (some 39) Tryz.func80 #[.string t215] (rAdigits.calls t215 t221 _ A28.out) ?_; intro nd))
      go_ret
      exact finE
     obtain ⟨t222, A30, H⟩ := bnd H
     rcases jg H with ⟨-, c31b0, H⟩ | ⟨-, c31b0, H⟩
     ·obtain rfl := Option.some.inj H
      go_wp2_with (first | ((with_reducible refine gc_ 80 rfl ?_); refine goD (some 39) Tryz.func80 #[.string t215] (rAdigits.calls t215 t221 _ A28.out) ?_; intro nd) | (go_at_call 80; (with_reducible refine (rAdigits.calls t216 t222 _ A30.out).mono ?_); rintro e w' ⟨rfl, ⟨nd, rfl⟩⟩))
      go_ret
      exact finE
     obtain rfl := Option.some.inj H
     go_wp2_with (first | ((with_reducible refine gc_ 80 rfl ?_); refine goD (some 39) Tryz.func80 #[.string t215] (rAdigits.calls t215 t221 _ A28.out) ?_; intro nd) | (go_at_call 80; (with_reducible refine (rAdigits.calls t216 t222 _ A30.out).mono ?_); rintro e w' ⟨rfl, ⟨nd, rfl⟩⟩))
     go_ret
     exact finE
theorem rAFloor.calls (k : Nat) (a0 : ByteArray) (r1 : ByteArray) (r2 : Int) (w : World) (hL : LaidW w) (h : rAFloor.f k a0 = some (r1, r2)) :
  Calls Tryz.prog 21 #[.string a0] w fun e w' => e = .returned (.tuple #[.string r1, .int .i64 r2]) ∧ Below w.heap.size w w' := by
 have HB := Z0.mk (Below.refl w.heap.size w)
 have H := h
 clear h
 unfold rAFloor.f at H
 obtain ⟨t286, A2, H⟩ := bnd H
 rcases je H with ⟨-, c3b0, c3b1, H⟩ | ⟨c3, c3b0, c3b1, H⟩
 ·obtain ⟨⟨t287, t288⟩, A4, H⟩ := bnd H
  try dsimp only at H
  obtain ⟨⟨t289, t290⟩, A5, H⟩ := bnd H
  try dsimp only at H
  simp only [Option.some.injEq, Prod.mk.injEq] at H
  obtain ⟨rfl, rfl⟩ := H
  go_enter Tryz.func21, Tryz.ntmps21
  go_wp2_with (first | ((with_reducible refine gc_ 28 rfl ?_); refine goB (some 8) Tryz.func28 #[.string a0] bq (rACheck.calls k a0 t286 _ (hL.below bq) A2.out) ?_; clear HB; intro w6 HB) | ((with_reducible refine gc_ 71 rfl ?_); refine goB (some 14) Tryz.func71 #[.string a0] bq (rAsplit.calls a0 t287 t288 _ A4.out) ?_; clear HB; intro w7 HB) | ((with_reducible refine gc_ 69 rfl ?_); refine goB (some 19) Tryz.func69 #[.string t287, .string t288] bq (bIQuo.calls k t287 t288 t289 t290 _ (hL.below bq) A5.out) ?_; clear HB; intro w8 HB))
  go_ret2
  exact finE
 simp only [Option.some.injEq, Prod.mk.injEq] at H
 obtain ⟨rfl, rfl⟩ := H
 go_enter Tryz.func21, Tryz.ntmps21
 go_wp2_with (first | ((with_reducible refine gc_ 28 rfl ?_); refine goB (some 8) Tryz.func28 #[.string a0] bq (rACheck.calls k a0 t286 _ (hL.below bq) A2.out) ?_; clear HB; intro w9 HB))
 go_ret2
 exact finE
theorem rANeg.calls (k : Nat) (a0 : ByteArray) (r1 : ByteArray) (r2 : Int) (w : World) (hL : LaidW w) (h : rANeg.f k a0 = some (r1, r2)) :
  Calls Tryz.prog 20 #[.string a0] w fun e w' => e = .returned (.tuple #[.string r1, .int .i64 r2]) ∧ Below w.heap.size w w' := by
 have HB := Z0.mk (Below.refl w.heap.size w)
 have H := h
 clear h
 unfold rANeg.f at H
 obtain ⟨t291, A2, H⟩ := bnd H
 rcases je H with ⟨-, c3b0, c3b1, H⟩ | ⟨c3, c3b0, c3b1, H⟩
 ·rcases je H with ⟨-, c4b0, c4b1, H⟩ | ⟨c4, c4b0, c4b1, H⟩
  ·simp only [Option.some.injEq, Prod.mk.injEq] at H
   obtain ⟨rfl, rfl⟩ := H
   go_enter Tryz.func20, Tryz.ntmps20
   go_wp2_with (first | ((with_reducible refine gc_ 28 rfl ?_); refine goB (some 6) Tryz.func28 #[.string a0] bq (rACheck.calls k a0 t291 _ (hL.below bq) A2.out) ?_; clear HB; intro w5 HB))
   go_ret2
   exact finE
  obtain ⟨c6, c6b0, H⟩ := gd H
  have c6b1 : decide (0 < a0.size) = true := decide_eq_true (by omega)
  clear c6
  rcases je H with ⟨-, c8b0, c8b1, H⟩ | ⟨c8, c8b0, c8b1, H⟩
  ·obtain ⟨-, c9b0, c9b1, H⟩ := gt H
   simp only [Option.some.injEq, Prod.mk.injEq] at H
   obtain ⟨rfl, rfl⟩ := H
   go_enter Tryz.func20, Tryz.ntmps20
   go_wp2_with (first | ((with_reducible refine gc_ 28 rfl ?_); refine gL 6 Tryz.func28 (rACheck.calls k a0 t291 _ ?side1 A2.out) ?_; (case side1 => exact LaidW.below hL bqs); rintro _ w10 ⟨rfl, hb⟩; refine ⟨_, rfl, ?_⟩; replace HB := fB HB hb; clear hb; have p7 : 0 ≤ (0 : Int) := (by omega); have q7 : 0 < a0.size := (by have : (0 : Int) < (a0.size : Int) := od; omega); have hx7 : ∀ h : 0 < a0.size, ((a0[0]'h).toNat : Int) = bt a0 0 := bt_at a0 0; clear p7; have qi7 : (0 < (a0.size : Int)) = True := eq_true od; replace q7 := eq_true q7))
   go_ret2
   exact finE
  obtain ⟨c11, c11b0, c11b1, H⟩ := gt H
  try have c11b2 : (9223372036854775807 < 1 + a0.size) = False := eq_false (Nat.not_lt.2 c11)
  simp only [Option.some.injEq, Prod.mk.injEq] at H
  obtain ⟨rfl, rfl⟩ := H
  go_enter Tryz.func20, Tryz.ntmps20
  go_wp2_with (first | ((with_reducible refine gc_ 28 rfl ?_); refine gL 6 Tryz.func28 (rACheck.calls k a0 t291 _ ?side1 A2.out) ?_; (case side1 => exact LaidW.below hL bqs); rintro _ w12 ⟨rfl, hb⟩; refine ⟨_, rfl, ?_⟩; replace HB := fB HB hb; clear hb; have p7 : 0 ≤ (0 : Int) := (by omega); have q7 : 0 < a0.size := (by have : (0 : Int) < (a0.size : Int) := od; omega); have hx7 : ∀ h : 0 < a0.size, ((a0[0]'h).toNat : Int) = bt a0 0 := bt_at a0 0; clear p7; have qi7 : (0 < (a0.size : Int)) = True := eq_true od; replace q7 := eq_true q7))
  go_ret2
  exact finE
 simp only [Option.some.injEq, Prod.mk.injEq] at H
 obtain ⟨rfl, rfl⟩ := H
 go_enter Tryz.func20, Tryz.ntmps20
 go_wp2_with (first | ((with_reducible refine gc_ 28 rfl ?_); refine goB (some 6) Tryz.func28 #[.string a0] bq (rACheck.calls k a0 t291 _ (hL.below bq) A2.out) ?_; clear HB; intro w13 HB))
 go_ret2
 exact finE
theorem rACeil.calls (k : Nat) (a0 : ByteArray) (r1 : ByteArray) (r2 : Int) (w : World) (hL : LaidW w) (h : rACeil.f k a0 = some (r1, r2)) :
  Calls Tryz.prog 22 #[.string a0] w fun e w' => e = .returned (.tuple #[.string r1, .int .i64 r2]) ∧ Below w.heap.size w w' := by
 have HB := Z0.mk (Below.refl w.heap.size w)
 have H := h
 clear h
 unfold rACeil.f at H
 obtain ⟨⟨t323, t324⟩, A2, H⟩ := bnd H
 try dsimp only at H
 rcases je H with ⟨-, c3b0, c3b1, H⟩ | ⟨c3, c3b0, c3b1, H⟩
 ·obtain ⟨⟨t325, t326⟩, A4, H⟩ := bnd H
  try dsimp only at H
  rcases je H with ⟨-, c5b0, c5b1, H⟩ | ⟨c5, c5b0, c5b1, H⟩
  ·obtain ⟨⟨t327, t328⟩, A6, H⟩ := bnd H
   try dsimp only at H
   simp only [Option.some.injEq, Prod.mk.injEq] at H
   obtain ⟨rfl, rfl⟩ := H
   go_enter Tryz.func22, Tryz.ntmps22
   go_wp2_with (first | ((with_reducible refine gc_ 20 rfl ?_); refine goB (some 9) Tryz.func20 #[.string a0] bq (rANeg.calls k a0 t323 t324 _ (hL.below bq) A2.out) ?_; clear HB; intro w7 HB) | ((with_reducible refine gc_ 21 rfl ?_); refine goB (some 17) Tryz.func21 #[.string t323] bq (rAFloor.calls k t323 t325 t326 _ (hL.below bq) A4.out) ?_; clear HB; intro w8 HB) | ((with_reducible refine gc_ 35 rfl ?_); refine goB (some 24) Tryz.func35 #[.string t325] bq (bINeg.calls k t325 t327 t328 _ (hL.below bq) A6.out) ?_; clear HB; intro w9 HB))
   go_ret2
   exact finE
  simp only [Option.some.injEq, Prod.mk.injEq] at H
  obtain ⟨rfl, rfl⟩ := H
  go_enter Tryz.func22, Tryz.ntmps22
  go_wp2_with (first | ((with_reducible refine gc_ 20 rfl ?_); refine goB (some 9) Tryz.func20 #[.string a0] bq (rANeg.calls k a0 t323 t324 _ (hL.below bq) A2.out) ?_; clear HB; intro w10 HB) | ((with_reducible refine gc_ 21 rfl ?_); refine goB (some 17) Tryz.func21 #[.string t323] bq (rAFloor.calls k t323 t325 t326 _ (hL.below bq) A4.out) ?_; clear HB; intro w11 HB))
  go_ret2
  exact finE
 simp only [Option.some.injEq, Prod.mk.injEq] at H
 obtain ⟨rfl, rfl⟩ := H
 go_enter Tryz.func22, Tryz.ntmps22
 go_wp2_with (first | ((with_reducible refine gc_ 20 rfl ?_); refine goB (some 9) Tryz.func20 #[.string a0] bq (rANeg.calls k a0 t323 t324 _ (hL.below bq) A2.out) ?_; clear HB; intro w12 HB))
 go_ret2
 exact finE
theorem bIsign.calls (a0_0 : Bool) (A0_1 : Option Addr) (c0_1 : Nat) (l0_1 : List Int) (r : Int) (w : World) (hr0_1 : Kd.C (Kd.int .i64) w A0_1 l0_1.length l0_1) (hc0_1 : l0_1.length ≤ c0_1) (h : bIsign.f a0_0 l0_1 = some r) :
  Calls Tryz.prog 105 #[.agg #[.bool a0_0, .slice A0_1 l0_1.length c0_1]] w fun e w' => e = .returned (.int .i64 r) ∧ Below w.heap.size w w' := by
 have hu88 := Tryz.underlying88
 have HR0_1 := Z0.mk hr0_1
 have HC0_1 := Z0.mk hc0_1
 clear hr0_1 hc0_1
 have HB := Z0.mk (Below.refl w.heap.size w)
 have H := h
 clear h
 unfold bIsign.f at H
 rcases je H with ⟨-, c2b0, c2b1, H⟩ | ⟨c2, c2b0, c2b1, H⟩
 ·obtain rfl := Option.some.inj H
  go_enter Tryz.func105, Tryz.ntmps105
  go_wp2_with (first | ((with_reducible refine gd_ 1 rfl ?_); refine bxE 1 #[.bool a0_0, .slice A0_1 l0_1.length c0_1] 88 ?_; intro gb329 hg w3 hbox hb; have BK329 := Z0.mk hbox; have GW329 := fE HB hg; have GE329 := fE HB hg; replace HB := fB HB hb; clear hb hbox hg; obtain ⟨hcz4_0, hcz4_1, hfz4_0, hfz4_1⟩ := b2 BK329))
  go_ret
  exact finE
 have c2b2 : ¬ (l0_1 = []) := fun h_ => c2 (by rw [h_]; rfl)
 by_cases c5 : a0_0 = true
 ·subst c5
  have H1 : (some (-1)) = some r := by rw [if_pos rfl] at H; exact H
  clear H
  have H := H1
  clear H1
  obtain rfl := Option.some.inj H
  go_enter Tryz.func105, Tryz.ntmps105
  go_wp2_with (first | ((with_reducible refine gd_ 1 rfl ?_); refine bxE 1 #[.bool true, .slice A0_1 l0_1.length c0_1] 88 ?_; intro gb329 hg w6 hbox hb; have BK329 := Z0.mk hbox; have GW329 := fE HB hg; have GE329 := fE HB hg; replace HB := fB HB hb; clear hb hbox hg; obtain ⟨hcz7_0, hcz7_1, hfz7_0, hfz7_1⟩ := b2 BK329))
  go_ret
  exact finE
 replace c5 := Bool.eq_false_iff.mpr c5
 subst c5
 have H1 : (some 1) = some r := by rw [if_neg (show ¬ (false = true) by decide)] at H; exact H
 clear H
 have H := H1
 clear H1
 obtain rfl := Option.some.inj H
 go_enter Tryz.func105, Tryz.ntmps105
 go_wp2_with (first | ((with_reducible refine gd_ 1 rfl ?_); refine bxE 1 #[.bool false, .slice A0_1 l0_1.length c0_1] 88 ?_; intro gb329 hg w8 hbox hb; have BK329 := Z0.mk hbox; have GW329 := fE HB hg; have GE329 := fE HB hg; replace HB := fB HB hb; clear hb hbox hg; obtain ⟨hcz9_0, hcz9_1, hfz9_0, hfz9_1⟩ := b2 BK329))
 go_ret
 exact finE
theorem bICompare.calls (k : Nat) (a0 : ByteArray) (a1 : ByteArray) (r1 : Int) (r2 : Int) (w : World) (h : bICompare.f k a0 a1 = some (r1, r2)) :
  Calls Tryz.prog 63 #[.string a0, .string a1] w fun e w' => e = .returned (.tuple #[.int .i64 r1, .int .i64 r2]) ∧ Below w.heap.size w w' := by
 have hu88 := Tryz.underlying88
 have HB := Z0.mk (Below.refl w.heap.size w)
 have H := h
 clear h
 unfold bICompare.f at H
 obtain ⟨⟨t330, t331, t334, t335, t338⟩, A3, H⟩ := bnd H
 try dsimp only at H
 rcases je H with ⟨-, c4b0, c4b1, H⟩ | ⟨c4, c4b0, c4b1, H⟩
 ·obtain ⟨⟨t341, t342⟩, A5, H⟩ := bnd H
  try dsimp only at H
  obtain ⟨⟨t345, t346⟩, A6, H⟩ := bnd H
  try dsimp only at H
  obtain ⟨t349, A7, H⟩ := bnd H
  simp only [Option.some.injEq, Prod.mk.injEq] at H
  obtain ⟨rfl, rfl⟩ := H
  go_enter Tryz.func63, Tryz.ntmps63
  try go_wp2_with (first | ((with_reducible refine gc_ 86 rfl ?_); refine gL 12 Tryz.func86 (bIpair.calls _ _ _ _ _ _ _ _ _ A3.out) ?_; rintro _ w8 ⟨v332, v336, rfl, ho0, ho1, hb⟩; refine ⟨_, rfl, ?_⟩; have HO333 := fN ho0; have HO337 := fN ho1; replace HB := fB HB hb; clear hb ho0 ho1) | ((with_reducible refine gd_ 6 rfl ?_); refine bxE 6 #[.bool false, .slice none 0 0] 88 ?_; intro gb339 hg w9 hbox hb; have BK339 := Z0.mk hbox; have GW339 := fE HB hg; have GE339 := fE HB hg; replace HO333 := fR HO333 hb; replace HO337 := fR HO337 hb; replace HB := fB HB hb; clear hb hbox hg) | ((with_reducible refine gd_ 7 rfl ?_); refine bxE 7 #[.bool false, .slice none 0 0] 88 ?_; intro gb340 hg w10 hbox hb; have BK340 := Z0.mk hbox; have GW340 := fE HB hg; have GE340 := fE HB hg; have NB339_340 := fl BK339 hg; have NB340_339 := fg BK339 hg; replace HO333 := fR HO333 hb; replace HO337 := fR HO337 hb; replace BK339 := fk BK339 hb; replace HB := fB HB hb; clear hb hbox hg; have hnb11 := NB339_340.out; have hnc11 := NB340_339.out; obtain ⟨hcz12_0, hcz12_1, hfz12_0, hfz12_1⟩ := b2 BK339; obtain ⟨Ao13, co13, eo13⟩ := Kd.R_slice HO333.out; subst eo13; obtain ⟨hcz14_0, hcz14_1, hfz14_0, hfz14_1⟩ := b2 BK340; obtain ⟨Ao15, co15, eo15⟩ := Kd.R_slice HO337.out; subst eo15))
  have n0_ : Z0 (Kd.R (Kd.int .i64) 3 ((((w10.setCell ⟨gb339, 0, none⟩ (.bool t330)).setCell ⟨gb339, 1, none⟩ (.slice Ao13 t331.length co13)).setCell ⟨gb340, 0, none⟩ (.bool t334)).setCell ⟨gb340, 1, none⟩ (.slice Ao15 t335.length co15)) w.heap.size (fun k_ => some k_ ≠ (.slice Ao15 t335.length co15 : Value).ownBlock) (.slice Ao13 t331.length co13) t331) := ⟨by (with_reducible repeat (first | apply Kd.R_alloc | apply Kd.R_drewN | apply Kd.R_drew)); exact Kd.R_mono (Kd.R_far (p := ⟨gb340, 1, none⟩) (Kd.R_far (p := ⟨gb340, 0, none⟩) (Kd.R_far (p := ⟨gb339, 1, none⟩) (Kd.R_far (p := ⟨gb339, 0, none⟩) (Kd.R_types (Kd.R_types HO333.out BK339.out (by decide)) BK340.out (by decide)) (fun _ hk => hk.1.2) (.bool t330)) (fun _ hk => hk.1.2) (.slice Ao13 t331.length co13)) (fun _ hk => hk.2) (.bool t334)) (fun _ hk => hk.2) (.slice Ao15 t335.length co15)) (fun _ hk => hk.1.1)⟩
  have n1_ : Z0 (Kd.R (Kd.int .i64) 3 ((((w10.setCell ⟨gb339, 0, none⟩ (.bool t330)).setCell ⟨gb339, 1, none⟩ (.slice Ao13 t331.length co13)).setCell ⟨gb340, 0, none⟩ (.bool t334)).setCell ⟨gb340, 1, none⟩ (.slice Ao15 t335.length co15)) w.heap.size (fun k_ => some k_ ≠ (.slice Ao13 t331.length co13 : Value).ownBlock) (.slice Ao15 t335.length co15) t335) := ⟨by (with_reducible repeat (first | apply Kd.R_alloc | apply Kd.R_drewN | apply Kd.R_drew)); exact Kd.R_mono (Kd.R_far (p := ⟨gb340, 1, none⟩) (Kd.R_far (p := ⟨gb340, 0, none⟩) (Kd.R_far (p := ⟨gb339, 1, none⟩) (Kd.R_far (p := ⟨gb339, 0, none⟩) (Kd.R_types (Kd.R_types HO337.out BK339.out (by decide)) BK340.out (by decide)) (fun _ hk => hk.1.2) (.bool t330)) (fun _ hk => hk.1.2) (.slice Ao13 t331.length co13)) (fun _ hk => hk.2) (.bool t334)) (fun _ hk => hk.2) (.slice Ao15 t335.length co15)) (fun _ hk => hk.1.1)⟩
  have n2_ : Z0 (((((w10.setCell ⟨gb339, 0, none⟩ (.bool t330)).setCell ⟨gb339, 1, none⟩ (.slice Ao13 t331.length co13)).setCell ⟨gb340, 0, none⟩ (.bool t334)).setCell ⟨gb340, 1, none⟩ (.slice Ao15 t335.length co15)).heap[gb339]? = some (.cells #[.bool t330, .slice Ao13 t331.length co13] 88 (0, 0))) := ⟨by (with_reducible repeat (first | refine blk_drewN ?_ _ | refine blk_drew ?_ | refine blk_alloc ?_ _)); refine blk_far ?_ NB339_340.out _; (with_reducible repeat (first | refine blk_drewN ?_ _ | refine blk_drew ?_ | refine blk_alloc ?_ _)); refine blk_far ?_ NB339_340.out _; (with_reducible repeat (first | refine blk_drewN ?_ _ | refine blk_drew ?_ | refine blk_alloc ?_ _)); refine blk_put (cs := #[.bool t330, .slice none 0 0]) ?_ 1 _ rfl; (with_reducible repeat (first | refine blk_drewN ?_ _ | refine blk_drew ?_ | refine blk_alloc ?_ _)); refine blk_put (cs := #[.bool false, .slice none 0 0]) ?_ 0 _ rfl; (with_reducible repeat (first | refine blk_drewN ?_ _ | refine blk_drew ?_ | refine blk_alloc ?_ _)); exact BK339.out⟩
  have n3_ : Z0 (((((w10.setCell ⟨gb339, 0, none⟩ (.bool t330)).setCell ⟨gb339, 1, none⟩ (.slice Ao13 t331.length co13)).setCell ⟨gb340, 0, none⟩ (.bool t334)).setCell ⟨gb340, 1, none⟩ (.slice Ao15 t335.length co15)).heap[gb340]? = some (.cells #[.bool t334, .slice Ao15 t335.length co15] 88 (0, 0))) := ⟨by (with_reducible repeat (first | refine blk_drewN ?_ _ | refine blk_drew ?_ | refine blk_alloc ?_ _)); refine blk_put (cs := #[.bool t334, .slice none 0 0]) ?_ 1 _ rfl; (with_reducible repeat (first | refine blk_drewN ?_ _ | refine blk_drew ?_ | refine blk_alloc ?_ _)); refine blk_put (cs := #[.bool false, .slice none 0 0]) ?_ 0 _ rfl; (with_reducible repeat (first | refine blk_drewN ?_ _ | refine blk_drew ?_ | refine blk_alloc ?_ _)); refine blk_far ?_ NB340_339.out _; (with_reducible repeat (first | refine blk_drewN ?_ _ | refine blk_drew ?_ | refine blk_alloc ?_ _)); refine blk_far ?_ NB340_339.out _; (with_reducible repeat (first | refine blk_drewN ?_ _ | refine blk_drew ?_ | refine blk_alloc ?_ _)); exact BK340.out⟩
  have n4_ : Z0 (Below w.heap.size w ((((w10.setCell ⟨gb339, 0, none⟩ (.bool t330)).setCell ⟨gb339, 1, none⟩ (.slice Ao13 t331.length co13)).setCell ⟨gb340, 0, none⟩ (.bool t334)).setCell ⟨gb340, 1, none⟩ (.slice Ao15 t335.length co15))) := ⟨bqs⟩
  (try clear HO333)
  (try clear HO337)
  (try clear BK339)
  (try clear BK340)
  (try clear HB)
  generalize ((((w10.setCell ⟨gb339, 0, none⟩ (.bool t330)).setCell ⟨gb339, 1, none⟩ (.slice Ao13 t331.length co13)).setCell ⟨gb340, 0, none⟩ (.bool t334)).setCell ⟨gb340, 1, none⟩ (.slice Ao15 t335.length co15)) = w16 at n0_ n1_ n2_ n3_ n4_ ⊢
  have HO333 := n0_
  have HO337 := n1_
  have BK339 := n2_
  have BK340 := n3_
  have HB := n4_
  clear n0_ n1_ n2_ n3_ n4_
  replace HO333 := Z0.mk (Kd.R_drew HO333.out)
  replace HO337 := Z0.mk (Kd.R_drew HO337.out)
  replace BK339 := Z0.mk (blk_drew BK339.out)
  replace BK340 := Z0.mk (blk_drew BK340.out)
  replace HB := Z0.mk (below_drew1 HB.out)
  refine start_ (n := 7) (S := fun w' => w'.cell? ⟨gb339, 0, none⟩ = some (.bool t330) ∧ w'.cell? ⟨gb339, 1, none⟩ = some (.slice Ao13 t331.length co13) ∧ w'.cell? ⟨gb340, 0, none⟩ = some (.bool t334) ∧ w'.cell? ⟨gb340, 1, none⟩ = some (.slice Ao15 t335.length co15)) (ds := []) #[false, false, false, false, false, false, false] (by kernel_rfl) rfl rfl ⟨(blk_cell BK339.out 0).trans rfl, (blk_cell BK339.out 1).trans rfl, (blk_cell BK340.out 0).trans rfl, (blk_cell BK340.out 1).trans rfl⟩ (fun hHeld => ?_)
  generalize w16.drew = w17 at HO333 HO337 BK339 BK340 HB hHeld ⊢
  refine take_ (i := 0) (N := some 19) (v := ?_) (a' := ?_) #[true, false, false, false, false, false, false] rfl rfl (by kernel_rfl) (fun _ _ _ h => h) (Or.inl ⟨by rfl, ?_⟩) hHeld ?_ ?_
  rotate_left
  ·rintro w' ⟨s0, s1, s2, s3⟩
   go_simp
   with_reducible rfl
  rotate_left
  ·simp only [Act.put, List.setIfInBounds_toArray, List.set_cons_zero, List.set_cons_succ, i64_w, i32_w]
   rfl
  refine take_ (i := 1) (N := some 20) (v := ?_) (a' := ?_) #[true, true, false, false, false, false, false] rfl rfl (by kernel_rfl) (fun _ _ _ h => h) (Or.inl ⟨by rfl, ?_⟩) hHeld ?_ ?_
  rotate_left
  ·rintro w' ⟨s0, s1, s2, s3⟩
   go_simp
   with_reducible rfl
  rotate_left
  ·simp only [Act.put, List.setIfInBounds_toArray, List.set_cons_zero, List.set_cons_succ, i64_w, i32_w]
   rfl
  refine one_ (i := 2) (N := some 21) #[true, true, true, false, false, false, false] rfl rfl (by kernel_rfl) (by decide) (fun K hK => ?_)
  refine goes_ Tryz.func89 (by kernel_rfl) rfl #[.agg #[.bool t334, .slice Ao15 t335.length co15]] (by rfl) rfl rfl (by (try simp only [List.map_toArray, List.map_cons, List.map_nil]); first | done | rfl | (simp only [List.length_drop, List.length_take]; rfl)) ?_
  with_reducible refine (bInegated.calls t334 (fun k_ => some k_ = (.slice Ao15 t335.length co15 : Value).ownBlock) (.slice Ao15 t335.length co15) t335 t341 t342 w _ ?side1 ?side2 A5.out).mono ?_
  (case side1 => repeat (first | (with_reducible first | exact HB.out | apply below_alloc | apply pw_below_drewN | apply below_drew1 | refine below_set ?_ GE339.out | refine below_set ?_ GE340.out) | exact HB.out))
  (case side2 => exact Kd.R_tight rfl HO337.out)
  rintro e w18 ⟨v343, rfl, ho0, hb, hkp⟩
  refine ⟨_, rfl, ?_⟩
  have HO344 := Z0.mk (Kd.R_mono (ok' := fun k_ => some k_ ≠ (.slice Ao13 t331.length co13 : Value).ownBlock) ho0 (fun k_ hk_ => Or.elim hk_ (fun hs_ => fun e_ => (((HO333.out).1 k_ e_.symm)) hs_) (fun hn_ => (Kd.fresh' (Kd.R_lt (rq HO333)) k_ hn_))))
  replace HO333 := Z0.mk (Kd.R_mono (ok' := fun k_ => some k_ ≠ (v343 : Value).ownBlock) (Kd.R_keptB (HO333.out) hkp (fun k_ hk_ hs_ => (hk_) hs_)) (fun k_ hk_ => fun e_ => Or.elim (ho0.1 k_ e_.symm) (fun hs_ => hk_.2.1 hs_) (fun hn_ => Nat.not_le.2 hk_.2.2 hn_)))
  replace BK339 := Z0.mk (blk_kept (hq BK339) hkp (fun hs_ => (fun e_ => (Kd.R_ne HO337.out BK339.out (by decide)) e_) hs_))
  replace BK340 := Z0.mk (blk_kept (hq BK340) hkp (fun hs_ => (fun e_ => (Kd.R_ne HO337.out BK340.out (by decide)) e_) hs_))
  replace HB := Z0.mk (hb)
  clear HO337
  (try clear hb)
  (try clear hkp)
  (try clear ho0)
  obtain ⟨Ao19, co19, eo19⟩ := Kd.R_slice HO344.out
  (first | subst eo19 | (injection eo19 with f1_ f2_ f3_; have f4_ := f1_.symm; have f5_ := f3_.symm; clear f1_ f2_ f3_; subst f4_; subst f5_))
  refine hK.out _ _ ⟨(blk_cell BK339.out 0).trans rfl, (blk_cell BK339.out 1).trans rfl, (blk_cell BK340.out 0).trans rfl, (blk_cell BK340.out 1).trans rfl⟩ (fun hHeld => ?_)
  clear hK K
  refine norm_ (a' := ?_) ?_ ?_
  rotate_left
  ·show Act.put _ (some 21) _ = _
   simp only [Act.put, List.setIfInBounds_toArray, List.set_cons_zero, List.set_cons_succ, i64_w, i32_w]
   rfl
  refine one_ (i := 3) (N := some 22) #[true, true, true, true, false, false, false] rfl rfl (by kernel_rfl) (by decide) (fun K hK => ?_)
  refine goes_ Tryz.func88 (by kernel_rfl) rfl #[.agg #[.bool t330, .slice Ao13 t331.length co13], .agg #[.bool t341, .slice Ao19 t342.length co19]] (by rfl) rfl rfl (by (try simp only [List.map_toArray, List.map_cons, List.map_nil]); first | done | rfl | (simp only [List.length_drop, List.length_take]; rfl)) ?_
  with_reducible refine (bIsum.calls k t330 _ _ t331 t341 _ _ t342 t345 t346 _ ?side1 ?side2 ?side3 ?side4 A6.out).mono ?_
  (case side1 => exact cq (Kd.R_reads' HO333.out).2.2)
  (case side2 => exact (Kd.R_reads' HO333.out).2.1)
  (case side3 => exact cq (Kd.R_reads' HO344.out).2.2)
  (case side4 => exact (Kd.R_reads' HO344.out).2.1)
  rintro e w20 ⟨v347, rfl, ho0, hb⟩
  refine ⟨_, rfl, ?_⟩
  have HO348 := Z0.mk (Kd.R_lower (Kd.R_new' (Kd.R_new' ho0 (Kd.R_lt (rq HO333))) (Kd.R_lt (rq HO344))) (below_size bqs))
  replace HO333 := Z0.mk (Kd.R_elder' (rq HO333) (Kd.R_base ho0) hb)
  replace HO344 := Z0.mk (Kd.R_elder' (rq HO344) (Kd.R_base ho0) hb)
  replace BK339 := fk BK339 hb
  replace BK340 := fk BK340 hb
  replace HB := fB HB hb
  (try clear hb)
  (try clear hb2)
  (try clear hk)
  (try clear hi)
  (try clear ho0)
  obtain ⟨Ao21, co21, eo21⟩ := Kd.R_slice HO348.out
  (first | subst eo21 | (injection eo21 with f1_ f2_ f3_; have f4_ := f1_.symm; have f5_ := f3_.symm; clear f1_ f2_ f3_; subst f4_; subst f5_))
  refine hK.out _ _ ⟨(blk_cell BK339.out 0).trans rfl, (blk_cell BK339.out 1).trans rfl, (blk_cell BK340.out 0).trans rfl, (blk_cell BK340.out 1).trans rfl⟩ (fun hHeld => ?_)
  clear hK K
  refine norm_ (a' := ?_) ?_ ?_
  rotate_left
  ·show Act.put _ (some 22) _ = _
   simp only [Act.put, List.setIfInBounds_toArray, List.set_cons_zero, List.set_cons_succ, i64_w, i32_w]
   rfl
  refine one_ (i := 4) (N := some 23) #[true, true, true, true, true, false, false] rfl rfl (by kernel_rfl) (by decide) (fun K hK => ?_)
  refine goes_ Tryz.func105 (by kernel_rfl) rfl #[.agg #[.bool t345, .slice Ao21 t346.length co21]] (by rfl) rfl rfl (by (try simp only [List.map_toArray, List.map_cons, List.map_nil]); first | done | rfl | (simp only [List.length_drop, List.length_take]; rfl)) ?_
  with_reducible refine (bIsign.calls t345 _ _ t346 t349 _ ?side1 ?side2 A7.out).mono ?_
  (case side1 => exact cq (Kd.R_reads' HO348.out).2.2)
  (case side2 => exact (Kd.R_reads' HO348.out).2.1)
  rintro e w22 ⟨rfl, hb⟩
  refine ⟨_, rfl, ?_⟩
  replace HO333 := fR HO333 hb
  replace HO344 := fR HO344 hb
  replace HO348 := fR HO348 hb
  replace BK339 := fk BK339 hb
  replace BK340 := fk BK340 hb
  replace HB := fB HB hb
  (try clear hb)
  (try clear hb2)
  (try clear hk)
  (try clear hi)
  refine hK.out _ _ ⟨(blk_cell BK339.out 0).trans rfl, (blk_cell BK339.out 1).trans rfl, (blk_cell BK340.out 0).trans rfl, (blk_cell BK340.out 1).trans rfl⟩ (fun hHeld => ?_)
  clear hK K
  refine norm_ (a' := ?_) ?_ ?_
  rotate_left
  ·show Act.put _ (some 23) _ = _
   simp only [Act.put, List.setIfInBounds_toArray, List.set_cons_zero, List.set_cons_succ, i64_w, i32_w]
   rfl
  refine pure_ (i := 5) (N := some 4) (v := ?_) (a' := ?_) #[true, true, true, true, true, true, false] rfl rfl (by kernel_rfl) (fun _ _ _ h => h) (Or.inl ⟨by rfl, ?_⟩) ?_ ?_
  rotate_left
  ·intro w'
   go_simp
   with_reducible rfl
  rotate_left
  ·simp only [Act.put, List.setIfInBounds_toArray, List.set_cons_zero, List.set_cons_succ, i64_w, i32_w]
   rfl
  refine pure_ (i := 6) (N := some 5) (v := ?_) (a' := ?_) #[true, true, true, true, true, true, true] rfl rfl (by kernel_rfl) (fun _ _ _ h => h) (Or.inl ⟨by rfl, ?_⟩) ?_ ?_
  rotate_left
  ·intro w'
   go_simp
   with_reducible rfl
  rotate_left
  ·simp only [Act.put, List.setIfInBounds_toArray, List.set_cons_zero, List.set_cons_succ, i64_w, i32_w]
   rfl
  refine done_ (by kernel_rfl) ?_
  try go_wp2
  go_ret2
  exact finE
 simp only [Option.some.injEq, Prod.mk.injEq] at H
 obtain ⟨rfl, rfl⟩ := H
 go_enter Tryz.func63, Tryz.ntmps63
 go_wp2_with (first | ((with_reducible refine gc_ 86 rfl ?_); refine gL 12 Tryz.func86 (bIpair.calls _ _ _ _ _ _ _ _ _ A3.out) ?_; rintro _ w23 ⟨v332, v336, rfl, ho0, ho1, hb⟩; refine ⟨_, rfl, ?_⟩; have HO333 := fN ho0; have HO337 := fN ho1; replace HB := fB HB hb; clear hb ho0 ho1) | ((with_reducible refine gd_ 6 rfl ?_); refine bxE 6 #[.bool false, .slice none 0 0] 88 ?_; intro gb339 hg w24 hbox hb; have BK339 := Z0.mk hbox; have GW339 := fE HB hg; have GE339 := fE HB hg; replace HO333 := fR HO333 hb; replace HO337 := fR HO337 hb; replace HB := fB HB hb; clear hb hbox hg) | ((with_reducible refine gd_ 7 rfl ?_); refine bxE 7 #[.bool false, .slice none 0 0] 88 ?_; intro gb340 hg w25 hbox hb; have BK340 := Z0.mk hbox; have GW340 := fE HB hg; have GE340 := fE HB hg; have NB339_340 := fl BK339 hg; have NB340_339 := fg BK339 hg; replace HO333 := fR HO333 hb; replace HO337 := fR HO337 hb; replace BK339 := fk BK339 hb; replace HB := fB HB hb; clear hb hbox hg; have hnb26 := NB339_340.out; have hnc26 := NB340_339.out; obtain ⟨hcz27_0, hcz27_1, hfz27_0, hfz27_1⟩ := b2 BK339; obtain ⟨Ao28, co28, eo28⟩ := Kd.R_slice HO333.out; subst eo28; obtain ⟨hcz29_0, hcz29_1, hfz29_0, hfz29_1⟩ := b2 BK340; obtain ⟨Ao30, co30, eo30⟩ := Kd.R_slice HO337.out; subst eo30))
 go_ret2
 exact finE
def bIproduct.T1 : Bool × List (List Nat × List Nat) := (true, [([], []), ([0], [0]), ([], []), ([2], [2]), ([1, 3], [1, 3]), ([], []), ([5], [5]), ([], []), ([7], [7]), ([6, 8], [6, 8]), ([4, 9], [4, 9]), ([10, 9, 0, 1, 2, 3, 4, 5, 6, 7, 8, 9, 10], [10])])
def bIproduct.B1 : List Nat := [0, 1, 0, 4, 15, 0, 32, 0, 128, 480, 1023, 2047]
theorem bIproduct.tab1 : rtab .any (opsOf Tryz.f96 1) = bIproduct.T1 := by kernel_rfl
theorem bIproduct.bits1 : waitsOk bIproduct.T1.2 bIproduct.B1 = true := by kernel_rfl
theorem bIproduct.calls (k : Nat) (a0_0 : Bool) (A0_1 : Option Addr) (c0_1 : Nat) (l0_1 : List Int) (a1_0 : Bool) (A1_1 : Option Addr) (c1_1 : Nat) (l1_1 : List Int) (r1 : Bool) (r2 : List Int) (w : World) (hr0_1 : Kd.C (Kd.int .i64) w A0_1 l0_1.length l0_1) (hc0_1 : l0_1.length ≤ c0_1) (hr1_1 : Kd.C (Kd.int .i64) w A1_1 l1_1.length l1_1) (hc1_1 : l1_1.length ≤ c1_1) (h : bIproduct.f k a0_0 l0_1 a1_0 l1_1 = some (r1, r2)) :
  Calls Tryz.prog 96 #[.agg #[.bool a0_0, .slice A0_1 l0_1.length c0_1], .agg #[.bool a1_0, .slice A1_1 l1_1.length c1_1]] w fun e w' => ∃ v1_ : Value, e = .returned (.agg #[.bool r1, v1_]) ∧ Kd.R (Kd.int .i64) 3 w' w.heap.size (fun _ => True) v1_ r2 ∧ Below w.heap.size w w' := by
 have hu88 := Tryz.underlying88
 have HR0_1 := Z0.mk hr0_1
 have HC0_1 := Z0.mk hc0_1
 clear hr0_1 hc0_1
 have HR1_1 := Z0.mk hr1_1
 have HC1_1 := Z0.mk hc1_1
 clear hr1_1 hc1_1
 have HB := Z0.mk (Below.refl w.heap.size w)
 have H := h
 clear h
 unfold bIproduct.f at H
 obtain ⟨t376, A3, H⟩ := bnd H
 simp only [Option.some.injEq, Prod.mk.injEq] at H
 obtain ⟨rfl, rfl⟩ := H
 go_enter Tryz.func96, Tryz.ntmps96
 try go_wp2_with (first | ((with_reducible refine gd_ 2 rfl ?_); refine bxE 2 #[.bool a0_0, .slice A0_1 l0_1.length c0_1] 88 ?_; intro gb373 hg w4 hbox hb; have BK373 := Z0.mk hbox; have GW373 := fE HB hg; have GE373 := fE HB hg; replace HB := fB HB hb; clear hb hbox hg) | ((with_reducible refine gd_ 3 rfl ?_); refine bxE 3 #[.bool a1_0, .slice A1_1 l1_1.length c1_1] 88 ?_; intro gb374 hg w5 hbox hb; have BK374 := Z0.mk hbox; have GW374 := fE HB hg; have GE374 := fE HB hg; have NB373_374 := fl BK373 hg; have NB374_373 := fg BK373 hg; replace BK373 := fk BK373 hb; replace HB := fB HB hb; clear hb hbox hg) | ((with_reducible refine gd_ 4 rfl ?_); refine bxE 4 #[.bool false, .slice none 0 0] 88 ?_; intro gb375 hg w6 hbox hb; have BK375 := Z0.mk hbox; have GW375 := fE HB hg; have GE375 := fE HB hg; have NB373_375 := fl BK373 hg; have NB375_373 := fg BK373 hg; have NB374_375 := fl BK374 hg; have NB375_374 := fg BK374 hg; replace BK373 := fk BK373 hb; replace BK374 := fk BK374 hb; replace HB := fB HB hb; clear hb hbox hg))
 replace BK373 := Z0.mk (blk_drew BK373.out)
 replace BK374 := Z0.mk (blk_drew BK374.out)
 replace BK375 := Z0.mk (blk_drew BK375.out)
 replace HB := Z0.mk (below_drew1 HB.out)
 refine start_ (n := 12) (S := fun w' => w'.cell? ⟨gb373, 0, none⟩ = some (.bool a0_0) ∧ w'.cell? ⟨gb373, 1, none⟩ = some (.slice A0_1 l0_1.length c0_1) ∧ w'.cell? ⟨gb374, 0, none⟩ = some (.bool a1_0) ∧ w'.cell? ⟨gb374, 1, none⟩ = some (.slice A1_1 l1_1.length c1_1)) (ds := []) #[false, false, false, false, false, false, false, false, false, false, false, false] (by kernel_rfl) rfl rfl ⟨(blk_cell BK373.out 0).trans rfl, (blk_cell BK373.out 1).trans rfl, (blk_cell BK374.out 0).trans rfl, (blk_cell BK374.out 1).trans rfl⟩ (fun hHeld => ?_); refine with_tabW bIproduct.tab1 bIproduct.bits1 (fun HT_ HW_ => ?_)
 generalize w6.drew = w7 at BK373 BK374 BK375 HB hHeld ⊢
 refine pure_ (i := 0) (N := some 5) (v := ?_) (a' := ?_) #[true, false, false, false, false, false, false, false, false, false, false, false] rfl rfl (any_of HT_.out (by kernel_rfl)) (fun _ _ _ h => h) (Or.inl ⟨by rfl, ?_⟩) ?_ ?_
 rotate_left
 ·intro w'
  go_simp
  with_reducible rfl
 rotate_left
 ·simp only [Act.put, List.setIfInBounds_toArray, List.set_cons_zero, List.set_cons_succ, i64_w, i32_w]
  rfl
 refine pure_ (i := 2) (N := some 7) (v := ?_) (a' := ?_) #[true, false, true, false, false, false, false, false, false, false, false, false] rfl rfl (any_of HT_.out (by kernel_rfl)) (fun _ _ _ h => h) (Or.inl ⟨by rfl, ?_⟩) ?_ ?_
 rotate_left
 ·intro w'
  go_simp
  with_reducible rfl
 rotate_left
 ·simp only [Act.put, List.setIfInBounds_toArray, List.set_cons_zero, List.set_cons_succ, i64_w, i32_w]
  rfl
 refine pure_ (i := 5) (N := some 10) (v := ?_) (a' := ?_) #[true, false, true, false, false, true, false, false, false, false, false, false] rfl rfl (any_of HT_.out (by kernel_rfl)) (fun _ _ _ h => h) (Or.inl ⟨by rfl, ?_⟩) ?_ ?_
 rotate_left
 ·intro w'
  go_simp
  with_reducible rfl
 rotate_left
 ·simp only [Act.put, List.setIfInBounds_toArray, List.set_cons_zero, List.set_cons_succ, i64_w, i32_w]
  rfl
 refine pure_ (i := 7) (N := some 12) (v := ?_) (a' := ?_) #[true, false, true, false, false, true, false, true, false, false, false, false] rfl rfl (any_of HT_.out (by kernel_rfl)) (fun _ _ _ h => h) (Or.inl ⟨by rfl, ?_⟩) ?_ ?_
 rotate_left
 ·intro w'
  go_simp
  with_reducible rfl
 rotate_left
 ·simp only [Act.put, List.setIfInBounds_toArray, List.set_cons_zero, List.set_cons_succ, i64_w, i32_w]
  rfl
 refine take_ (i := 1) (N := some 6) (v := ?_) (a' := ?_) #[true, true, true, false, false, true, false, true, false, false, false, false] rfl rfl (take_ofW HT_.out HW_.out (by kernel_rfl)) (fun _ _ _ h => h) (Or.inl ⟨by rfl, ?_⟩) hHeld ?_ ?_
 rotate_left
 ·rintro w' ⟨s0, s1, s2, s3⟩
  go_simp
  with_reducible rfl
 rotate_left
 ·simp only [Act.put, List.setIfInBounds_toArray, List.set_cons_zero, List.set_cons_succ, i64_w, i32_w]
  rfl
 refine take_ (i := 3) (N := some 8) (v := ?_) (a' := ?_) #[true, true, true, true, false, true, false, true, false, false, false, false] rfl rfl (take_ofW HT_.out HW_.out (by kernel_rfl)) (fun _ _ _ h => h) (Or.inl ⟨by rfl, ?_⟩) hHeld ?_ ?_
 rotate_left
 ·rintro w' ⟨s0, s1, s2, s3⟩
  go_simp
  with_reducible rfl
 rotate_left
 ·simp only [Act.put, List.setIfInBounds_toArray, List.set_cons_zero, List.set_cons_succ, i64_w, i32_w]
  rfl
 refine pure_ (i := 4) (N := some 9) (v := ?_) (a' := ?_) #[true, true, true, true, true, true, false, true, false, false, false, false] rfl rfl (any_of HT_.out (by kernel_rfl)) (fun _ _ _ h => h) (Or.inl ⟨by rfl, ?_⟩) ?_ ?_
 rotate_left
 ·intro w'
  go_simp
  with_reducible rfl
 rotate_left
 ·simp only [Act.put, List.setIfInBounds_toArray, List.set_cons_zero, List.set_cons_succ, i64_w, i32_w]
  rfl
 refine take_ (i := 6) (N := some 11) (v := ?_) (a' := ?_) #[true, true, true, true, true, true, true, true, false, false, false, false] rfl rfl (take_ofW HT_.out HW_.out (by kernel_rfl)) (fun _ _ _ h => h) (Or.inl ⟨by rfl, ?_⟩) hHeld ?_ ?_
 rotate_left
 ·rintro w' ⟨s0, s1, s2, s3⟩
  go_simp
  with_reducible rfl
 rotate_left
 ·simp only [Act.put, List.setIfInBounds_toArray, List.set_cons_zero, List.set_cons_succ, i64_w, i32_w]
  rfl
 refine take_ (i := 8) (N := some 13) (v := ?_) (a' := ?_) #[true, true, true, true, true, true, true, true, true, false, false, false] rfl rfl (take_ofW HT_.out HW_.out (by kernel_rfl)) (fun _ _ _ h => h) (Or.inl ⟨by rfl, ?_⟩) hHeld ?_ ?_
 rotate_left
 ·rintro w' ⟨s0, s1, s2, s3⟩
  go_simp
  with_reducible rfl
 rotate_left
 ·simp only [Act.put, List.setIfInBounds_toArray, List.set_cons_zero, List.set_cons_succ, i64_w, i32_w]
  rfl
 refine one_ (i := 9) (N := some 14) #[true, true, true, true, true, true, true, true, true, true, false, false] rfl rfl (one_of HT_.out (by kernel_rfl)) (by decide) (fun K hK => ?_)
 refine goes_ Tryz.func109 (by kernel_rfl) rfl #[.slice A0_1 l0_1.length c0_1, .slice A1_1 l1_1.length c1_1] (by rfl) rfl rfl (by (try simp only [List.map_toArray, List.map_cons, List.map_nil]); first | done | rfl | (simp only [List.length_drop, List.length_take]; rfl)) ?_
 with_reducible refine (bItimes.calls k _ _ l0_1 _ _ l1_1 t376 _ ?side1 ?side2 ?side3 ?side4 A3.out).mono ?_
 (case side1 => exact cq (Kd.C_below HR0_1.out HB.out))
 (case side2 => exact HC0_1.out)
 (case side3 => exact cq (Kd.C_below HR1_1.out HB.out))
 (case side4 => exact HC1_1.out)
 rintro e w8 ⟨v377, rfl, ho0, hb⟩
 refine ⟨_, rfl, ?_⟩
 have HO378 := fN ho0
 replace BK373 := fk BK373 hb
 replace BK374 := fk BK374 hb
 replace BK375 := fk BK375 hb
 replace HB := fB HB hb
 (try clear hb)
 (try clear hb2)
 (try clear hk)
 (try clear hi)
 (try clear ho0)
 obtain ⟨Ao9, co9, eo9⟩ := Kd.R_slice HO378.out
 (first | subst eo9 | (injection eo9 with f1_ f2_ f3_; have f4_ := f1_.symm; have f5_ := f3_.symm; clear f1_ f2_ f3_; subst f4_; subst f5_))
 refine hK.out _ _ ⟨(blk_cell BK373.out 0).trans rfl, (blk_cell BK373.out 1).trans rfl, (blk_cell BK374.out 0).trans rfl, (blk_cell BK374.out 1).trans rfl⟩ (fun hHeld => ?_)
 clear hK K
 refine norm_ (a' := ?_) ?_ ?_
 rotate_left
 ·show Act.put _ (some 14) _ = _
  simp only [Act.put, List.setIfInBounds_toArray, List.set_cons_zero, List.set_cons_succ, i64_w, i32_w]
  rfl
 refine pure_ (i := 10) (N := some 15) (v := ?_) (a' := ?_) #[true, true, true, true, true, true, true, true, true, true, true, false] rfl rfl (any_of HT_.out (by kernel_rfl)) (fun _ _ _ h => h) (Or.inl ⟨by rfl, ?_⟩) ?_ ?_
 rotate_left
 ·intro w'
  go_simp
  with_reducible rfl
 rotate_left
 ·simp only [Act.put, List.setIfInBounds_toArray, List.set_cons_zero, List.set_cons_succ, i64_w, i32_w]
  rfl
 refine one_ (i := 11) (N := none) #[true, true, true, true, true, true, true, true, true, true, true, true] rfl rfl (one_of HT_.out (by kernel_rfl)) (by decide) (fun K hK => ?_)
 have hs10 : w8.cell? ⟨gb375, 0, none⟩ = some (.bool false) := (blk_cell BK375.out 0).trans rfl
 have hfs10 := blk_frozen BK375.out 0
 have hns10_0 := NB373_375.out
 have hns10_1 := NB374_375.out
 have hms10_0 := NB375_373.out
 have hms10_1 := NB375_374.out
 have hs11 : w8.cell? ⟨gb375, 1, none⟩ = some (.slice none 0 0) := (blk_cell BK375.out 1).trans rfl
 have hfs11 := blk_frozen BK375.out 1
 have hns11_0 := NB373_375.out
 have hns11_1 := NB374_375.out
 have hms11_0 := NB375_373.out
 have hms11_1 := NB375_374.out
 refine skip_ (w1 := ?_) (by rfl) rfl ?_ ?_
 rotate_left
 ·go_simp
  rfl
 refine hK.out _ _ ⟨((cell_far (p := ⟨gb375, _, none⟩) NB373_375.out _).trans (((cell_far (p := ⟨gb375, _, none⟩) NB373_375.out _).trans (hHeld.1)))), ((cell_far (p := ⟨gb375, _, none⟩) NB373_375.out _).trans (((cell_far (p := ⟨gb375, _, none⟩) NB373_375.out _).trans (hHeld.2.1)))), ((cell_far (p := ⟨gb375, _, none⟩) NB374_375.out _).trans (((cell_far (p := ⟨gb375, _, none⟩) NB374_375.out _).trans (hHeld.2.2.1)))), ((cell_far (p := ⟨gb375, _, none⟩) NB374_375.out _).trans (((cell_far (p := ⟨gb375, _, none⟩) NB374_375.out _).trans (hHeld.2.2.2))))⟩ (fun hHeld => ?_)
 clear hK K
 refine done_ (done_of HT_.out (by kernel_rfl)) ?_
 try go_wp2
 refine bodyPost_ret (results_cell_row rfl _ _ gb375 88 #[.bool (a0_0 != a1_0), .slice Ao9 t376.length co9] (0, 0) _ rfl (by (with_reducible repeat (first | refine blk_drewN ?_ _ | refine blk_drew ?_ | refine blk_alloc ?_ _)); refine blk_put (cs := #[.bool (a0_0 != a1_0), .slice none 0 0]) ?_ 1 _ rfl; (with_reducible repeat (first | refine blk_drewN ?_ _ | refine blk_drew ?_ | refine blk_alloc ?_ _)); refine blk_put (cs := #[.bool false, .slice none 0 0]) ?_ 0 _ rfl; (with_reducible repeat (first | refine blk_drewN ?_ _ | refine blk_drew ?_ | refine blk_alloc ?_ _)); exact BK375.out) Tryz.underlying88 rfl (by kernel_rfl)) rfl ?_
 exact ⟨_, fe, by (with_reducible repeat (first | apply Kd.R_alloc | apply Kd.R_drewN | apply Kd.R_drew)); exact Kd.R_mono (Kd.R_far (p := ⟨gb375, 1, none⟩) (Kd.R_far (p := ⟨gb375, 0, none⟩) (Kd.R_types HO378.out BK375.out (by decide)) (fun _ hk => hk.2) (.bool (a0_0 != a1_0))) (fun _ hk => hk.2) (.slice Ao9 t376.length co9)) (fun _ hk => trivial), bqs⟩
theorem bIMul.calls (k : Nat) (a0 : ByteArray) (a1 : ByteArray) (r1 : ByteArray) (r2 : Int) (w : World) (hL : LaidW w) (h : bIMul.f k a0 a1 = some (r1, r2)) :
  Calls Tryz.prog 39 #[.string a0, .string a1] w fun e w' => e = .returned (.tuple #[.string r1, .int .i64 r2]) ∧ Below w.heap.size w w' := by
 have hu88 := Tryz.underlying88
 have HB := Z0.mk (Below.refl w.heap.size w)
 have H := h
 clear h
 unfold bIMul.f at H
 obtain ⟨⟨t379, t380, t383, t384, t387⟩, A3, H⟩ := bnd H
 try dsimp only at H
 rcases je H with ⟨-, c4b0, c4b1, H⟩ | ⟨c4, c4b0, c4b1, H⟩
 ·obtain ⟨⟨t390, t391⟩, A5, H⟩ := bnd H
  try dsimp only at H
  obtain ⟨⟨t394, t395⟩, A6, H⟩ := bnd H
  try dsimp only at H
  simp only [Option.some.injEq, Prod.mk.injEq] at H
  obtain ⟨rfl, rfl⟩ := H
  go_enter Tryz.func39, Tryz.ntmps39
  go_wp2_with (first | ((with_reducible refine gc_ 86 rfl ?_); refine gL 12 Tryz.func86 (bIpair.calls _ _ _ _ _ _ _ _ _ A3.out) ?_; rintro _ w7 ⟨v381, v385, rfl, ho0, ho1, hb⟩; refine ⟨_, rfl, ?_⟩; have HO382 := fN ho0; have HO386 := fN ho1; replace HB := fB HB hb; clear hb ho0 ho1) | ((with_reducible refine gd_ 6 rfl ?_); refine bxE 6 #[.bool false, .slice none 0 0] 88 ?_; intro gb388 hg w8 hbox hb; have BK388 := Z0.mk hbox; have GW388 := fE HB hg; have GE388 := fE HB hg; replace HO382 := fR HO382 hb; replace HO386 := fR HO386 hb; replace HB := fB HB hb; clear hb hbox hg) | ((with_reducible refine gd_ 7 rfl ?_); refine bxE 7 #[.bool false, .slice none 0 0] 88 ?_; intro gb389 hg w9 hbox hb; have BK389 := Z0.mk hbox; have GW389 := fE HB hg; have GE389 := fE HB hg; have NB388_389 := fl BK388 hg; have NB389_388 := fg BK388 hg; replace HO382 := fR HO382 hb; replace HO386 := fR HO386 hb; replace BK388 := fk BK388 hb; replace HB := fB HB hb; clear hb hbox hg; have hnb10 := NB388_389.out; have hnc10 := NB389_388.out; obtain ⟨hcz11_0, hcz11_1, hfz11_0, hfz11_1⟩ := b2 BK388; obtain ⟨Ao12, co12, eo12⟩ := Kd.R_slice HO382.out; subst eo12; obtain ⟨hcz13_0, hcz13_1, hfz13_0, hfz13_1⟩ := b2 BK389; obtain ⟨Ao14, co14, eo14⟩ := Kd.R_slice HO386.out; subst eo14) | ((with_reducible refine gc_ 96 rfl ?_); refine goesL_ (some 21) rfl rfl Tryz.func96 (by kernel_rfl) rfl #[.agg #[.bool t379, .slice Ao12 t380.length co12], .agg #[.bool t383, .slice Ao14 t384.length co14]] rfl (by (try simp only [List.map_toArray, List.map_cons, List.map_nil]); first | done | rfl | (simp only [List.length_drop, List.length_take]; rfl)) ?_; (with_reducible refine (bIproduct.calls k t379 _ _ t380 t383 _ _ t384 t390 t391 _ ?side1 ?side2 ?side3 ?side4 A5.out).mono ?_); (case side1 => refine (Kd.R_reads' (e := 3) (base := w.heap.size) (ok := fun k_ => some k_ ≠ (.slice Ao14 t384.length co14 : Value).ownBlock) (n := t380.length) (c := co12) ?_).2.2; exact (by (with_reducible repeat (first | apply Kd.R_alloc | apply Kd.R_drewN | apply Kd.R_drew)); exact (Kd.R_mono (Kd.R_mono (Kd.R_far (p := ⟨gb389, 1, none⟩) (Kd.R_far (p := ⟨gb389, 0, none⟩) (Kd.R_far (p := ⟨gb388, 1, none⟩) (Kd.R_far (p := ⟨gb388, 0, none⟩) (Kd.R_types (Kd.R_types HO382.out BK388.out (by decide)) BK389.out (by decide)) (fun _ hk => hk.1.2) (.bool t379)) (fun _ hk => hk.1.2) (.slice Ao12 t380.length co12)) (fun _ hk => hk.2) (.bool t383)) (fun _ hk => hk.2) (.slice Ao14 t384.length co14)) (fun _ h_ => h_.1)) (fun _ h_ => h_.1)))); (case side2 => exact (Kd.R_reads' HO382.out).2.1); (case side3 => refine (Kd.R_reads' (e := 3) (base := w.heap.size) (ok := fun k_ => some k_ ≠ (.slice Ao12 t380.length co12 : Value).ownBlock) (n := t384.length) (c := co14) ?_).2.2; exact (by (with_reducible repeat (first | apply Kd.R_alloc | apply Kd.R_drewN | apply Kd.R_drew)); exact (Kd.R_mono (Kd.R_mono (Kd.R_far (p := ⟨gb389, 1, none⟩) (Kd.R_far (p := ⟨gb389, 0, none⟩) (Kd.R_far (p := ⟨gb388, 1, none⟩) (Kd.R_far (p := ⟨gb388, 0, none⟩) (Kd.R_types (Kd.R_types HO386.out BK388.out (by decide)) BK389.out (by decide)) (fun _ hk => hk.1.2) (.bool t379)) (fun _ hk => hk.1.2) (.slice Ao12 t380.length co12)) (fun _ hk => hk.2) (.bool t383)) (fun _ hk => hk.2) (.slice Ao14 t384.length co14)) (fun _ h_ => h_.1)) (fun _ h_ => h_.1)))); (case side4 => exact (Kd.R_reads' HO386.out).2.1); rintro e w15 ⟨v392, rfl, ho0, hb⟩; refine ⟨_, rfl, ?_⟩; have HO393 := Z0.mk (Kd.R_lower (Kd.R_new' (Kd.R_new' ho0 (Kd.R_lt (by (with_reducible repeat (first | apply Kd.R_alloc | apply Kd.R_drewN | apply Kd.R_drew)); exact (Kd.R_mono (Kd.R_mono (Kd.R_far (p := ⟨gb389, 1, none⟩) (Kd.R_far (p := ⟨gb389, 0, none⟩) (Kd.R_far (p := ⟨gb388, 1, none⟩) (Kd.R_far (p := ⟨gb388, 0, none⟩) (Kd.R_types (Kd.R_types HO382.out BK388.out (by decide)) BK389.out (by decide)) (fun _ hk => hk.1.2) (.bool t379)) (fun _ hk => hk.1.2) (.slice Ao12 t380.length co12)) (fun _ hk => hk.2) (.bool t383)) (fun _ hk => hk.2) (.slice Ao14 t384.length co14)) (fun _ h_ => h_.1)) (fun _ h_ => h_.1))))) (Kd.R_lt (by (with_reducible repeat (first | apply Kd.R_alloc | apply Kd.R_drewN | apply Kd.R_drew)); exact (Kd.R_mono (Kd.R_mono (Kd.R_far (p := ⟨gb389, 1, none⟩) (Kd.R_far (p := ⟨gb389, 0, none⟩) (Kd.R_far (p := ⟨gb388, 1, none⟩) (Kd.R_far (p := ⟨gb388, 0, none⟩) (Kd.R_types (Kd.R_types HO386.out BK388.out (by decide)) BK389.out (by decide)) (fun _ hk => hk.1.2) (.bool t379)) (fun _ hk => hk.1.2) (.slice Ao12 t380.length co12)) (fun _ hk => hk.2) (.bool t383)) (fun _ hk => hk.2) (.slice Ao14 t384.length co14)) (fun _ h_ => h_.1)) (fun _ h_ => h_.1))))) (below_size bqs)); replace HO382 := Z0.mk (Kd.R_elder' (by (with_reducible repeat (first | apply Kd.R_alloc | apply Kd.R_drewN | apply Kd.R_drew)); exact (Kd.R_mono (Kd.R_mono (Kd.R_far (p := ⟨gb389, 1, none⟩) (Kd.R_far (p := ⟨gb389, 0, none⟩) (Kd.R_far (p := ⟨gb388, 1, none⟩) (Kd.R_far (p := ⟨gb388, 0, none⟩) (Kd.R_types (Kd.R_types HO382.out BK388.out (by decide)) BK389.out (by decide)) (fun _ hk => hk.1.2) (.bool t379)) (fun _ hk => hk.1.2) (.slice Ao12 t380.length co12)) (fun _ hk => hk.2) (.bool t383)) (fun _ hk => hk.2) (.slice Ao14 t384.length co14)) (fun _ h_ => h_.1)) (fun _ h_ => h_.1))) (Kd.R_base ho0) hb); replace HO386 := Z0.mk (Kd.R_elder' (by (with_reducible repeat (first | apply Kd.R_alloc | apply Kd.R_drewN | apply Kd.R_drew)); exact (Kd.R_mono (Kd.R_mono (Kd.R_far (p := ⟨gb389, 1, none⟩) (Kd.R_far (p := ⟨gb389, 0, none⟩) (Kd.R_far (p := ⟨gb388, 1, none⟩) (Kd.R_far (p := ⟨gb388, 0, none⟩) (Kd.R_types (Kd.R_types HO386.out BK388.out (by decide)) BK389.out (by decide)) (fun _ hk => hk.1.2) (.bool t379)) (fun _ hk => hk.1.2) (.slice Ao12 t380.length co12)) (fun _ hk => hk.2) (.bool t383)) (fun _ hk => hk.2) (.slice Ao14 t384.length co14)) (fun _ h_ => h_.1)) (fun _ h_ => h_.1))) (Kd.R_base ho0) hb); replace BK388 := Z0.mk (blk_below (g := gb388) (o := .cells #[.bool t379, .slice Ao12 t380.length co12] 88 (0, 0)) (by (with_reducible repeat (first | refine blk_drewN ?_ _ | refine blk_drew ?_ | refine blk_alloc ?_ _)); refine blk_far ?_ NB388_389.out _; (with_reducible repeat (first | refine blk_drewN ?_ _ | refine blk_drew ?_ | refine blk_alloc ?_ _)); refine blk_far ?_ NB388_389.out _; (with_reducible repeat (first | refine blk_drewN ?_ _ | refine blk_drew ?_ | refine blk_alloc ?_ _)); refine blk_put (cs := #[.bool t379, .slice none 0 0]) ?_ 1 _ rfl; (with_reducible repeat (first | refine blk_drewN ?_ _ | refine blk_drew ?_ | refine blk_alloc ?_ _)); refine blk_put (cs := #[.bool false, .slice none 0 0]) ?_ 0 _ rfl; (with_reducible repeat (first | refine blk_drewN ?_ _ | refine blk_drew ?_ | refine blk_alloc ?_ _)); exact BK388.out) hb); replace BK389 := Z0.mk (blk_below (g := gb389) (o := .cells #[.bool t383, .slice Ao14 t384.length co14] 88 (0, 0)) (by (with_reducible repeat (first | refine blk_drewN ?_ _ | refine blk_drew ?_ | refine blk_alloc ?_ _)); refine blk_put (cs := #[.bool t383, .slice none 0 0]) ?_ 1 _ rfl; (with_reducible repeat (first | refine blk_drewN ?_ _ | refine blk_drew ?_ | refine blk_alloc ?_ _)); refine blk_put (cs := #[.bool false, .slice none 0 0]) ?_ 0 _ rfl; (with_reducible repeat (first | refine blk_drewN ?_ _ | refine blk_drew ?_ | refine blk_alloc ?_ _)); refine blk_far ?_ NB389_388.out _; (with_reducible repeat (first | refine blk_drewN ?_ _ | refine blk_drew ?_ | refine blk_alloc ?_ _)); refine blk_far ?_ NB389_388.out _; (with_reducible repeat (first | refine blk_drewN ?_ _ | refine blk_drew ?_ | refine blk_alloc ?_ _)); exact BK389.out) hb); replace HB := fB HB hb; clear hb ho0; obtain ⟨Ao16, co16, eo16⟩ := Kd.R_slice HO393.out; subst eo16) | ((with_reducible refine gc_ 87 rfl ?_); refine gL 22 Tryz.func87 (bIwritten.calls t390 _ _ t391 t394 t395 _ ?side3 ?side1 ?side2 A6.out) ?_; (case side1 => exact cq (Kd.R_reads' HO393.out).2.2); (case side2 => exact (Kd.R_reads' HO393.out).2.1); (case side3 => exact LaidW.below hL bqs); rintro _ w17 ⟨rfl, hb⟩; refine ⟨_, rfl, ?_⟩; replace HO382 := fR HO382 hb; replace HO386 := fR HO386 hb; replace HO393 := fR HO393 hb; replace BK388 := fk BK388 hb; replace BK389 := fk BK389 hb; replace HB := fB HB hb; clear hb))
  go_ret2
  exact finE
 simp only [Option.some.injEq, Prod.mk.injEq] at H
 obtain ⟨rfl, rfl⟩ := H
 go_enter Tryz.func39, Tryz.ntmps39
 go_wp2_with (first | ((with_reducible refine gc_ 86 rfl ?_); refine gL 12 Tryz.func86 (bIpair.calls _ _ _ _ _ _ _ _ _ A3.out) ?_; rintro _ w18 ⟨v381, v385, rfl, ho0, ho1, hb⟩; refine ⟨_, rfl, ?_⟩; have HO382 := fN ho0; have HO386 := fN ho1; replace HB := fB HB hb; clear hb ho0 ho1) | ((with_reducible refine gd_ 6 rfl ?_); refine bxE 6 #[.bool false, .slice none 0 0] 88 ?_; intro gb388 hg w19 hbox hb; have BK388 := Z0.mk hbox; have GW388 := fE HB hg; have GE388 := fE HB hg; replace HO382 := fR HO382 hb; replace HO386 := fR HO386 hb; replace HB := fB HB hb; clear hb hbox hg) | ((with_reducible refine gd_ 7 rfl ?_); refine bxE 7 #[.bool false, .slice none 0 0] 88 ?_; intro gb389 hg w20 hbox hb; have BK389 := Z0.mk hbox; have GW389 := fE HB hg; have GE389 := fE HB hg; have NB388_389 := fl BK388 hg; have NB389_388 := fg BK388 hg; replace HO382 := fR HO382 hb; replace HO386 := fR HO386 hb; replace BK388 := fk BK388 hb; replace HB := fB HB hb; clear hb hbox hg; have hnb21 := NB388_389.out; have hnc21 := NB389_388.out; obtain ⟨hcz22_0, hcz22_1, hfz22_0, hfz22_1⟩ := b2 BK388; obtain ⟨Ao23, co23, eo23⟩ := Kd.R_slice HO382.out; subst eo23; obtain ⟨hcz24_0, hcz24_1, hfz24_0, hfz24_1⟩ := b2 BK389; obtain ⟨Ao25, co25, eo25⟩ := Kd.R_slice HO386.out; subst eo25))
 go_ret2
 exact finE
theorem rAboth.calls (k : Nat) (a0 : ByteArray) (a1 : ByteArray) (a2 : ByteArray) (a3 : ByteArray) (r1 : ByteArray) (r2 : ByteArray) (r3 : Int) (w : World) (hL : LaidW w) (h : rAboth.f k a0 a1 a2 a3 = some (r1, r2, r3)) :
  Calls Tryz.prog 91 #[.string a0, .string a1, .string a2, .string a3] w fun e w' => e = .returned (.tuple #[.string r1, .string r2, .int .i64 r3]) ∧ Below w.heap.size w w' := by
 have HB := Z0.mk (Below.refl w.heap.size w)
 have H := h
 clear h
 unfold rAboth.f at H
 obtain ⟨⟨t396, t397⟩, A5, H⟩ := bnd H
 try dsimp only at H
 rcases je H with ⟨-, c6b0, c6b1, H⟩ | ⟨c6, c6b0, c6b1, H⟩
 ·obtain ⟨⟨t398, t399⟩, A7, H⟩ := bnd H
  try dsimp only at H
  simp only [Option.some.injEq, Prod.mk.injEq] at H
  obtain ⟨rfl, rfl, rfl⟩ := H
  go_enter Tryz.func91, Tryz.ntmps91
  go_wp2_with (first | ((with_reducible refine gc_ 39 rfl ?_); refine goB (some 17) Tryz.func39 #[.string a0, .string a1] bq (bIMul.calls k a0 a1 t396 t397 _ (hL.below bq) A5.out) ?_; clear HB; intro w8 HB) | ((with_reducible refine gc_ 39 rfl ?_); refine goB (some 26) Tryz.func39 #[.string a2, .string a3] bq (bIMul.calls k a2 a3 t398 t399 _ (hL.below bq) A7.out) ?_; clear HB; intro w9 HB))
  go_ret3
  exact finE
 simp only [Option.some.injEq, Prod.mk.injEq] at H
 obtain ⟨rfl, rfl, rfl⟩ := H
 go_enter Tryz.func91, Tryz.ntmps91
 go_wp2_with (first | ((with_reducible refine gc_ 39 rfl ?_); refine goB (some 17) Tryz.func39 #[.string a0, .string a1] bq (bIMul.calls k a0 a1 t396 t397 _ (hL.below bq) A5.out) ?_; clear HB; intro w10 HB))
 go_ret3
 exact finE
theorem rAnewPair.calls (k : Nat) (a0 : ByteArray) (a1 : ByteArray) (r1 : ByteArray) (r2 : ByteArray) (r3 : ByteArray) (r4 : ByteArray) (r5 : Int) (w : World) (hL : LaidW w) (h : rAnewPair.f k a0 a1 = some (r1, r2, r3, r4, r5)) :
  Calls Tryz.prog 90 #[.string a0, .string a1] w fun e w' => e = .returned (.tuple #[.agg #[.string r1, .string r2, .string r3, .string r4], .int .i64 r5]) ∧ Below w.heap.size w w' := by
 have hu95 := Tryz.underlying95
 have HB := Z0.mk (Below.refl w.heap.size w)
 have H := h
 clear h
 unfold rAnewPair.f at H
 obtain ⟨t367, A3, H⟩ := bnd H
 rcases je H with ⟨-, c4b0, c4b1, H⟩ | ⟨c4, c4b0, c4b1, H⟩
 ·obtain ⟨t368, A5, H⟩ := bnd H
  rcases je H with ⟨-, c6b0, c6b1, H⟩ | ⟨c6, c6b0, c6b1, H⟩
  ·obtain ⟨⟨t369, t370⟩, A7, H⟩ := bnd H
   try dsimp only at H
   obtain ⟨⟨t371, t372⟩, A8, H⟩ := bnd H
   try dsimp only at H
   simp only [Option.some.injEq, Prod.mk.injEq] at H
   obtain ⟨rfl, rfl, rfl, rfl, rfl⟩ := H
   go_enter Tryz.func90, Tryz.ntmps90
   go_wp2_with (first | ((with_reducible refine gd_ 4 rfl ?_); refine bxE 4 #[.string (⟨#[]⟩ : ByteArray), .string (⟨#[]⟩ : ByteArray), .string (⟨#[]⟩ : ByteArray), .string (⟨#[]⟩ : ByteArray)] 95 ?_; intro gb366 hg w9 hbox hb; have BK366 := Z0.mk hbox; have GW366 := fE HB hg; have GE366 := fE HB hg; replace HB := fB HB hb; clear hb hbox hg) | ((with_reducible refine gc_ 28 rfl ?_); refine gL 13 Tryz.func28 (rACheck.calls k a0 t367 _ ?side1 A3.out) ?_; (case side1 => exact LaidW.below hL bqs); rintro _ w10 ⟨rfl, hb⟩; refine ⟨_, rfl, ?_⟩; replace BK366 := fk BK366 hb; replace HB := fB HB hb; clear hb) | ((with_reducible refine gc_ 28 rfl ?_); refine gL 19 Tryz.func28 (rACheck.calls k a1 t368 _ ?side1 A5.out) ?_; (case side1 => exact LaidW.below hL bqs); rintro _ w11 ⟨rfl, hb⟩; refine ⟨_, rfl, ?_⟩; replace BK366 := fk BK366 hb; replace HB := fB HB hb; clear hb) | ((with_reducible refine gc_ 71 rfl ?_); refine gL 26 Tryz.func71 (rAsplit.calls _ _ _ _ A7.out) ?_; rintro _ w12 ⟨rfl, hb⟩; refine ⟨_, rfl, ?_⟩; replace BK366 := fk BK366 hb; replace HB := fB HB hb; clear hb) | ((with_reducible refine gc_ 71 rfl ?_); refine gL 31 Tryz.func71 (rAsplit.calls _ _ _ _ A8.out) ?_; rintro _ w13 ⟨rfl, hb⟩; refine ⟨_, rfl, ?_⟩; replace BK366 := fk BK366 hb; replace HB := fB HB hb; clear hb; obtain ⟨hcz14_0, hcz14_1, hcz14_2, hcz14_3, hfz14_0, hfz14_1, hfz14_2, hfz14_3⟩ := b4 BK366))
   refine bodyPost_ret (results_ct rfl _ _ gb366 95 #[.string t369, .string t370, .string t371, .string t372] (0, 0) _ rfl (by (with_reducible repeat (first | refine blk_drewN ?_ _ | refine blk_drew ?_ | refine blk_alloc ?_ _)); refine blk_put (cs := #[.string t369, .string t370, .string t371, .string (⟨#[]⟩ : ByteArray)]) ?_ 3 _ rfl; (with_reducible repeat (first | refine blk_drewN ?_ _ | refine blk_drew ?_ | refine blk_alloc ?_ _)); refine blk_put (cs := #[.string t369, .string t370, .string (⟨#[]⟩ : ByteArray), .string (⟨#[]⟩ : ByteArray)]) ?_ 2 _ rfl; (with_reducible repeat (first | refine blk_drewN ?_ _ | refine blk_drew ?_ | refine blk_alloc ?_ _)); refine blk_put (cs := #[.string t369, .string (⟨#[]⟩ : ByteArray), .string (⟨#[]⟩ : ByteArray), .string (⟨#[]⟩ : ByteArray)]) ?_ 1 _ rfl; (with_reducible repeat (first | refine blk_drewN ?_ _ | refine blk_drew ?_ | refine blk_alloc ?_ _)); refine blk_put (cs := #[.string (⟨#[]⟩ : ByteArray), .string (⟨#[]⟩ : ByteArray), .string (⟨#[]⟩ : ByteArray), .string (⟨#[]⟩ : ByteArray)]) ?_ 0 _ rfl; (with_reducible repeat (first | refine blk_drewN ?_ _ | refine blk_drew ?_ | refine blk_alloc ?_ _)); exact BK366.out) Tryz.underlying95 rfl (by kernel_rfl)) rfl ?_
   exact finE
  simp only [Option.some.injEq, Prod.mk.injEq] at H
  obtain ⟨rfl, rfl, rfl, rfl, rfl⟩ := H
  go_enter Tryz.func90, Tryz.ntmps90
  go_wp2_with (first | ((with_reducible refine gd_ 4 rfl ?_); refine bxE 4 #[.string (⟨#[]⟩ : ByteArray), .string (⟨#[]⟩ : ByteArray), .string (⟨#[]⟩ : ByteArray), .string (⟨#[]⟩ : ByteArray)] 95 ?_; intro gb366 hg w15 hbox hb; have BK366 := Z0.mk hbox; have GW366 := fE HB hg; have GE366 := fE HB hg; replace HB := fB HB hb; clear hb hbox hg) | ((with_reducible refine gc_ 28 rfl ?_); refine gL 13 Tryz.func28 (rACheck.calls k a0 t367 _ ?side1 A3.out) ?_; (case side1 => exact LaidW.below hL bqs); rintro _ w16 ⟨rfl, hb⟩; refine ⟨_, rfl, ?_⟩; replace BK366 := fk BK366 hb; replace HB := fB HB hb; clear hb) | ((with_reducible refine gc_ 28 rfl ?_); refine gL 19 Tryz.func28 (rACheck.calls k a1 t368 _ ?side1 A5.out) ?_; (case side1 => exact LaidW.below hL bqs); rintro _ w17 ⟨rfl, hb⟩; refine ⟨_, rfl, ?_⟩; replace BK366 := fk BK366 hb; replace HB := fB HB hb; clear hb; obtain ⟨hcz18_0, hcz18_1, hcz18_2, hcz18_3, hfz18_0, hfz18_1, hfz18_2, hfz18_3⟩ := b4 BK366))
  refine bodyPost_ret (results_ct rfl _ _ gb366 95 #[.string (⟨#[]⟩ : ByteArray), .string (⟨#[]⟩ : ByteArray), .string (⟨#[]⟩ : ByteArray), .string (⟨#[]⟩ : ByteArray)] (0, 0) _ rfl (by (with_reducible repeat (first | refine blk_drewN ?_ _ | refine blk_drew ?_ | refine blk_alloc ?_ _)); refine blk_put (cs := #[.string (⟨#[]⟩ : ByteArray), .string (⟨#[]⟩ : ByteArray), .string (⟨#[]⟩ : ByteArray), .string (⟨#[]⟩ : ByteArray)]) ?_ 3 _ rfl; (with_reducible repeat (first | refine blk_drewN ?_ _ | refine blk_drew ?_ | refine blk_alloc ?_ _)); refine blk_put (cs := #[.string (⟨#[]⟩ : ByteArray), .string (⟨#[]⟩ : ByteArray), .string (⟨#[]⟩ : ByteArray), .string (⟨#[]⟩ : ByteArray)]) ?_ 2 _ rfl; (with_reducible repeat (first | refine blk_drewN ?_ _ | refine blk_drew ?_ | refine blk_alloc ?_ _)); refine blk_put (cs := #[.string (⟨#[]⟩ : ByteArray), .string (⟨#[]⟩ : ByteArray), .string (⟨#[]⟩ : ByteArray), .string (⟨#[]⟩ : ByteArray)]) ?_ 1 _ rfl; (with_reducible repeat (first | refine blk_drewN ?_ _ | refine blk_drew ?_ | refine blk_alloc ?_ _)); refine blk_put (cs := #[.string (⟨#[]⟩ : ByteArray), .string (⟨#[]⟩ : ByteArray), .string (⟨#[]⟩ : ByteArray), .string (⟨#[]⟩ : ByteArray)]) ?_ 0 _ rfl; (with_reducible repeat (first | refine blk_drewN ?_ _ | refine blk_drew ?_ | refine blk_alloc ?_ _)); exact BK366.out) Tryz.underlying95 rfl (by kernel_rfl)) rfl ?_
  exact finE
 simp only [Option.some.injEq, Prod.mk.injEq] at H
 obtain ⟨rfl, rfl, rfl, rfl, rfl⟩ := H
 go_enter Tryz.func90, Tryz.ntmps90
 go_wp2_with (first | ((with_reducible refine gd_ 4 rfl ?_); refine bxE 4 #[.string (⟨#[]⟩ : ByteArray), .string (⟨#[]⟩ : ByteArray), .string (⟨#[]⟩ : ByteArray), .string (⟨#[]⟩ : ByteArray)] 95 ?_; intro gb366 hg w19 hbox hb; have BK366 := Z0.mk hbox; have GW366 := fE HB hg; have GE366 := fE HB hg; replace HB := fB HB hb; clear hb hbox hg) | ((with_reducible refine gc_ 28 rfl ?_); refine gL 13 Tryz.func28 (rACheck.calls k a0 t367 _ ?side1 A3.out) ?_; (case side1 => exact LaidW.below hL bqs); rintro _ w20 ⟨rfl, hb⟩; refine ⟨_, rfl, ?_⟩; replace BK366 := fk BK366 hb; replace HB := fB HB hb; clear hb; obtain ⟨hcz21_0, hcz21_1, hcz21_2, hcz21_3, hfz21_0, hfz21_1, hfz21_2, hfz21_3⟩ := b4 BK366))
 refine bodyPost_ret (results_ct rfl _ _ gb366 95 #[.string (⟨#[]⟩ : ByteArray), .string (⟨#[]⟩ : ByteArray), .string (⟨#[]⟩ : ByteArray), .string (⟨#[]⟩ : ByteArray)] (0, 0) _ rfl (by (with_reducible repeat (first | refine blk_drewN ?_ _ | refine blk_drew ?_ | refine blk_alloc ?_ _)); refine blk_put (cs := #[.string (⟨#[]⟩ : ByteArray), .string (⟨#[]⟩ : ByteArray), .string (⟨#[]⟩ : ByteArray), .string (⟨#[]⟩ : ByteArray)]) ?_ 3 _ rfl; (with_reducible repeat (first | refine blk_drewN ?_ _ | refine blk_drew ?_ | refine blk_alloc ?_ _)); refine blk_put (cs := #[.string (⟨#[]⟩ : ByteArray), .string (⟨#[]⟩ : ByteArray), .string (⟨#[]⟩ : ByteArray), .string (⟨#[]⟩ : ByteArray)]) ?_ 2 _ rfl; (with_reducible repeat (first | refine blk_drewN ?_ _ | refine blk_drew ?_ | refine blk_alloc ?_ _)); refine blk_put (cs := #[.string (⟨#[]⟩ : ByteArray), .string (⟨#[]⟩ : ByteArray), .string (⟨#[]⟩ : ByteArray), .string (⟨#[]⟩ : ByteArray)]) ?_ 1 _ rfl; (with_reducible repeat (first | refine blk_drewN ?_ _ | refine blk_drew ?_ | refine blk_alloc ?_ _)); refine blk_put (cs := #[.string (⟨#[]⟩ : ByteArray), .string (⟨#[]⟩ : ByteArray), .string (⟨#[]⟩ : ByteArray), .string (⟨#[]⟩ : ByteArray)]) ?_ 0 _ rfl; (with_reducible repeat (first | refine blk_drewN ?_ _ | refine blk_drew ?_ | refine blk_alloc ?_ _)); exact BK366.out) Tryz.underlying95 rfl (by kernel_rfl)) rfl ?_
 exact finE
end Go.Proofs.YthnfajboebaajaaGreatDoor.PA
