import Derived.Test.YthnfajboebaajaaGreatDoorAP2
import Derived.Test.YthnfajboebaajaaGreatDoorAD
set_option linter.unusedVariables false
set_option linter.unusedSimpArgs false
namespace Go.Proofs.YthnfajboebaajaaGreatDoor.PA
open Go.RowKit Go.Proofs.WWords Go.Proofs.WMore
theorem ndR_nd (q : Rat) : Sv.nd q.num ≤ ndR q ∧ Sv.nd (q.den : Int) ≤ ndR q := by unfold ndR; omega
section small
variable (p q : Rat) (h : ndR p + ndR q + 1 ≤ 4096)
include h
theorem addE : Ev (fun k => rAAdd.f k (Sv.rtxt p) (Sv.rtxt q)) (Sv.rtxt (p + q), 0) := by
 have h1 := ndR_nd p
 have h2 := ndR_nd q
 have b1 := nd_mul p.num q.den
 have b2 := nd_mul q.num p.den
 have b3 := nd_mul p.den q.den
 have b4 := nd_add (p.num * q.den) (q.num * p.den)
 exact (rat_Add p q (by omega) (by omega)).eq (if_pos ⟨by omega, by omega, by omega, by omega⟩)
theorem divE (h0 : q ≠ 0) : Ev (fun k => rADiv.f k (Sv.rtxt p) (Sv.rtxt q)) (Sv.rtxt (p / q), 0) := by
 have h1 := ndR_nd p
 have h2 := ndR_nd q
 have b1 := nd_mul p.num q.den
 have b3 := nd_mul p.den q.num
 refine (rat_Div p q (by omega) (by omega)).eq ?_
 unfold divR
 rw [if_neg h0, if_pos ⟨by omega, by omega⟩]
def sgn (p q : Rat) : Int := (p.num * q.den - q.num * p.den).sign
theorem cmpE : Ev (fun k => rACompare.f k (Sv.rtxt p) (Sv.rtxt q)) (sgn p q, 0) := by
 have h1 := ndR_nd p
 have h2 := ndR_nd q
 have b1 := nd_mul p.num q.den
 have b2 := nd_mul q.num p.den
 exact (rat_Compare p q (by omega) (by omega)).eq (if_pos ⟨by omega, by omega⟩)
end small
theorem div0E (p : Rat) (h : ndR p ≤ 4096) : Ev (fun k => rADiv.f k (Sv.rtxt p) (Sv.rtxt 0)) (⟨#[]⟩, 19) :=
 (rat_Div p 0 h (by unfold ndR; have := nd0; have := nd1; show max (Sv.nd 0) (Sv.nd 1) ≤ 4096; omega)).eq (if_pos rfl)
theorem numE (q : Rat) (h : ndR q ≤ 4096) : Ev (fun k => rANum.f k (Sv.rtxt q)) (Sv.txt q.num, 0) := by
 refine (rat_Num (Okt.q h)).eq ?_
 rw [if_pos (chkR_small h), topS_rtxt]
theorem denE (q : Rat) (h : ndR q ≤ 4096) : Ev (fun k => rADen.f k (Sv.rtxt q)) (Sv.txt q.den, 0) := by
 refine (rat_Den (Okt.q h)).eq ?_
 rw [if_pos (chkR_small h), botS_rtxt]
theorem rt_lit (n : Int) (d : Nat) (h0 : d ≠ 0) (h1 : n.natAbs.Coprime d) (l : List UInt8) (h : (if d = 1 then Sv.txtL n else Sv.txtL n ++ 47 :: Sv.txtL d) = l) : Sv.rtxt (Rat.mk' n d h0 h1) = ⟨l.toArray⟩ := by
 apply ba_ext
 rw [Sv.rtxt_toList, ba_mk, ← h]
theorem nd_lt10 {n : Int} (h : n.natAbs < 10) : Sv.nd n ≤ 1 := Sv.nd_le (by omega) (by omega)
theorem ndR_lit (n : Int) (d : Nat) (h0 : d ≠ 0) (h1 : n.natAbs.Coprime d) (hn : n.natAbs < 10) (hd : d < 10) : ndR (Rat.mk' n d h0 h1) ≤ 1 := by
 unfold ndR
 have a := nd_lt10 hn
 have b := nd_lt10 (n := (d : Int)) (by omega)
 show max (Sv.nd n) (Sv.nd d) ≤ 1
 omega
def q12 : Rat := Rat.mk' 1 2 (by decide) (by decide)
def q13 : Rat := Rat.mk' 1 3 (by decide) (by decide)
def q25 : Rat := Rat.mk' 2 5 (by decide) (by decide)
def qm3 : Rat := Rat.mk' (-3) 1 (by decide) (by decide)
def q56 : Rat := Rat.mk' 5 6 (by decide) (by decide)
def qm16 : Rat := Rat.mk' (-1) 6 (by decide) (by decide)
def qm32 : Rat := Rat.mk' (-3) 2 (by decide) (by decide)
theorem r12 : Sv.rtxt q12 = ⟨#[49, 47, 50]⟩ := rt_lit 1 2 _ _ _ (by simp [Sv.txtL, Sv.txtN, Sv.dg, Sv.dch])
theorem r13 : Sv.rtxt q13 = ⟨#[49, 47, 51]⟩ := rt_lit 1 3 _ _ _ (by simp [Sv.txtL, Sv.txtN, Sv.dg, Sv.dch])
theorem r25 : Sv.rtxt q25 = ⟨#[50, 47, 53]⟩ := rt_lit 2 5 _ _ _ (by simp [Sv.txtL, Sv.txtN, Sv.dg, Sv.dch])
theorem rm3 : Sv.rtxt qm3 = ⟨#[45, 51]⟩ := rt_lit (-3) 1 _ _ _ (by simp [Sv.txtL, Sv.txtN, Sv.dg, Sv.dch])
theorem r56 : Sv.rtxt q56 = ⟨#[53, 47, 54]⟩ := rt_lit 5 6 _ _ _ (by simp [Sv.txtL, Sv.txtN, Sv.dg, Sv.dch])
theorem rm16 : Sv.rtxt qm16 = ⟨#[45, 49, 47, 54]⟩ := rt_lit (-1) 6 _ _ _ (by simp [Sv.txtL, Sv.txtN, Sv.dg, Sv.dch])
theorem rm32 : Sv.rtxt qm32 = ⟨#[45, 51, 47, 50]⟩ := rt_lit (-3) 2 _ _ _ (by simp [Sv.txtL, Sv.txtN, Sv.dg, Sv.dch])
theorem r0 : Sv.rtxt 0 = ⟨#[48]⟩ := rfl
theorem r1 : Sv.rtxt 1 = ⟨#[49]⟩ := by show Sv.txt 1 = _; exact txt1
theorem t6 : Sv.txt 6 = ⟨#[54]⟩ := by simp [Sv.txt, Sv.txtL, Sv.txtN, Sv.dg, Sv.dch]
theorem t2 : Sv.txt 2 = ⟨#[50]⟩ := by simp [Sv.txt, Sv.txtL, Sv.txtN, Sv.dg, Sv.dch]
theorem tm1 : Sv.txt (-1) = ⟨#[45, 49]⟩ := by simp [Sv.txt, Sv.txtL, Sv.txtN, Sv.dg, Sv.dch]
theorem tm2 : Sv.txt (-2) = ⟨#[45, 50]⟩ := by simp [Sv.txt, Sv.txtL, Sv.txtN, Sv.dg, Sv.dch]
theorem tm3 : Sv.txt (-3) = ⟨#[45, 51]⟩ := by simp [Sv.txt, Sv.txtL, Sv.txtN, Sv.dg, Sv.dch]
theorem tm4 : Sv.txt (-4) = ⟨#[45, 52]⟩ := by simp [Sv.txt, Sv.txtL, Sv.txtN, Sv.dg, Sv.dch]
theorem ba_list (l : List UInt8) (a : ByteArray) (h : a = ⟨l.toArray⟩) : a.toList = l := by rw [ByteArray.toList_eq, h, ba_mk]
theorem e_add : q12 + q13 = q56 := by decide +kernel
theorem e_div : q12 / qm3 = qm16 := by decide +kernel
theorem e_of : Rat.divInt 6 (-4) = qm32 := by decide +kernel
theorem e_fl : qm32.floor = -2 := by decide +kernel
theorem e_ce : qm32.ceil = -1 := by decide +kernel
theorem e_cmp : sgn q13 q25 = -1 := by decide
theorem bad_of (s : ByteArray) (hs : s.size ≤ 10) (h : ¬ Sv.RCano s) : Ev (fun k => rACheck.f k s) 3 := by
 refine (rat_Check s (by omega)).eq ?_
 unfold chkR
 rw [if_neg (fun e => h (rcanoB_iff.1 e))]
theorem bad_d (s : ByteArray) (h1 : hasS s = true) (h2 : ¬ (1 < Sv.val (botS s) ∧ Int.gcd (Sv.val (topS s)) (Sv.val (botS s)) = 1)) : ¬ Sv.RCano s := fun e => h2 ((rcano_iff.1 e).2 h1).2
theorem bad1 : ¬ Sv.RCano ⟨#[50, 47, 52]⟩ := bad_d _ (by decide) (by decide +kernel)
theorem bad2 : ¬ Sv.RCano ⟨#[51, 47, 49]⟩ := bad_d _ (by decide) (by decide +kernel)
theorem bad3 : ¬ Sv.RCano ⟨#[49, 47, 45, 50]⟩ := bad_d _ (by decide) (by decide +kernel)
theorem bad5 : ¬ Sv.RCano ⟨#[49, 47, 48]⟩ := bad_d _ (by decide) (by decide +kernel)
theorem bad4 : ¬ Sv.RCano ⟨#[45, 48]⟩ := fun e => by
 have h := (rcano_iff.1 e).1
 have e1 : topS ⟨#[45, 48]⟩ = ⟨#[45, 48]⟩ := rfl
 rw [e1, cano_neg (m := [48]) rfl] at h
 exact h.head rfl
theorem bad6 : ¬ Sv.RCano ⟨#[]⟩ := fun e => by
 have h := (rcano_iff.1 e).1
 have e1 : topS ⟨#[]⟩ = ⟨#[]⟩ := rfl
 rw [e1, cano_nn (by simp) (by simp)] at h
 exact h.ne rfl
theorem aw_l0 (l : List ByteArray) (hl : ∀ s ∈ l, s.size ≤ 10 ∧ ¬ Sv.RCano s) (hlen : l.length ≤ 1000) (j : Nat) : ∀ i : Nat, i + j = l.length → Ev (fun k => lWawake.l0 k l (l.length : Int) i) true := by
 induction j with
 | zero =>
  intro i hi
  refine Ev.succ ?_
  simp only [lWawake.l0]
  have := div0E 1 (by have := nd1; unfold ndR; show max (Sv.nd 1) (Sv.nd 1) ≤ 4096; omega)
  rw [r0, r1] at this
  exact Ev.neg (by omega) (Ev.bind this (Ev.of rfl))
 | succ j ih =>
  intro i hi
  refine Ev.succ ?_
  simp only [lWawake.l0]
  have hlt : i < l.length := by omega
  have e : rdOf ByteArray.empty l (i : Int) = l[i] := by simp [rdOf, List.getD, hlt]
  have hm := hl l[i] (List.getElem_mem hlt)
  rw [e, (w64n (by omega) (by omega) : wrap64 ((i : Int) + 1) = ((i + 1 : Nat) : Int))]
  exact Ev.pos (by omega) (Ev.pos (by omega) (Ev.pos (by omega) (Ev.bind (bad_of _ hm.1 hm.2) (Ev.pos rfl (ih (i + 1) (by omega))))))
theorem wz : wrap64 (0 + 0) = 0 := by unfold wrap64; omega
theorem awake_ev : Ev (fun k => lWawake.f k) true := by
 unfold lWawake.f
 have nO : ndR qm32 ≤ 1 := ndR_lit _ _ _ _ (by decide) (by decide)
 have n1 : ndR q12 ≤ 1 := ndR_lit _ _ _ _ (by decide) (by decide)
 have n2 : ndR q13 ≤ 1 := ndR_lit _ _ _ _ (by decide) (by decide)
 have n3 : ndR q25 ≤ 1 := ndR_lit _ _ _ _ (by decide) (by decide)
 have n4 : ndR qm3 ≤ 1 := ndR_lit _ _ _ _ (by decide) (by decide)
 have a1 := rat_Of 6 (-4) (by decide) (Nat.le_trans (nd_lt10 (by decide)) (by omega)) (Nat.le_trans (nd_lt10 (by decide)) (by omega))
 rw [t6, tm4, e_of] at a1
 have a2 := numE qm32 (by omega)
 have a3 := denE qm32 (by omega)
 have a4 := rat_Floor qm32 (by omega)
 have a5 := rat_Ceil qm32 (by omega)
 rw [e_fl, tm2] at a4
 rw [e_ce, tm1] at a5
 have e2 : Sv.txt qm32.num = ⟨#[45, 51]⟩ := tm3
 have e3 : Sv.txt (qm32.den : Int) = ⟨#[50]⟩ := t2
 rw [e2] at a2
 rw [e3] at a3
 refine Ev.bind a1 (Ev.bind a2 (Ev.bind a3 (Ev.bind a4 (Ev.bind a5 (Ev.pos (by simp only [wz]) (Ev.pos (ba_list _ _ rm32) (Ev.pos (ba_list _ _ rfl) (Ev.pos (ba_list _ _ rfl) (Ev.pos (ba_list _ _ rfl) ?_)))))))))
 have b : ((⟨#[45, 49]⟩ : ByteArray).toList != ([45, 49] : List UInt8)) = false := by rw [bne_eq_false_iff_eq]; exact ba_list _ _ rfl
 rw [b]
 refine Ev.succ ?_
 simp only [lWawake.j0]
 have c1 := addE q12 q13 (by omega)
 have c2 := divE q12 qm3 (by omega) (by decide)
 have c3 := cmpE q13 q25 (by omega)
 rw [e_add, r12, r13] at c1
 rw [e_div, r12, rm3] at c2
 rw [e_cmp, r13, r25] at c3
 refine Ev.neg (by simp) (Ev.bind c1 (Ev.bind c2 (Ev.bind c3 (Ev.pos (by simp only [wz]) (Ev.pos (ba_list _ _ r56) (Ev.pos (ba_list _ _ rm16) (Ev.succ ?_)))))))
 simp only [lWawake.j1]
 refine Ev.neg (by simp) (Ev.bs rfl (aw_l0 _ ?_ (by simp) _ 0 (Nat.zero_add _)))
 intro s hs
 simp only [List.mem_cons, List.not_mem_nil, or_false] at hs
 rcases hs with rfl | rfl | rfl | rfl | rfl | rfl
 ·exact ⟨by decide, bad1⟩
 ·exact ⟨by decide, bad2⟩
 ·exact ⟨by decide, bad3⟩
 ·exact ⟨by decide, bad4⟩
 ·exact ⟨by decide, bad5⟩
 ·exact ⟨by decide, bad6⟩
theorem Ev.ex {α : Type} {f : Nat → Option α} {x : α} (h : Ev f x) : ∃ k, f k = some x := by
 obtain ⟨n, hn⟩ := h
 exact ⟨n, hn n (Nat.le_refl _)⟩
set_option linter.unusedVariables false
set_option linter.unusedSimpArgs false
open Go.RowKit Go.Proofs.WWords Go.Proofs.WMore
theorem Computes_true (a0 a1 : ByteArray) : ∃ k, lWRationalComputes.f k a0 a1 = some true := by
 apply Ev.ex
 unfold lWRationalComputes.f
 have big : Ev (fun k => lWRationalComputes.j0 k a0 a1 true) true := by
  refine Ev.succ ?_
  simp only [lWRationalComputes.j0, if_true]
  exact Ev.bind awake_ev (Ev.of rfl)
 refine Ev.bs rfl ?_
 by_cases h0 : (a0.size : Int) ≤ 300
 ·refine Ev.pos (decide_eq_true h0) (Ev.bs rfl ?_)
  by_cases h1 : (a1.size : Int) ≤ 300
  ·rw [decide_eq_true h1]
   have hs : Okt a0 := Okt.of (by omega)
   have ht : Okt a1 := Okt.of (by omega)
   obtain ⟨r1, c1, c2⟩ := same_Compare hs ht
   obtain ⟨r2, d1, d2⟩ := same_Add hs ht
   obtain ⟨r3, e1, e2⟩ := same_Sub hs ht
   obtain ⟨r4, f1, f2⟩ := same_Mul hs ht
   obtain ⟨r5, g1, g2⟩ := same_Div hs ht
   refine Ev.succ ?_
   simp only [lWRationalComputes.j0]
   refine Ev.neg (by simp) (Ev.bind c1 (Ev.bind c2 (Ev.bind awake_ev (Ev.pos rfl (Ev.pos rfl (Ev.succ ?_))))))
   simp only [lWRationalComputes.j1]
   refine Ev.neg (by simp) (Ev.bind d1 (Ev.bind d2 (Ev.bind e1 (Ev.bind e2 (Ev.pos rfl (Ev.pos rfl (Ev.pos rfl (Ev.succ ?_))))))))
   simp only [lWRationalComputes.j2]
   exact Ev.neg (by simp) (Ev.bind f1 (Ev.bind f2 (Ev.bind g1 (Ev.bind g2 (Ev.pos rfl (Ev.pos rfl (Ev.pos rfl (Ev.of (by simp)))))))))
  ·rw [decide_eq_false h1]
   exact big
 ·exact Ev.neg (by simpa using h0) big
end Go.Proofs.YthnfajboebaajaaGreatDoor.PA
