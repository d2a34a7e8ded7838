import Derived.Test.YtihbebbabjklkaaGreatDoorCards
import Derived.Test.YtihbebbabjklkaaGreatDoorTie
import Derived.Test.YtihbebbabjklkaaGreatDoorAT1t
import Derived.Test.YtihbebbabjklkaaGreatDoorAG10
namespace Go.Proofs.YtihbebbabjklkaaGreatDoor
open Go.ChangeShapes Go.WideShapes Go.ChangeAt Go.ChangeMaps Go.RowKit
theorem linearTurnsUpto_reads (os : Os) {H : Type} (enc : TypeId × Value → H) : DataW.whole enc Tryz.prog ((World.laidAll Tryz.prog os Rb.laid).forCall (fun _ _ => 0) ⟨#[], #[.agg #[.slice none 0 0, .string ⟨#[]⟩], .slice none 0 0, .int .u8 0], []⟩).memory Tryz.f7.params.toList Rows.linearTurnsSpec.vars false (#[.agg #[.slice none 0 0, .string ⟨#[]⟩], .slice none 0 0, .int .u8 0] : Array Value).toList 8 = some ([.agg [.nil, .lit (.string [])], .nil, .lit (.int .u8 0)], [], []) := by kernel_rfl
set_option maxRecDepth 100000 in
theorem linearTurnsUpto_lifted (os : Os) (started : os.Started) (H : Type) (enc : TypeId × Value → H) (F : Stop.Interp) :
    ReturnsInHanded {} Tryz.checked os 7 .any ((Rows.OpenSpec.upto Rows.linearTurnsSpec).preRow enc Tryz.prog Tryz.f7 Rows.linearTurnsUptoRow.domain false Rows.linearTurnsUptoRow.laid) (((Rows.OpenSpec.upto Rows.linearTurnsSpec).at F).post enc Tryz.prog Tryz.f7 false true false false) := by
  refine returnsInHanded_of_row (C := Tryz.checked) (s := Rows.OpenSpec.upto Rows.linearTurnsSpec) Rb.own started (by kernel_rfl) Tryz.func7
    (Ro.witness (enc := enc) (C := Tryz.checked) (World.laidAll Tryz.prog os Rb.laid) #[.agg #[.slice none 0 0, .string ⟨#[]⟩], .slice none 0 0, .int .u8 0] (World.laidAll_os _ _ _) (Rb.shaped os _) (by kernel_rfl)
      (OpenSpec.preRow_of_cond 8 (linearTurnsUpto_reads os enc) (by kernel_rfl) (fun k hk => by cases hk; kernel_rfl) (by kernel_rfl) (Rb.met os _))) ?_
  intro W base args ds gs before hval0 hW0 _ hcond _ hL _ _
  have hk : Rows.uptoSmall H (ds ++ gs) = true := hcond _ rfl
  have hW : DataW.Whole enc Tryz.prog Tryz.f7.params.toList Rows.linearTurnsSpec.vars false W args.toList ds gs before := hW0
  have hval : ∀ (j : Nat) t v, Tryz.f7.params[j]? = some t → args[j]? = some v → Value.okWide Tryz.prog W .any base t v := hval0
  have hW' := hW
  obtain ⟨p, q, hA0, hV, rfl, _, _⟩ := hW
  have hA : DataW.TrodAll enc Tryz.prog W 0 (fun _ => true) true Tryz.f7.params.toList args.toList ds p := hA0
  rw [Tryz.params7] at hA hval
  have hlt : ∀ x ∈ p, x.block < W.heap.size := fun x hx => by simpa using hW'.lt x (by first | exact hx | exact List.mem_append_left _ hx)
  obtain ⟨v0, v1, v2, d0, d1, d2, p0, p1, p2, rfl, rfl, rfl, h0, h1, h2⟩ := trodAll_three hA
  obtain ⟨rfl, rfl⟩ := trodVars_none hV
  have h0k := h0
  obtain ⟨A0, c0, l0, s0, rfl, w0, C0, b0, g0⟩ := Ro.opLnU Tryz.underlying25 Tryz.underlying22 Tryz.underlying23 Tryz.underlying23 (by kernel_rfl) (by kernel_rfl) (by kernel_rfl) (by kernel_rfl) (hval 0 25 v0 rfl rfl) h0
  have h1k := h1
  obtain ⟨A1, c1, l1, rfl, w1, C1, b1⟩ := Ro.opSlU Tryz.underlying22 Tryz.underlying23 (by kernel_rfl) (hval 1 22 v1 rfl rfl) h1
  obtain ⟨i2, rfl, rfl, rfl, z2⟩ := open_int Tryz.underlying5 (hval 2 5 v2 rfl rfl) h2
  simp only [List.append_nil] at hW'
  refine (PA.LinTurns_true A0 c0 l0 s0 A1 c1 l1 i2 W (Rb.of_laid hL) w0 ⟨C0⟩ w1 ⟨C1⟩ ⟨fun s hs => Ro.bound_at hk (by simp) (b0 s hs), Ro.bound_at hk (by simp) g0⟩ (fun s hs => Ro.bound_at hk (by simp) (b1 s hs)) (by have h : (Lit.int .u8 i2).wf = true := z2; have h1 : 0 ≤ i2 := of_decide_eq_true (Bool.and_eq_true_iff.1 h).1; have h2 : i2 ≤ 255 := of_decide_eq_true (Bool.and_eq_true_iff.1 h).2; omega)).mono fun e W' ⟨he, hb⟩ => ?_
  subst he
  refine ⟨_, rfl, ?_⟩
  show Rows.linearTurnsSpec.post enc Tryz.prog Tryz.f7 false true false false W _ _ W'
  exact ⟨_, _, _, [], _, [], hW', trodAll_mk1 (shut_bool Tryz.underlying4 _), trodAll_mk3 (Below.trod Ro.laidOut (by kernel_rfl) (of_decide_eq_true (by kernel_rfl)) h0k hb fun x hx => hlt x (List.mem_append_left _ (List.mem_append_left _ (hx)))) (Below.trod Ro.laidOut (by kernel_rfl) (of_decide_eq_true (by kernel_rfl)) h1k hb fun x hx => hlt x (List.mem_append_left _ (List.mem_append_right _ (hx)))) (shut_int Tryz.underlying5 z2), rfl, hb.frame _, fun h => by cases h⟩
theorem linearTurnsUpto_name : Tryz.prog.funcNamed "surveyor/surveyorlaw03.LinearTurns" = some 7 := by kernel_rfl
theorem linearTurnsUpto_c0 : Rows.linearTurnsUptoRow.wf (OpenSpec.ofChange (Rows.OpenSpec.upto Rows.linearTurnsSpec).bare) = true := by kernel_rfl
theorem linearTurnsUpto_c1 : laidOutB Tryz.prog = true := by kernel_rfl
theorem linearTurnsUpto_c2 : mapsRowed Tryz.prog = true := by kernel_rfl
theorem linearTurnsUpto_c3 : Tryz.f7.params.all (Tryz.prog.readableRec ·) = true := by kernel_rfl
theorem linearTurnsUpto_c4 : namedTie Tryz.prog Rows.linearTurnsUptoRow.named Rows.linearTurnsSpec.vars = true := by kernel_rfl
theorem linearTurnsUpto_c5 : (Rows.linearTurnsUptoRow.stops == []) = true := by kernel_rfl
theorem linearTurnsUpto_c6 : (Tryz.prog.stops == []) = true := by kernel_rfl
theorem linearTurnsUpto_c7 : (Rows.linearTurnsUptoRow.knobs == []) = true := by kernel_rfl
theorem linearTurnsUpto_c8 : (Tryz.prog.stopKnobs == []) = true := by kernel_rfl
theorem linearTurnsUpto_c9 : (Rows.linearTurnsUptoRow.inPlace == Tryz.prog.inPlace 7) = true := by kernel_rfl
theorem linearTurnsUpto_c10 : (Rows.linearTurnsUptoRow.unfollowed == Tryz.prog.unfollowed 7) = true := by kernel_rfl
theorem linearTurnsUpto_c11 : (Rows.linearTurnsUptoRow.recurses == Tryz.prog.recurses 7) = true := by kernel_rfl
theorem linearTurnsUpto_c12 : (Rows.linearTurnsUptoRow.named == Tryz.prog.varsNamed 7) = true := by kernel_rfl
theorem linearTurnsUpto_c13 : (Rows.linearTurnsUptoRow.maps == (Tryz.f7.params.toList ++ Rows.linearTurnsSpec.plain.varTypes Tryz.prog).any (Tryz.prog.mapsRec ·)) = true := by kernel_rfl
theorem linearTurnsUpto_c14 : (Rows.linearTurnsUptoRow.ifaces == (Tryz.f7.params.toList ++ Rows.linearTurnsSpec.plain.varTypes Tryz.prog).any (Tryz.prog.ifacesRec ·)) = true := by kernel_rfl
theorem linearTurnsUpto_c15 : (Rows.linearTurnsUptoRow.mapsOut == Tryz.prog.mapsAmong Tryz.f7.resultTypes.toList) = true := by kernel_rfl
theorem linearTurnsUpto_c16 : (Rows.linearTurnsUptoRow.loops == (Tryz.f7.params.toList ++ Rows.linearTurnsSpec.plain.varTypes Tryz.prog).any (Tryz.prog.loopsFrom ·)) = true := by kernel_rfl
theorem linearTurnsUpto_c17 : (Rows.linearTurnsUptoRow.wideKeys == (Tryz.f7.params.toList ++ Rows.linearTurnsSpec.plain.varTypes Tryz.prog ++ Tryz.f7.resultTypes.toList).any (Tryz.prog.wideKeysFrom ·)) = true := by kernel_rfl
theorem linearTurnsUpto_c18 : Rows.linearTurnsSpec.vars.all (Tryz.prog.varReadable ·) = true := by kernel_rfl
theorem linearTurnsUpto_c19 : Tryz.f7.resultTypes.all (fun t => Tryz.prog.readableRec t && decide (t < Tryz.prog.types.size)) = true := by kernel_rfl
theorem linearTurnsUpto_c20 : (Rows.linearTurnsUptoRow.ifacesOut == Tryz.f7.resultTypes.toList.any (Tryz.prog.ifacesRec ·)) = true := by kernel_rfl
theorem linearTurnsUpto_c21 : (Rows.linearTurnsUptoRow.loopsOut == Tryz.f7.resultTypes.toList.any (Tryz.prog.loopsFrom ·)) = true := by kernel_rfl
theorem linearTurnsUpto_c22 : (Rows.linearTurnsUptoRow.plainKeys == Tryz.prog.plainKeys) = true := by kernel_rfl
theorem linearTurnsUpto_c23 : Rows.linearTurnsUptoRow.shortTexts.isNone = true := by kernel_rfl
theorem linearTurnsUpto_c24 : Tryz.prog.stopsHeard = true := by kernel_rfl
theorem linearTurnsUpto_c25 : Tryz.prog.mayEnter = true := by kernel_rfl
theorem linearTurnsUpto_c26 : (Rows.linearTurnsUptoRow.lifted == Tryz.prog.liftsFinal) = true := by kernel_rfl
theorem linearTurnsUpto_c27 : (Tryz.prog.make == some Rows.linearTurnsUptoRow.make) = true := by kernel_rfl
theorem linearTurnsUpto_c28 : (Rows.linearTurnsUptoRow.kinds == (if Rows.linearTurnsUptoRow.domain.isEmpty then [] else Tryz.f7.params.toList.map fun t => match Tryz.prog.underlying t with | some (.int k) => some k | _ => none)) = true := by kernel_rfl
theorem linearTurnsUpto_c29 : (Rows.linearTurnsUptoRow.pinned == Rows.linearTurnsUptoRow.pinnedBy) = true := by kernel_rfl
theorem linearTurnsUpto_c30 : (Rows.linearTurnsUptoRow.veiled == (Tryz.f7.params.toList ++ Rows.linearTurnsSpec.plain.varTypes Tryz.prog ++ Tryz.f7.resultTypes.toList).any (Tryz.prog.veiledRec ·)) = true := by kernel_rfl
theorem linearTurnsUpto_c31 : Rows.linearTurnsUptoRow.veiledFits Tryz.prog Tryz.f7.params.toList (Tryz.f7.params.toList ++ Rows.linearTurnsSpec.plain.varTypes Tryz.prog ++ Tryz.f7.resultTypes.toList) = true := by kernel_rfl
set_option maxRecDepth 100000 in
theorem linearTurnsUpto_facts : joinedFacts Tryz.prog 7 Tryz.f7 (Rows.OpenSpec.upto Rows.linearTurnsSpec).bare Rows.linearTurnsUptoRow = true := by
  unfold joinedFacts
  exact Rb.and_ (Rb.and_ (Rb.and_ (Rb.and_ (Rb.and_ (Rb.and_ (Rb.and_ (Rb.and_ (Rb.and_ (Rb.and_ (Rb.and_ (Rb.and_ (Rb.and_ (Rb.and_ (Rb.and_ (Rb.and_ (Rb.and_ (Rb.and_ (Rb.and_ (Rb.and_ (Rb.and_ (Rb.and_ (Rb.and_ (Rb.and_ (Rb.and_ (Rb.and_ (Rb.and_ (Rb.and_ (Rb.and_ (Rb.and_ (Rb.and_ (linearTurnsUpto_c0) linearTurnsUpto_c1) linearTurnsUpto_c2) linearTurnsUpto_c3) linearTurnsUpto_c4) linearTurnsUpto_c5) linearTurnsUpto_c6) linearTurnsUpto_c7) linearTurnsUpto_c8) linearTurnsUpto_c9) linearTurnsUpto_c10) linearTurnsUpto_c11) linearTurnsUpto_c12) linearTurnsUpto_c13) linearTurnsUpto_c14) linearTurnsUpto_c15) linearTurnsUpto_c16) linearTurnsUpto_c17) linearTurnsUpto_c18) linearTurnsUpto_c19) linearTurnsUpto_c20) linearTurnsUpto_c21) linearTurnsUpto_c22) linearTurnsUpto_c23) linearTurnsUpto_c24) linearTurnsUpto_c25) linearTurnsUpto_c26) linearTurnsUpto_c27) linearTurnsUpto_c28) linearTurnsUpto_c29) linearTurnsUpto_c30) linearTurnsUpto_c31
theorem linearTurnsUpto_inst : Tryz.f7.isInstance Tryz.pinned.checked.prog Rows.linearTurnsUptoRow.origin Rows.linearTurnsUptoRow.targs := of_decide_eq_true (by kernel_rfl)
theorem linearTurnsUpto_wrap : Tryz.f7.isWrapper Tryz.pinned.checked.prog Rows.linearTurnsUptoRow.wrapper Rows.linearTurnsUptoRow.mainSum := by unfold Func.isWrapper; first | (rw [if_pos (by decide +kernel)]; kernel_rfl) | (rw [if_neg (by decide +kernel)]; exact ⟨rfl, rfl⟩)
theorem linearTurnsUpto_row : Rows.LinearTurnsUptoSaid :=
  OpenClaim.holds_of_cond 7 Tryz.f7 rfl rfl rfl rfl rfl rfl rfl ⟨rfl, rfl, rfl, rfl, rfl⟩ rfl rfl rfl rfl rfl linearTurnsUpto_name Tryz.func7 linearTurnsUpto_facts linearTurnsUpto_inst linearTurnsUpto_wrap
    (fun os started H enc _ F => by rw [OpenClaim.pre_eq_preRow]; exact linearTurnsUpto_lifted os started H enc F)
theorem linearTurnsUpto_wf : Rows.linearTurnsUptoRow.wfByText (Rows.OpenSpec.upto Rows.linearTurnsSpec) = true := by kernel_rfl
theorem linearTurnsUpto_main : Tryz.pinned.checked.prog.mainIs = some (true, "94aa445f2dc9a68aa77f6d476013ea7e4907784a5936c6184f49e6badaa0e9d2".toList) := by kernel_rfl
theorem linearTurnsUpto_goes : false = Rows.linearTurnsUptoRow.goesBy Tryz.pinned.checked.prog := by kernel_rfl
theorem linearTurnsUpto_looks : true = Tryz.pinned.checked.prog.looks [] := by kernel_rfl
theorem linearTurnsUpto_std : ([25,22,5].all fun u => !Tryz.prog.wantsStandIn u) = true := by kernel_rfl
theorem linearTurnsUpto_at : ∀ f fn, Tryz.pinned.checked.prog.funcNamed Rows.linearTurnsUptoRow.func = some f → Tryz.pinned.checked.prog.funcs[f]? = some fn → true = Tryz.pinned.checked.prog.looks [] ∧ ∀ (j : Nat) t, fn.params[j]? = some t → Tryz.pinned.checked.prog.wantsStandIn t = false := fun f fn hf hfn => by
  obtain rfl : f = 7 := Option.some.inj (linearTurnsUpto_name.symm.trans hf) |>.symm
  obtain rfl : fn = Tryz.f7 := (Option.some.inj (Tryz.func7.symm.trans hfn)).symm
  exact ⟨linearTurnsUpto_looks, fun j t ht => by
    rw [Tryz.params7] at ht
    have hm : t ∈ [25,22,5] := by simpa using Array.mem_of_getElem? ht
    exact (show Tryz.prog.wantsStandIn t = false by simpa using List.all_eq_true.1 linearTurnsUpto_std t hm)⟩
theorem linearTurnsUpto_holds : Rows.LinearTurnsUptoCardSaid :=
  Claim7.holds_tied_plain_at .later [] [.data, .data, .data, .data, .sentinel, .sentinel, .pinned] true (true, "94aa445f2dc9a68aa77f6d476013ea7e4907784a5936c6184f49e6badaa0e9d2") true
    linearTurnsUpto_row (fun _ h => by cases h) linearTurnsUpto_wf (fun _ h => by cases h) linearTurnsUpto_row_tie rfl ⟨rfl, rfl⟩ linearTurnsUpto_main rfl linearTurnsUpto_at linearTurnsUpto_goes
#print axioms linearTurnsUpto_holds
end Go.Proofs.YtihbebbabjklkaaGreatDoor
