import Derived.Test.YtgihllbgjpcapaaGreatDoorCards
import Derived.Test.YtgihllbgjpcapaaGreatDoorTie
import Derived.Test.YtgihllbgjpcapaaGreatDoorAT1
import Derived.Test.YtgihllbgjpcapaaGreatDoorAG12
namespace Go.Proofs.YtgihllbgjpcapaaGreatDoor
open Go.ChangeShapes Go.WideShapes Go.ChangeAt Go.ChangeMaps Go.RowKit
set_option maxRecDepth 100000 in
theorem linearSums_lifted (os : Os) (started : os.Started) (H : Type) (enc : TypeId × Value → H) :
    ReturnsInHanded {} Tryz.checked os 6 .any (fun w args => (Rows.linearSumsSpec.pre enc Tryz.prog Tryz.f6 [] false w args ∧ laidMetH Tryz.prog Rows.linearSumsRow.laid w) ∧ sizedMet enc Tryz.prog Tryz.f6 (OpenSpec.ofChange Rows.linearSumsSpec) false w args)
      (Rows.linearSumsSpec.post enc Tryz.prog Tryz.f6 false true false false) := by
  refine returnsInHanded_of_change_and (C := Tryz.checked) (X := fun w _ => laidMetH Tryz.prog Rows.linearSumsRow.laid w) (fun _ _ _ hh h => h.of_heap hh) Rb.own started (by kernel_rfl) Tryz.func6
    (ChangeSpec.witness_shaped (enc := enc) (C := Tryz.checked) (os := os) (X := fun w _ => laidMetH Tryz.prog Rows.linearSumsRow.laid w) false (World.laidAll Tryz.prog os Rb.laid) #[.agg #[.slice none 0 0, .string ⟨#[]⟩], .agg #[.slice none 0 0, .string ⟨#[]⟩]] 8 (World.laidAll_os _ _ _)
      (Rb.shaped os _) (by kernel_rfl) (by kernel_rfl) (by kernel_rfl) (Rb.met os _)) ?_
  intro W base args ds gs before hval0 hW _ _ hL _
  have hval : ∀ (j : Nat) t v, Tryz.f6.params[j]? = some t → args[j]? = some v → Value.okWide Tryz.prog W .any base t v := hval0
  have hW' := hW
  obtain ⟨p, q, hA0, hV, rfl, _, _⟩ := hW
  have hA : DataW.TrodAll enc Tryz.prog W 0 (fun _ => true) true Tryz.f6.params.toList args.toList ds p := hA0
  rw [Tryz.params6] at hA hval
  have hlt : ∀ x ∈ p, x.block < W.heap.size := fun x hx => by simpa using hW'.lt x (by first | exact hx | exact List.mem_append_left _ hx)
  obtain ⟨v0, v1, d0, d1, p0, p1, rfl, rfl, rfl, h0, h1⟩ := trodAll_two hA
  obtain ⟨rfl, rfl⟩ := trodVars_none hV
  have h0k := h0
  obtain ⟨A0, c0, l0, s0, rfl, w0, C0⟩ := Ro.opLn Tryz.underlying25 Tryz.underlying22 Tryz.underlying23 Tryz.underlying23 (by kernel_rfl) (by kernel_rfl) (by kernel_rfl) (by kernel_rfl) (hval 0 25 v0 rfl rfl) h0
  have h1k := h1
  obtain ⟨A1, c1, l1, s1, rfl, w1, C1⟩ := Ro.opLn Tryz.underlying25 Tryz.underlying22 Tryz.underlying23 Tryz.underlying23 (by kernel_rfl) (by kernel_rfl) (by kernel_rfl) (by kernel_rfl) (hval 1 25 v1 rfl rfl) h1
  simp only [List.append_nil] at hW'
  refine (PA.LinSums_true A0 c0 l0 s0 A1 c1 l1 s1 W (Rb.of_laid hL) w0 ⟨C0⟩ w1 ⟨C1⟩).mono fun e W' ⟨he, hb⟩ => ?_
  subst he
  exact ⟨_, rfl, _, _, _, [], _, [], hW', trodAll_mk1 (shut_bool Tryz.underlying4 _), trodAll_mk2 (Below.trod Ro.laidOut (by kernel_rfl) (of_decide_eq_true (by kernel_rfl)) h0k hb fun x hx => hlt x (List.mem_append_left _ (hx))) (Below.trod Ro.laidOut (by kernel_rfl) (of_decide_eq_true (by kernel_rfl)) h1k hb fun x hx => hlt x (List.mem_append_right _ (hx))), rfl, hb.frame _, fun h => by cases h⟩
theorem linearSums_name : Tryz.prog.funcNamed "surveyor/surveyorlaw03.LinearSums" = some 6 := by kernel_rfl
theorem linearSums_c0 : Rows.linearSumsRow.wf (OpenSpec.ofChange Rows.linearSumsSpec) = true := by kernel_rfl
theorem linearSums_c1 : laidOutB Tryz.prog = true := by kernel_rfl
theorem linearSums_c2 : mapsRowed Tryz.prog = true := by kernel_rfl
theorem linearSums_c3 : Tryz.f6.params.all (Tryz.prog.readableRec ·) = true := by kernel_rfl
theorem linearSums_c4 : namedTie Tryz.prog Rows.linearSumsRow.named Rows.linearSumsSpec.vars = true := by kernel_rfl
theorem linearSums_c5 : (Rows.linearSumsRow.stops == []) = true := by kernel_rfl
theorem linearSums_c6 : (Tryz.prog.stops == []) = true := by kernel_rfl
theorem linearSums_c7 : (Rows.linearSumsRow.knobs == []) = true := by kernel_rfl
theorem linearSums_c8 : (Tryz.prog.stopKnobs == []) = true := by kernel_rfl
theorem linearSums_c9 : (Rows.linearSumsRow.inPlace == Tryz.prog.inPlace 6) = true := by kernel_rfl
theorem linearSums_c10 : (Rows.linearSumsRow.unfollowed == Tryz.prog.unfollowed 6) = true := by kernel_rfl
theorem linearSums_c11 : (Rows.linearSumsRow.recurses == Tryz.prog.recurses 6) = true := by kernel_rfl
theorem linearSums_c12 : (Rows.linearSumsRow.named == Tryz.prog.varsNamed 6) = true := by kernel_rfl
theorem linearSums_c13 : (Rows.linearSumsRow.maps == (Tryz.f6.params.toList ++ Rows.linearSumsSpec.plain.varTypes Tryz.prog).any (Tryz.prog.mapsRec ·)) = true := by kernel_rfl
theorem linearSums_c14 : (Rows.linearSumsRow.ifaces == (Tryz.f6.params.toList ++ Rows.linearSumsSpec.plain.varTypes Tryz.prog).any (Tryz.prog.ifacesRec ·)) = true := by kernel_rfl
theorem linearSums_c15 : (Rows.linearSumsRow.mapsOut == Tryz.prog.mapsAmong Tryz.f6.resultTypes.toList) = true := by kernel_rfl
theorem linearSums_c16 : (Rows.linearSumsRow.loops == (Tryz.f6.params.toList ++ Rows.linearSumsSpec.plain.varTypes Tryz.prog).any (Tryz.prog.loopsFrom ·)) = true := by kernel_rfl
theorem linearSums_c17 : (Rows.linearSumsRow.wideKeys == (Tryz.f6.params.toList ++ Rows.linearSumsSpec.plain.varTypes Tryz.prog ++ Tryz.f6.resultTypes.toList).any (Tryz.prog.wideKeysFrom ·)) = true := by kernel_rfl
theorem linearSums_c18 : Rows.linearSumsSpec.vars.all (Tryz.prog.varReadable ·) = true := by kernel_rfl
theorem linearSums_c19 : Tryz.f6.resultTypes.all (fun t => Tryz.prog.readableRec t && decide (t < Tryz.prog.types.size)) = true := by kernel_rfl
theorem linearSums_c20 : (Rows.linearSumsRow.ifacesOut == Tryz.f6.resultTypes.toList.any (Tryz.prog.ifacesRec ·)) = true := by kernel_rfl
theorem linearSums_c21 : (Rows.linearSumsRow.loopsOut == Tryz.f6.resultTypes.toList.any (Tryz.prog.loopsFrom ·)) = true := by kernel_rfl
theorem linearSums_c22 : (Rows.linearSumsRow.plainKeys == Tryz.prog.plainKeys) = true := by kernel_rfl
theorem linearSums_c23 : Rows.linearSumsRow.shortTexts.isNone = true := by kernel_rfl
theorem linearSums_c24 : Tryz.prog.stopsHeard = true := by kernel_rfl
theorem linearSums_c25 : Tryz.prog.mayEnter = true := by kernel_rfl
theorem linearSums_c26 : (Rows.linearSumsRow.lifted == Tryz.prog.liftsFinal) = true := by kernel_rfl
theorem linearSums_c27 : (Tryz.prog.make == some Rows.linearSumsRow.make) = true := by kernel_rfl
theorem linearSums_c28 : (Rows.linearSumsRow.kinds == (if Rows.linearSumsRow.domain.isEmpty then [] else Tryz.f6.params.toList.map fun t => match Tryz.prog.underlying t with | some (.int k) => some k | _ => none)) = true := by kernel_rfl
theorem linearSums_c29 : (Rows.linearSumsRow.pinned == Rows.linearSumsRow.pinnedBy) = true := by kernel_rfl
theorem linearSums_c30 : (Rows.linearSumsRow.veiled == (Tryz.f6.params.toList ++ Rows.linearSumsSpec.plain.varTypes Tryz.prog ++ Tryz.f6.resultTypes.toList).any (Tryz.prog.veiledRec ·)) = true := by kernel_rfl
theorem linearSums_c31 : Rows.linearSumsRow.veiledFits Tryz.prog Tryz.f6.params.toList (Tryz.f6.params.toList ++ Rows.linearSumsSpec.plain.varTypes Tryz.prog ++ Tryz.f6.resultTypes.toList) = true := by kernel_rfl
set_option maxRecDepth 100000 in
theorem linearSums_facts : joinedFacts Tryz.prog 6 Tryz.f6 Rows.linearSumsSpec Rows.linearSumsRow = true := by
  unfold joinedFacts
  exact Rb.and_ (Rb.and_ (Rb.and_ (Rb.and_ (Rb.and_ (Rb.and_ (Rb.and_ (Rb.and_ (Rb.and_ (Rb.and_ (Rb.and_ (Rb.and_ (Rb.and_ (Rb.and_ (Rb.and_ (Rb.and_ (Rb.and_ (Rb.and_ (Rb.and_ (Rb.and_ (Rb.and_ (Rb.and_ (Rb.and_ (Rb.and_ (Rb.and_ (Rb.and_ (Rb.and_ (Rb.and_ (Rb.and_ (Rb.and_ (Rb.and_ (linearSums_c0) linearSums_c1) linearSums_c2) linearSums_c3) linearSums_c4) linearSums_c5) linearSums_c6) linearSums_c7) linearSums_c8) linearSums_c9) linearSums_c10) linearSums_c11) linearSums_c12) linearSums_c13) linearSums_c14) linearSums_c15) linearSums_c16) linearSums_c17) linearSums_c18) linearSums_c19) linearSums_c20) linearSums_c21) linearSums_c22) linearSums_c23) linearSums_c24) linearSums_c25) linearSums_c26) linearSums_c27) linearSums_c28) linearSums_c29) linearSums_c30) linearSums_c31
theorem linearSums_inst : Tryz.f6.isInstance Tryz.pinned.checked.prog Rows.linearSumsRow.origin Rows.linearSumsRow.targs := of_decide_eq_true (by kernel_rfl)
theorem linearSums_wrap : Tryz.f6.isWrapper Tryz.pinned.checked.prog Rows.linearSumsRow.wrapper Rows.linearSumsRow.mainSum := by unfold Func.isWrapper; first | (rw [if_pos (by decide +kernel)]; kernel_rfl) | (rw [if_neg (by decide +kernel)]; exact ⟨rfl, rfl⟩)
theorem linearSums_row : Rows.LinearSumsSaid :=
  OpenClaim.holds_of_wide 6 Tryz.f6 rfl rfl rfl rfl rfl rfl rfl ⟨rfl, rfl, rfl, rfl, rfl⟩ rfl rfl rfl rfl rfl linearSums_name Tryz.func6 linearSums_facts linearSums_inst linearSums_wrap
    (fun os started H enc _ => linearSums_lifted os started H enc)
theorem linearSums_wf : Rows.linearSumsRow.wfByText (OpenSpec.ofChange Rows.linearSumsSpec) = true := by kernel_rfl
theorem linearSums_main : Tryz.pinned.checked.prog.mainIs = some (true, "aff9e78aeef47a1281ab7b7f84868ea84d778580fc1d5372a2f3aea51abd8a92".toList) := by kernel_rfl
theorem linearSums_goes : false = Rows.linearSumsRow.goesBy Tryz.pinned.checked.prog := by kernel_rfl
theorem linearSums_looks : true = Tryz.pinned.checked.prog.looks [] := by kernel_rfl
theorem linearSums_std : ([25,25].all fun u => !Tryz.prog.wantsStandIn u) = true := by kernel_rfl
theorem linearSums_at : ∀ f fn, Tryz.pinned.checked.prog.funcNamed Rows.linearSumsRow.func = some f → Tryz.pinned.checked.prog.funcs[f]? = some fn → true = Tryz.pinned.checked.prog.looks [] ∧ ∀ (j : Nat) t, fn.params[j]? = some t → Tryz.pinned.checked.prog.wantsStandIn t = false := fun f fn hf hfn => by
  obtain rfl : f = 6 := Option.some.inj (linearSums_name.symm.trans hf) |>.symm
  obtain rfl : fn = Tryz.f6 := (Option.some.inj (Tryz.func6.symm.trans hfn)).symm
  exact ⟨linearSums_looks, fun j t ht => by
    rw [Tryz.params6] at ht
    have hm : t ∈ [25,25] := by simpa using Array.mem_of_getElem? ht
    exact (show Tryz.prog.wantsStandIn t = false by simpa using List.all_eq_true.1 linearSums_std t hm)⟩
theorem linearSums_holds : Rows.LinearSumsCardSaid :=
  Claim7.holds_tied_plain_at .later [] [.data, .data, .data, .data, .sentinel, .sentinel, .pinned] true (true, "aff9e78aeef47a1281ab7b7f84868ea84d778580fc1d5372a2f3aea51abd8a92") true
    linearSums_row (fun _ h => by cases h) linearSums_wf (fun _ h => by cases h) linearSums_row_tie rfl ⟨rfl, rfl⟩ linearSums_main rfl linearSums_at linearSums_goes
#print axioms linearSums_holds
end Go.Proofs.YtgihllbgjpcapaaGreatDoor
