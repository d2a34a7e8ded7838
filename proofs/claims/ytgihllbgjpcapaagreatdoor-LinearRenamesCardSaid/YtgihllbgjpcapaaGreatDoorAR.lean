import Derived.Test.YtgihllbgjpcapaaGreatDoorCards
import Derived.Test.YtgihllbgjpcapaaGreatDoorTie
import Derived.Test.YtgihllbgjpcapaaGreatDoorAT1
import Derived.Test.YtgihllbgjpcapaaGreatDoorAG12
namespace Go.Proofs.YtgihllbgjpcapaaGreatDoor
open Go.ChangeShapes Go.WideShapes Go.ChangeAt Go.ChangeMaps Go.RowKit
set_option maxRecDepth 100000 in
theorem linearRenames_lifted (os : Os) (started : os.Started) (H : Type) (enc : TypeId × Value → H) :
    ReturnsInHanded {} Tryz.checked os 4 .any (fun w args => (Rows.linearRenamesSpec.pre enc Tryz.prog Tryz.f4 [] false w args ∧ laidMetH Tryz.prog Rows.linearRenamesRow.laid w) ∧ sizedMet enc Tryz.prog Tryz.f4 (OpenSpec.ofChange Rows.linearRenamesSpec) false w args)
      (Rows.linearRenamesSpec.post enc Tryz.prog Tryz.f4 false true false false) := by
  refine returnsInHanded_of_change_and (C := Tryz.checked) (X := fun w _ => laidMetH Tryz.prog Rows.linearRenamesRow.laid w) (fun _ _ _ hh h => h.of_heap hh) Rb.own started (by kernel_rfl) Tryz.func4
    (ChangeSpec.witness_shaped (enc := enc) (C := Tryz.checked) (os := os) (X := fun w _ => laidMetH Tryz.prog Rows.linearRenamesRow.laid w) false (World.laidAll Tryz.prog os Rb.laid) #[.agg #[.slice none 0 0, .string ⟨#[]⟩], .slice none 0 0, .int .i64 0] 8 (World.laidAll_os _ _ _)
      (Rb.shaped os _) (by kernel_rfl) (by kernel_rfl) (by kernel_rfl) (Rb.met os _)) ?_
  intro W base args ds gs before hval0 hW _ _ hL _
  have hval : ∀ (j : Nat) t v, Tryz.f4.params[j]? = some t → args[j]? = some v → Value.okWide Tryz.prog W .any base t v := hval0
  have hW' := hW
  obtain ⟨p, q, hA0, hV, rfl, _, _⟩ := hW
  have hA : DataW.TrodAll enc Tryz.prog W 0 (fun _ => true) true Tryz.f4.params.toList args.toList ds p := hA0
  rw [Tryz.params4] at hA hval
  have hlt : ∀ x ∈ p, x.block < W.heap.size := fun x hx => by simpa using hW'.lt x (by first | exact hx | exact List.mem_append_left _ hx)
  obtain ⟨v0, v1, v2, d0, d1, d2, p0, p1, p2, rfl, rfl, rfl, h0, h1, h2⟩ := trodAll_three hA
  obtain ⟨rfl, rfl⟩ := trodVars_none hV
  have h0k := h0
  obtain ⟨A0, c0, l0, s0, rfl, w0, C0⟩ := Ro.opLn Tryz.underlying25 Tryz.underlying22 Tryz.underlying23 Tryz.underlying23 (by kernel_rfl) (by kernel_rfl) (by kernel_rfl) (by kernel_rfl) (hval 0 25 v0 rfl rfl) h0
  have h1k := h1
  obtain ⟨A1, c1, l1, rfl, w1, C1⟩ := Ro.opIs Tryz.underlying35 Tryz.underlying3 (by kernel_rfl) (hval 1 35 v1 rfl rfl) h1
  obtain ⟨i2, rfl, rfl, rfl, z2⟩ := open_int Tryz.underlying3 (hval 2 3 v2 rfl rfl) h2
  simp only [List.append_nil] at hW'
  refine (PA.LinRenames_true A0 c0 l0 s0 A1 c1 l1 i2 W (Rb.of_laid hL) w0 ⟨C0⟩ w1 ⟨C1⟩).mono fun e W' ⟨he, hb⟩ => ?_
  subst he
  exact ⟨_, rfl, _, _, _, [], _, [], hW', trodAll_mk1 (shut_bool Tryz.underlying4 _), trodAll_mk3 (Below.trod Ro.laidOut (by kernel_rfl) (of_decide_eq_true (by kernel_rfl)) h0k hb fun x hx => hlt x (List.mem_append_left _ (List.mem_append_left _ (hx)))) (Below.trod Ro.laidOut (by kernel_rfl) (of_decide_eq_true (by kernel_rfl)) h1k hb fun x hx => hlt x (List.mem_append_left _ (List.mem_append_right _ (hx)))) (shut_int Tryz.underlying3 z2), rfl, hb.frame _, fun h => by cases h⟩
theorem linearRenames_name : Tryz.prog.funcNamed "surveyor/surveyorlaw03.LinearRenames" = some 4 := by kernel_rfl
theorem linearRenames_c0 : Rows.linearRenamesRow.wf (OpenSpec.ofChange Rows.linearRenamesSpec) = true := by kernel_rfl
theorem linearRenames_c1 : laidOutB Tryz.prog = true := by kernel_rfl
theorem linearRenames_c2 : mapsRowed Tryz.prog = true := by kernel_rfl
theorem linearRenames_c3 : Tryz.f4.params.all (Tryz.prog.readableRec ·) = true := by kernel_rfl
theorem linearRenames_c4 : namedTie Tryz.prog Rows.linearRenamesRow.named Rows.linearRenamesSpec.vars = true := by kernel_rfl
theorem linearRenames_c5 : (Rows.linearRenamesRow.stops == []) = true := by kernel_rfl
theorem linearRenames_c6 : (Tryz.prog.stops == []) = true := by kernel_rfl
theorem linearRenames_c7 : (Rows.linearRenamesRow.knobs == []) = true := by kernel_rfl
theorem linearRenames_c8 : (Tryz.prog.stopKnobs == []) = true := by kernel_rfl
theorem linearRenames_c9 : (Rows.linearRenamesRow.inPlace == Tryz.prog.inPlace 4) = true := by kernel_rfl
theorem linearRenames_c10 : (Rows.linearRenamesRow.unfollowed == Tryz.prog.unfollowed 4) = true := by kernel_rfl
theorem linearRenames_c11 : (Rows.linearRenamesRow.recurses == Tryz.prog.recurses 4) = true := by kernel_rfl
theorem linearRenames_c12 : (Rows.linearRenamesRow.named == Tryz.prog.varsNamed 4) = true := by kernel_rfl
theorem linearRenames_c13 : (Rows.linearRenamesRow.maps == (Tryz.f4.params.toList ++ Rows.linearRenamesSpec.plain.varTypes Tryz.prog).any (Tryz.prog.mapsRec ·)) = true := by kernel_rfl
theorem linearRenames_c14 : (Rows.linearRenamesRow.ifaces == (Tryz.f4.params.toList ++ Rows.linearRenamesSpec.plain.varTypes Tryz.prog).any (Tryz.prog.ifacesRec ·)) = true := by kernel_rfl
theorem linearRenames_c15 : (Rows.linearRenamesRow.mapsOut == Tryz.prog.mapsAmong Tryz.f4.resultTypes.toList) = true := by kernel_rfl
theorem linearRenames_c16 : (Rows.linearRenamesRow.loops == (Tryz.f4.params.toList ++ Rows.linearRenamesSpec.plain.varTypes Tryz.prog).any (Tryz.prog.loopsFrom ·)) = true := by kernel_rfl
theorem linearRenames_c17 : (Rows.linearRenamesRow.wideKeys == (Tryz.f4.params.toList ++ Rows.linearRenamesSpec.plain.varTypes Tryz.prog ++ Tryz.f4.resultTypes.toList).any (Tryz.prog.wideKeysFrom ·)) = true := by kernel_rfl
theorem linearRenames_c18 : Rows.linearRenamesSpec.vars.all (Tryz.prog.varReadable ·) = true := by kernel_rfl
theorem linearRenames_c19 : Tryz.f4.resultTypes.all (fun t => Tryz.prog.readableRec t && decide (t < Tryz.prog.types.size)) = true := by kernel_rfl
theorem linearRenames_c20 : (Rows.linearRenamesRow.ifacesOut == Tryz.f4.resultTypes.toList.any (Tryz.prog.ifacesRec ·)) = true := by kernel_rfl
theorem linearRenames_c21 : (Rows.linearRenamesRow.loopsOut == Tryz.f4.resultTypes.toList.any (Tryz.prog.loopsFrom ·)) = true := by kernel_rfl
theorem linearRenames_c22 : (Rows.linearRenamesRow.plainKeys == Tryz.prog.plainKeys) = true := by kernel_rfl
theorem linearRenames_c23 : Rows.linearRenamesRow.shortTexts.isNone = true := by kernel_rfl
theorem linearRenames_c24 : Tryz.prog.stopsHeard = true := by kernel_rfl
theorem linearRenames_c25 : Tryz.prog.mayEnter = true := by kernel_rfl
theorem linearRenames_c26 : (Rows.linearRenamesRow.lifted == Tryz.prog.liftsFinal) = true := by kernel_rfl
theorem linearRenames_c27 : (Tryz.prog.make == some Rows.linearRenamesRow.make) = true := by kernel_rfl
theorem linearRenames_c28 : (Rows.linearRenamesRow.kinds == (if Rows.linearRenamesRow.domain.isEmpty then [] else Tryz.f4.params.toList.map fun t => match Tryz.prog.underlying t with | some (.int k) => some k | _ => none)) = true := by kernel_rfl
theorem linearRenames_c29 : (Rows.linearRenamesRow.pinned == Rows.linearRenamesRow.pinnedBy) = true := by kernel_rfl
theorem linearRenames_c30 : (Rows.linearRenamesRow.veiled == (Tryz.f4.params.toList ++ Rows.linearRenamesSpec.plain.varTypes Tryz.prog ++ Tryz.f4.resultTypes.toList).any (Tryz.prog.veiledRec ·)) = true := by kernel_rfl
theorem linearRenames_c31 : Rows.linearRenamesRow.veiledFits Tryz.prog Tryz.f4.params.toList (Tryz.f4.params.toList ++ Rows.linearRenamesSpec.plain.varTypes Tryz.prog ++ Tryz.f4.resultTypes.toList) = true := by kernel_rfl
set_option maxRecDepth 100000 in
theorem linearRenames_facts : joinedFacts Tryz.prog 4 Tryz.f4 Rows.linearRenamesSpec Rows.linearRenamesRow = true := by
  unfold joinedFacts
  exact Rb.and_ (Rb.and_ (Rb.and_ (Rb.and_ (Rb.and_ (Rb.and_ (Rb.and_ (Rb.and_ (Rb.and_ (Rb.and_ (Rb.and_ (Rb.and_ (Rb.and_ (Rb.and_ (Rb.and_ (Rb.and_ (Rb.and_ (Rb.and_ (Rb.and_ (Rb.and_ (Rb.and_ (Rb.and_ (Rb.and_ (Rb.and_ (Rb.and_ (Rb.and_ (Rb.and_ (Rb.and_ (Rb.and_ (Rb.and_ (Rb.and_ (linearRenames_c0) linearRenames_c1) linearRenames_c2) linearRenames_c3) linearRenames_c4) linearRenames_c5) linearRenames_c6) linearRenames_c7) linearRenames_c8) linearRenames_c9) linearRenames_c10) linearRenames_c11) linearRenames_c12) linearRenames_c13) linearRenames_c14) linearRenames_c15) linearRenames_c16) linearRenames_c17) linearRenames_c18) linearRenames_c19) linearRenames_c20) linearRenames_c21) linearRenames_c22) linearRenames_c23) linearRenames_c24) linearRenames_c25) linearRenames_c26) linearRenames_c27) linearRenames_c28) linearRenames_c29) linearRenames_c30) linearRenames_c31
theorem linearRenames_inst : Tryz.f4.isInstance Tryz.pinned.checked.prog Rows.linearRenamesRow.origin Rows.linearRenamesRow.targs := of_decide_eq_true (by kernel_rfl)
theorem linearRenames_wrap : Tryz.f4.isWrapper Tryz.pinned.checked.prog Rows.linearRenamesRow.wrapper Rows.linearRenamesRow.mainSum := by unfold Func.isWrapper; first | (rw [if_pos (by decide +kernel)]; kernel_rfl) | (rw [if_neg (by decide +kernel)]; exact ⟨rfl, rfl⟩)
theorem linearRenames_row : Rows.LinearRenamesSaid :=
  OpenClaim.holds_of_wide 4 Tryz.f4 rfl rfl rfl rfl rfl rfl rfl ⟨rfl, rfl, rfl, rfl, rfl⟩ rfl rfl rfl rfl rfl linearRenames_name Tryz.func4 linearRenames_facts linearRenames_inst linearRenames_wrap
    (fun os started H enc _ => linearRenames_lifted os started H enc)
theorem linearRenames_wf : Rows.linearRenamesRow.wfByText (OpenSpec.ofChange Rows.linearRenamesSpec) = true := by kernel_rfl
theorem linearRenames_main : Tryz.pinned.checked.prog.mainIs = some (true, "aff9e78aeef47a1281ab7b7f84868ea84d778580fc1d5372a2f3aea51abd8a92".toList) := by kernel_rfl
theorem linearRenames_goes : false = Rows.linearRenamesRow.goesBy Tryz.pinned.checked.prog := by kernel_rfl
theorem linearRenames_looks : true = Tryz.pinned.checked.prog.looks [] := by kernel_rfl
theorem linearRenames_std : ([25,35,3].all fun u => !Tryz.prog.wantsStandIn u) = true := by kernel_rfl
theorem linearRenames_at : ∀ f fn, Tryz.pinned.checked.prog.funcNamed Rows.linearRenamesRow.func = some f → Tryz.pinned.checked.prog.funcs[f]? = some fn → true = Tryz.pinned.checked.prog.looks [] ∧ ∀ (j : Nat) t, fn.params[j]? = some t → Tryz.pinned.checked.prog.wantsStandIn t = false := fun f fn hf hfn => by
  obtain rfl : f = 4 := Option.some.inj (linearRenames_name.symm.trans hf) |>.symm
  obtain rfl : fn = Tryz.f4 := (Option.some.inj (Tryz.func4.symm.trans hfn)).symm
  exact ⟨linearRenames_looks, fun j t ht => by
    rw [Tryz.params4] at ht
    have hm : t ∈ [25,35,3] := by simpa using Array.mem_of_getElem? ht
    exact (show Tryz.prog.wantsStandIn t = false by simpa using List.all_eq_true.1 linearRenames_std t hm)⟩
theorem linearRenames_holds : Rows.LinearRenamesCardSaid :=
  Claim7.holds_tied_plain_at .later [] [.data, .data, .data, .data, .sentinel, .sentinel, .pinned] true (true, "aff9e78aeef47a1281ab7b7f84868ea84d778580fc1d5372a2f3aea51abd8a92") true
    linearRenames_row (fun _ h => by cases h) linearRenames_wf (fun _ h => by cases h) linearRenames_row_tie rfl ⟨rfl, rfl⟩ linearRenames_main rfl linearRenames_at linearRenames_goes
#print axioms linearRenames_holds
end Go.Proofs.YtgihllbgjpcapaaGreatDoor
