import Derived.Test.YtgihllbgjpcapaaGreatDoorCards
import Derived.Test.YtgihllbgjpcapaaGreatDoorTie
import Derived.Test.YtgihllbgjpcapaaGreatDoorAT1
import Derived.Test.YtgihllbgjpcapaaGreatDoorAG12
namespace Go.Proofs.YtgihllbgjpcapaaGreatDoor
open Go.ChangeShapes Go.WideShapes Go.ChangeAt Go.ChangeMaps Go.RowKit
set_option maxRecDepth 100000 in
theorem linearMakes_lifted (os : Os) (started : os.Started) (H : Type) (enc : TypeId × Value → H) :
    ReturnsInHanded {} Tryz.checked os 7 .any (fun w args => (Rows.linearMakesSpec.pre enc Tryz.prog Tryz.f7 [] false w args ∧ laidMetH Tryz.prog Rows.linearMakesRow.laid w) ∧ sizedMet enc Tryz.prog Tryz.f7 (OpenSpec.ofChange Rows.linearMakesSpec) false w args)
      (Rows.linearMakesSpec.post enc Tryz.prog Tryz.f7 false true false false) := by
  refine returnsInHanded_of_change_and (C := Tryz.checked) (X := fun w _ => laidMetH Tryz.prog Rows.linearMakesRow.laid w) (fun _ _ _ hh h => h.of_heap hh) Rb.own started (by kernel_rfl) Tryz.func7
    (ChangeSpec.witness_shaped (enc := enc) (C := Tryz.checked) (os := os) (X := fun w _ => laidMetH Tryz.prog Rows.linearMakesRow.laid w) false (World.laidAll Tryz.prog os Rb.laid) #[.int .i64 0, .int .i64 0, .string ⟨#[]⟩] 8 (World.laidAll_os _ _ _)
      (Rb.shaped os _) (by kernel_rfl) (by kernel_rfl) (by kernel_rfl) (Rb.met os _)) ?_
  intro W base args ds gs before hval0 hW _ _ hL _
  have hval : ∀ (j : Nat) t v, Tryz.f7.params[j]? = some t → args[j]? = some v → Value.okWide Tryz.prog W .any base t v := hval0
  have hW' := hW
  obtain ⟨p, q, hA0, hV, rfl, _, _⟩ := hW
  have hA : DataW.TrodAll enc Tryz.prog W 0 (fun _ => true) true Tryz.f7.params.toList args.toList ds p := hA0
  rw [Tryz.params7] at hA hval
  have hlt : ∀ x ∈ p, x.block < W.heap.size := fun x hx => by simpa using hW'.lt x (by first | exact hx | exact List.mem_append_left _ hx)
  obtain ⟨v0, v1, v2, d0, d1, d2, p0, p1, p2, rfl, rfl, rfl, h0, h1, h2⟩ := trodAll_three hA
  obtain ⟨rfl, rfl⟩ := trodVars_none hV
  obtain ⟨i0, rfl, rfl, rfl, z0⟩ := open_int Tryz.underlying3 (hval 0 3 v0 rfl rfl) h0
  obtain ⟨i1, rfl, rfl, rfl, z1⟩ := open_int Tryz.underlying3 (hval 1 3 v1 rfl rfl) h1
  obtain ⟨s2, rfl, rfl, rfl, z2⟩ := open_string Tryz.underlying23 (hval 2 23 v2 rfl rfl) h2
  simp only [List.append_nil] at hW'
  refine (PA.LinMakes_true i0 i1 s2 W (Rb.of_laid hL)).mono fun e W' ⟨he, hb⟩ => ?_
  subst he
  exact ⟨_, rfl, _, _, _, [], [], [], hW', trodAll_mk1 (shut_bool Tryz.underlying4 _), trodAll_mk3 (shut_int Tryz.underlying3 z0) (shut_int Tryz.underlying3 z1) (shut_string Tryz.underlying23 z2), rfl, hb.frame _, fun h => by cases h⟩
theorem linearMakes_name : Tryz.prog.funcNamed "surveyor/surveyorlaw03.LinearMakes" = some 7 := by kernel_rfl
theorem linearMakes_c0 : Rows.linearMakesRow.wf (OpenSpec.ofChange Rows.linearMakesSpec) = true := by kernel_rfl
theorem linearMakes_c1 : laidOutB Tryz.prog = true := by kernel_rfl
theorem linearMakes_c2 : mapsRowed Tryz.prog = true := by kernel_rfl
theorem linearMakes_c3 : Tryz.f7.params.all (Tryz.prog.readableRec ·) = true := by kernel_rfl
theorem linearMakes_c4 : namedTie Tryz.prog Rows.linearMakesRow.named Rows.linearMakesSpec.vars = true := by kernel_rfl
theorem linearMakes_c5 : (Rows.linearMakesRow.stops == []) = true := by kernel_rfl
theorem linearMakes_c6 : (Tryz.prog.stops == []) = true := by kernel_rfl
theorem linearMakes_c7 : (Rows.linearMakesRow.knobs == []) = true := by kernel_rfl
theorem linearMakes_c8 : (Tryz.prog.stopKnobs == []) = true := by kernel_rfl
theorem linearMakes_c9 : (Rows.linearMakesRow.inPlace == Tryz.prog.inPlace 7) = true := by kernel_rfl
theorem linearMakes_c10 : (Rows.linearMakesRow.unfollowed == Tryz.prog.unfollowed 7) = true := by kernel_rfl
theorem linearMakes_c11 : (Rows.linearMakesRow.recurses == Tryz.prog.recurses 7) = true := by kernel_rfl
theorem linearMakes_c12 : (Rows.linearMakesRow.named == Tryz.prog.varsNamed 7) = true := by kernel_rfl
theorem linearMakes_c13 : (Rows.linearMakesRow.maps == (Tryz.f7.params.toList ++ Rows.linearMakesSpec.plain.varTypes Tryz.prog).any (Tryz.prog.mapsRec ·)) = true := by kernel_rfl
theorem linearMakes_c14 : (Rows.linearMakesRow.ifaces == (Tryz.f7.params.toList ++ Rows.linearMakesSpec.plain.varTypes Tryz.prog).any (Tryz.prog.ifacesRec ·)) = true := by kernel_rfl
theorem linearMakes_c15 : (Rows.linearMakesRow.mapsOut == Tryz.prog.mapsAmong Tryz.f7.resultTypes.toList) = true := by kernel_rfl
theorem linearMakes_c16 : (Rows.linearMakesRow.loops == (Tryz.f7.params.toList ++ Rows.linearMakesSpec.plain.varTypes Tryz.prog).any (Tryz.prog.loopsFrom ·)) = true := by kernel_rfl
theorem linearMakes_c17 : (Rows.linearMakesRow.wideKeys == (Tryz.f7.params.toList ++ Rows.linearMakesSpec.plain.varTypes Tryz.prog ++ Tryz.f7.resultTypes.toList).any (Tryz.prog.wideKeysFrom ·)) = true := by kernel_rfl
theorem linearMakes_c18 : Rows.linearMakesSpec.vars.all (Tryz.prog.varReadable ·) = true := by kernel_rfl
theorem linearMakes_c19 : Tryz.f7.resultTypes.all (fun t => Tryz.prog.readableRec t && decide (t < Tryz.prog.types.size)) = true := by kernel_rfl
theorem linearMakes_c20 : (Rows.linearMakesRow.ifacesOut == Tryz.f7.resultTypes.toList.any (Tryz.prog.ifacesRec ·)) = true := by kernel_rfl
theorem linearMakes_c21 : (Rows.linearMakesRow.loopsOut == Tryz.f7.resultTypes.toList.any (Tryz.prog.loopsFrom ·)) = true := by kernel_rfl
theorem linearMakes_c22 : (Rows.linearMakesRow.plainKeys == Tryz.prog.plainKeys) = true := by kernel_rfl
theorem linearMakes_c23 : Rows.linearMakesRow.shortTexts.isNone = true := by kernel_rfl
theorem linearMakes_c24 : Tryz.prog.stopsHeard = true := by kernel_rfl
theorem linearMakes_c25 : Tryz.prog.mayEnter = true := by kernel_rfl
theorem linearMakes_c26 : (Rows.linearMakesRow.lifted == Tryz.prog.liftsFinal) = true := by kernel_rfl
theorem linearMakes_c27 : (Tryz.prog.make == some Rows.linearMakesRow.make) = true := by kernel_rfl
theorem linearMakes_c28 : (Rows.linearMakesRow.kinds == (if Rows.linearMakesRow.domain.isEmpty then [] else Tryz.f7.params.toList.map fun t => match Tryz.prog.underlying t with | some (.int k) => some k | _ => none)) = true := by kernel_rfl
theorem linearMakes_c29 : (Rows.linearMakesRow.pinned == Rows.linearMakesRow.pinnedBy) = true := by kernel_rfl
theorem linearMakes_c30 : (Rows.linearMakesRow.veiled == (Tryz.f7.params.toList ++ Rows.linearMakesSpec.plain.varTypes Tryz.prog ++ Tryz.f7.resultTypes.toList).any (Tryz.prog.veiledRec ·)) = true := by kernel_rfl
theorem linearMakes_c31 : Rows.linearMakesRow.veiledFits Tryz.prog Tryz.f7.params.toList (Tryz.f7.params.toList ++ Rows.linearMakesSpec.plain.varTypes Tryz.prog ++ Tryz.f7.resultTypes.toList) = true := by kernel_rfl
set_option maxRecDepth 100000 in
theorem linearMakes_facts : joinedFacts Tryz.prog 7 Tryz.f7 Rows.linearMakesSpec Rows.linearMakesRow = true := by
  unfold joinedFacts
  exact Rb.and_ (Rb.and_ (Rb.and_ (Rb.and_ (Rb.and_ (Rb.and_ (Rb.and_ (Rb.and_ (Rb.and_ (Rb.and_ (Rb.and_ (Rb.and_ (Rb.and_ (Rb.and_ (Rb.and_ (Rb.and_ (Rb.and_ (Rb.and_ (Rb.and_ (Rb.and_ (Rb.and_ (Rb.and_ (Rb.and_ (Rb.and_ (Rb.and_ (Rb.and_ (Rb.and_ (Rb.and_ (Rb.and_ (Rb.and_ (Rb.and_ (linearMakes_c0) linearMakes_c1) linearMakes_c2) linearMakes_c3) linearMakes_c4) linearMakes_c5) linearMakes_c6) linearMakes_c7) linearMakes_c8) linearMakes_c9) linearMakes_c10) linearMakes_c11) linearMakes_c12) linearMakes_c13) linearMakes_c14) linearMakes_c15) linearMakes_c16) linearMakes_c17) linearMakes_c18) linearMakes_c19) linearMakes_c20) linearMakes_c21) linearMakes_c22) linearMakes_c23) linearMakes_c24) linearMakes_c25) linearMakes_c26) linearMakes_c27) linearMakes_c28) linearMakes_c29) linearMakes_c30) linearMakes_c31
theorem linearMakes_inst : Tryz.f7.isInstance Tryz.pinned.checked.prog Rows.linearMakesRow.origin Rows.linearMakesRow.targs := of_decide_eq_true (by kernel_rfl)
theorem linearMakes_wrap : Tryz.f7.isWrapper Tryz.pinned.checked.prog Rows.linearMakesRow.wrapper Rows.linearMakesRow.mainSum := by unfold Func.isWrapper; first | (rw [if_pos (by decide +kernel)]; kernel_rfl) | (rw [if_neg (by decide +kernel)]; exact ⟨rfl, rfl⟩)
theorem linearMakes_row : Rows.LinearMakesSaid :=
  OpenClaim.holds_of_wide 7 Tryz.f7 rfl rfl rfl rfl rfl rfl rfl ⟨rfl, rfl, rfl, rfl, rfl⟩ rfl rfl rfl rfl rfl linearMakes_name Tryz.func7 linearMakes_facts linearMakes_inst linearMakes_wrap
    (fun os started H enc _ => linearMakes_lifted os started H enc)
theorem linearMakes_wf : Rows.linearMakesRow.wfByText (OpenSpec.ofChange Rows.linearMakesSpec) = true := by kernel_rfl
theorem linearMakes_main : Tryz.pinned.checked.prog.mainIs = some (true, "aff9e78aeef47a1281ab7b7f84868ea84d778580fc1d5372a2f3aea51abd8a92".toList) := by kernel_rfl
theorem linearMakes_goes : false = Rows.linearMakesRow.goesBy Tryz.pinned.checked.prog := by kernel_rfl
theorem linearMakes_looks : true = Tryz.pinned.checked.prog.looks [] := by kernel_rfl
theorem linearMakes_std : ([3,3,23].all fun u => !Tryz.prog.wantsStandIn u) = true := by kernel_rfl
theorem linearMakes_at : ∀ f fn, Tryz.pinned.checked.prog.funcNamed Rows.linearMakesRow.func = some f → Tryz.pinned.checked.prog.funcs[f]? = some fn → true = Tryz.pinned.checked.prog.looks [] ∧ ∀ (j : Nat) t, fn.params[j]? = some t → Tryz.pinned.checked.prog.wantsStandIn t = false := fun f fn hf hfn => by
  obtain rfl : f = 7 := Option.some.inj (linearMakes_name.symm.trans hf) |>.symm
  obtain rfl : fn = Tryz.f7 := (Option.some.inj (Tryz.func7.symm.trans hfn)).symm
  exact ⟨linearMakes_looks, fun j t ht => by
    rw [Tryz.params7] at ht
    have hm : t ∈ [3,3,23] := by simpa using Array.mem_of_getElem? ht
    exact (show Tryz.prog.wantsStandIn t = false by simpa using List.all_eq_true.1 linearMakes_std t hm)⟩
theorem linearMakes_holds : Rows.LinearMakesCardSaid :=
  Claim7.holds_tied_plain_at .later [] [.data, .data, .data, .data, .sentinel, .sentinel, .pinned] true (true, "aff9e78aeef47a1281ab7b7f84868ea84d778580fc1d5372a2f3aea51abd8a92") true
    linearMakes_row (fun _ h => by cases h) linearMakes_wf (fun _ h => by cases h) linearMakes_row_tie rfl ⟨rfl, rfl⟩ linearMakes_main rfl linearMakes_at linearMakes_goes
#print axioms linearMakes_holds
end Go.Proofs.YtgihllbgjpcapaaGreatDoor
