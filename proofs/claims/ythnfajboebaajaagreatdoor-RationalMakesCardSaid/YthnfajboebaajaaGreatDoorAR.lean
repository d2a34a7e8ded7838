import Derived.Test.YthnfajboebaajaaGreatDoorCards
import Derived.Test.YthnfajboebaajaaGreatDoorTie
import Derived.Test.YthnfajboebaajaaGreatDoorAG11
import Derived.Test.YthnfajboebaajaaGreatDoorAP2
namespace Go.Proofs.YthnfajboebaajaaGreatDoor
open Go.ChangeShapes Go.WideShapes Go.ChangeAt Go.ChangeMaps Go.RowKit
set_option maxRecDepth 100000 in
theorem rationalMakes_lifted (os : Os) (started : os.Started) (H : Type) (enc : TypeId × Value → H) :
    ReturnsInHanded {} Tryz.checked os 4 .any (fun w args => (Rows.rationalMakesSpec.pre enc Tryz.prog Tryz.f4 [] false w args ∧ laidMetH Tryz.prog Rows.rationalMakesRow.laid w) ∧ sizedMet enc Tryz.prog Tryz.f4 (OpenSpec.ofChange Rows.rationalMakesSpec) false w args)
      (Rows.rationalMakesSpec.post enc Tryz.prog Tryz.f4 false true false false) := by
  refine returnsInHanded_of_change_and (C := Tryz.checked) (X := fun w _ => laidMetH Tryz.prog Rows.rationalMakesRow.laid w) (fun _ _ _ hh h => h.of_heap hh) Rb.own started (by kernel_rfl) Tryz.func4
    (ChangeSpec.witness_shaped (enc := enc) (C := Tryz.checked) (os := os) (X := fun w _ => laidMetH Tryz.prog Rows.rationalMakesRow.laid w) false (World.laidAll Tryz.prog os Rb.laid) #[.string ⟨#[]⟩, .string ⟨#[]⟩] 8 (World.laidAll_os _ _ _)
      (Rb.shaped os _) (by kernel_rfl) (by kernel_rfl) (by kernel_rfl) (Rb.met os _)) ?_
  intro W base args ds gs before hval0 hW _ _ hL _
  have hval : ∀ (j : Nat) t v, Tryz.f4.params[j]? = some t → args[j]? = some v → Value.okWide Tryz.prog W .any base t v := hval0
  have hW' := hW
  obtain ⟨p, q, hA0, hV, rfl, _, _⟩ := hW
  have hA : DataW.TrodAll enc Tryz.prog W 0 (fun _ => true) true Tryz.f4.params.toList args.toList ds p := hA0
  rw [Tryz.params4] at hA hval
  obtain ⟨v0, v1, d0, d1, p0, p1, rfl, rfl, rfl, h0, h1⟩ := trodAll_two hA
  obtain ⟨rfl, rfl⟩ := trodVars_none hV
  obtain ⟨s0, rfl, rfl, rfl, z0⟩ := open_string Tryz.underlying25 (hval 0 25 v0 rfl rfl) h0
  obtain ⟨s1, rfl, rfl, rfl, z1⟩ := open_string Tryz.underlying25 (hval 1 25 v1 rfl rfl) h1
  simp only [List.append_nil] at hW'
  obtain ⟨k, hk⟩ := PA.Makes_true s0 s1
  refine (PA.lWRationalMakes.calls k s0 s1 true W (Rb.of_laid hL) hk).mono fun e W' ⟨he, hb⟩ => ?_
  subst he
  exact ⟨_, rfl, _, _, _, [], [], [], hW', trodAll_mk1 (shut_bool Tryz.underlying4 _), trodAll_mk2 (shut_string Tryz.underlying25 z0) (shut_string Tryz.underlying25 z1), rfl, hb.frame _, fun h => by cases h⟩
theorem rationalMakes_name : Tryz.prog.funcNamed "surveyor/surveyorlaw02.RationalMakes" = some 4 := by kernel_rfl
theorem rationalMakes_c0 : Rows.rationalMakesRow.wf (OpenSpec.ofChange Rows.rationalMakesSpec) = true := by kernel_rfl
theorem rationalMakes_c1 : laidOutB Tryz.prog = true := by kernel_rfl
theorem rationalMakes_c2 : mapsRowed Tryz.prog = true := by kernel_rfl
theorem rationalMakes_c3 : Tryz.f4.params.all (Tryz.prog.readableRec ·) = true := by kernel_rfl
theorem rationalMakes_c4 : namedTie Tryz.prog Rows.rationalMakesRow.named Rows.rationalMakesSpec.vars = true := by kernel_rfl
theorem rationalMakes_c5 : (Rows.rationalMakesRow.stops == []) = true := by kernel_rfl
theorem rationalMakes_c6 : (Tryz.prog.stops == []) = true := by kernel_rfl
theorem rationalMakes_c7 : (Rows.rationalMakesRow.knobs == []) = true := by kernel_rfl
theorem rationalMakes_c8 : (Tryz.prog.stopKnobs == []) = true := by kernel_rfl
theorem rationalMakes_c9 : (Rows.rationalMakesRow.inPlace == Tryz.prog.inPlace 4) = true := by kernel_rfl
theorem rationalMakes_c10 : (Rows.rationalMakesRow.unfollowed == Tryz.prog.unfollowed 4) = true := by kernel_rfl
theorem rationalMakes_c11 : (Rows.rationalMakesRow.recurses == Tryz.prog.recurses 4) = true := by kernel_rfl
theorem rationalMakes_c12 : (Rows.rationalMakesRow.named == Tryz.prog.varsNamed 4) = true := by kernel_rfl
theorem rationalMakes_c13 : (Rows.rationalMakesRow.maps == (Tryz.f4.params.toList ++ Rows.rationalMakesSpec.plain.varTypes Tryz.prog).any (Tryz.prog.mapsRec ·)) = true := by kernel_rfl
theorem rationalMakes_c14 : (Rows.rationalMakesRow.ifaces == (Tryz.f4.params.toList ++ Rows.rationalMakesSpec.plain.varTypes Tryz.prog).any (Tryz.prog.ifacesRec ·)) = true := by kernel_rfl
theorem rationalMakes_c15 : (Rows.rationalMakesRow.mapsOut == Tryz.prog.mapsAmong Tryz.f4.resultTypes.toList) = true := by kernel_rfl
theorem rationalMakes_c16 : (Rows.rationalMakesRow.loops == (Tryz.f4.params.toList ++ Rows.rationalMakesSpec.plain.varTypes Tryz.prog).any (Tryz.prog.loopsFrom ·)) = true := by kernel_rfl
theorem rationalMakes_c17 : (Rows.rationalMakesRow.wideKeys == (Tryz.f4.params.toList ++ Rows.rationalMakesSpec.plain.varTypes Tryz.prog ++ Tryz.f4.resultTypes.toList).any (Tryz.prog.wideKeysFrom ·)) = true := by kernel_rfl
theorem rationalMakes_c18 : Rows.rationalMakesSpec.vars.all (Tryz.prog.varReadable ·) = true := by kernel_rfl
theorem rationalMakes_c19 : Tryz.f4.resultTypes.all (fun t => Tryz.prog.readableRec t && decide (t < Tryz.prog.types.size)) = true := by kernel_rfl
theorem rationalMakes_c20 : (Rows.rationalMakesRow.ifacesOut == Tryz.f4.resultTypes.toList.any (Tryz.prog.ifacesRec ·)) = true := by kernel_rfl
theorem rationalMakes_c21 : (Rows.rationalMakesRow.loopsOut == Tryz.f4.resultTypes.toList.any (Tryz.prog.loopsFrom ·)) = true := by kernel_rfl
theorem rationalMakes_c22 : (Rows.rationalMakesRow.plainKeys == Tryz.prog.plainKeys) = true := by kernel_rfl
theorem rationalMakes_c23 : Rows.rationalMakesRow.shortTexts.isNone = true := by kernel_rfl
theorem rationalMakes_c24 : Tryz.prog.stopsHeard = true := by kernel_rfl
theorem rationalMakes_c25 : Tryz.prog.mayEnter = true := by kernel_rfl
theorem rationalMakes_c26 : (Rows.rationalMakesRow.lifted == Tryz.prog.liftsFinal) = true := by kernel_rfl
theorem rationalMakes_c27 : (Tryz.prog.make == some Rows.rationalMakesRow.make) = true := by kernel_rfl
theorem rationalMakes_c28 : (Rows.rationalMakesRow.kinds == (if Rows.rationalMakesRow.domain.isEmpty then [] else Tryz.f4.params.toList.map fun t => match Tryz.prog.underlying t with | some (.int k) => some k | _ => none)) = true := by kernel_rfl
theorem rationalMakes_c29 : (Rows.rationalMakesRow.pinned == Rows.rationalMakesRow.pinnedBy) = true := by kernel_rfl
theorem rationalMakes_c30 : (Rows.rationalMakesRow.veiled == (Tryz.f4.params.toList ++ Rows.rationalMakesSpec.plain.varTypes Tryz.prog ++ Tryz.f4.resultTypes.toList).any (Tryz.prog.veiledRec ·)) = true := by kernel_rfl
theorem rationalMakes_c31 : Rows.rationalMakesRow.veiledFits Tryz.prog Tryz.f4.params.toList (Tryz.f4.params.toList ++ Rows.rationalMakesSpec.plain.varTypes Tryz.prog ++ Tryz.f4.resultTypes.toList) = true := by kernel_rfl
set_option maxRecDepth 100000 in
theorem rationalMakes_facts : joinedFacts Tryz.prog 4 Tryz.f4 Rows.rationalMakesSpec Rows.rationalMakesRow = true := by
  unfold joinedFacts
  exact Rb.and_ (Rb.and_ (Rb.and_ (Rb.and_ (Rb.and_ (Rb.and_ (Rb.and_ (Rb.and_ (Rb.and_ (Rb.and_ (Rb.and_ (Rb.and_ (Rb.and_ (Rb.and_ (Rb.and_ (Rb.and_ (Rb.and_ (Rb.and_ (Rb.and_ (Rb.and_ (Rb.and_ (Rb.and_ (Rb.and_ (Rb.and_ (Rb.and_ (Rb.and_ (Rb.and_ (Rb.and_ (Rb.and_ (Rb.and_ (Rb.and_ (rationalMakes_c0) rationalMakes_c1) rationalMakes_c2) rationalMakes_c3) rationalMakes_c4) rationalMakes_c5) rationalMakes_c6) rationalMakes_c7) rationalMakes_c8) rationalMakes_c9) rationalMakes_c10) rationalMakes_c11) rationalMakes_c12) rationalMakes_c13) rationalMakes_c14) rationalMakes_c15) rationalMakes_c16) rationalMakes_c17) rationalMakes_c18) rationalMakes_c19) rationalMakes_c20) rationalMakes_c21) rationalMakes_c22) rationalMakes_c23) rationalMakes_c24) rationalMakes_c25) rationalMakes_c26) rationalMakes_c27) rationalMakes_c28) rationalMakes_c29) rationalMakes_c30) rationalMakes_c31
theorem rationalMakes_inst : Tryz.f4.isInstance Tryz.pinned.checked.prog Rows.rationalMakesRow.origin Rows.rationalMakesRow.targs := of_decide_eq_true (by kernel_rfl)
theorem rationalMakes_wrap : Tryz.f4.isWrapper Tryz.pinned.checked.prog Rows.rationalMakesRow.wrapper Rows.rationalMakesRow.mainSum := by unfold Func.isWrapper; first | (rw [if_pos (by decide +kernel)]; kernel_rfl) | (rw [if_neg (by decide +kernel)]; exact ⟨rfl, rfl⟩)
theorem rationalMakes_row : Rows.RationalMakesSaid :=
  OpenClaim.holds_of_wide 4 Tryz.f4 rfl rfl rfl rfl rfl rfl rfl ⟨rfl, rfl, rfl, rfl, rfl⟩ rfl rfl rfl rfl rfl rationalMakes_name Tryz.func4 rationalMakes_facts rationalMakes_inst rationalMakes_wrap
    (fun os started H enc _ => rationalMakes_lifted os started H enc)
theorem rationalMakes_wf : Rows.rationalMakesRow.wfByText (OpenSpec.ofChange Rows.rationalMakesSpec) = true := by kernel_rfl
theorem rationalMakes_main : Tryz.pinned.checked.prog.mainIs = some (true, "72a18669e3a2f07bb33e8c9ef8118028dd2ba8cdef94a48170b8cfcc348586ec".toList) := by kernel_rfl
theorem rationalMakes_goes : false = Rows.rationalMakesRow.goesBy Tryz.pinned.checked.prog := by kernel_rfl
theorem rationalMakes_looks : true = Tryz.pinned.checked.prog.looks [] := by kernel_rfl
theorem rationalMakes_std : ([25,25].all fun u => !Tryz.prog.wantsStandIn u) = true := by kernel_rfl
theorem rationalMakes_at : ∀ f fn, Tryz.pinned.checked.prog.funcNamed Rows.rationalMakesRow.func = some f → Tryz.pinned.checked.prog.funcs[f]? = some fn → true = Tryz.pinned.checked.prog.looks [] ∧ ∀ (j : Nat) t, fn.params[j]? = some t → Tryz.pinned.checked.prog.wantsStandIn t = false := fun f fn hf hfn => by
  obtain rfl : f = 4 := Option.some.inj (rationalMakes_name.symm.trans hf) |>.symm
  obtain rfl : fn = Tryz.f4 := (Option.some.inj (Tryz.func4.symm.trans hfn)).symm
  exact ⟨rationalMakes_looks, fun j t ht => by
    rw [Tryz.params4] at ht
    have hm : t ∈ [25,25] := by simpa using Array.mem_of_getElem? ht
    exact (show Tryz.prog.wantsStandIn t = false by simpa using List.all_eq_true.1 rationalMakes_std t hm)⟩
theorem rationalMakes_holds : Rows.RationalMakesCardSaid :=
  Claim7.holds_tied_plain_at .later [] [.data, .data, .data, .data, .sentinel, .sentinel, .pinned] true (true, "72a18669e3a2f07bb33e8c9ef8118028dd2ba8cdef94a48170b8cfcc348586ec") true
    rationalMakes_row (fun _ h => by cases h) rationalMakes_wf (fun _ h => by cases h) rationalMakes_row_tie rfl ⟨rfl, rfl⟩ rationalMakes_main rfl rationalMakes_at rationalMakes_goes
#print axioms rationalMakes_holds
end Go.Proofs.YthnfajboebaajaaGreatDoor
