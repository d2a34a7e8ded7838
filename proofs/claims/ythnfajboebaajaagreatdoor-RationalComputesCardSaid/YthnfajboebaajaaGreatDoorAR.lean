import Derived.Test.YthnfajboebaajaaGreatDoorCards
import Derived.Test.YthnfajboebaajaaGreatDoorTie
import Derived.Test.YthnfajboebaajaaGreatDoorAG12
import Derived.Test.YthnfajboebaajaaGreatDoorAP3
namespace Go.Proofs.YthnfajboebaajaaGreatDoor
open Go.ChangeShapes Go.WideShapes Go.ChangeAt Go.ChangeMaps Go.RowKit
set_option maxRecDepth 100000 in
theorem rationalComputes_lifted (os : Os) (started : os.Started) (H : Type) (enc : TypeId × Value → H) :
    ReturnsInHanded {} Tryz.checked os 9 .any (fun w args => (Rows.rationalComputesSpec.pre enc Tryz.prog Tryz.f9 [] false w args ∧ laidMetH Tryz.prog Rows.rationalComputesRow.laid w) ∧ sizedMet enc Tryz.prog Tryz.f9 (OpenSpec.ofChange Rows.rationalComputesSpec) false w args)
      (Rows.rationalComputesSpec.post enc Tryz.prog Tryz.f9 false true false false) := by
  refine returnsInHanded_of_change_and (C := Tryz.checked) (X := fun w _ => laidMetH Tryz.prog Rows.rationalComputesRow.laid w) (fun _ _ _ hh h => h.of_heap hh) Rb.own started (by kernel_rfl) Tryz.func9
    (ChangeSpec.witness_shaped (enc := enc) (C := Tryz.checked) (os := os) (X := fun w _ => laidMetH Tryz.prog Rows.rationalComputesRow.laid w) false (World.laidAll Tryz.prog os Rb.laid) #[.string ⟨#[]⟩, .string ⟨#[]⟩] 8 (World.laidAll_os _ _ _)
      (Rb.shaped os _) (by kernel_rfl) (by kernel_rfl) (by kernel_rfl) (Rb.met os _)) ?_
  intro W base args ds gs before hval0 hW _ _ hL _
  have hval : ∀ (j : Nat) t v, Tryz.f9.params[j]? = some t → args[j]? = some v → Value.okWide Tryz.prog W .any base t v := hval0
  have hW' := hW
  obtain ⟨p, q, hA0, hV, rfl, _, _⟩ := hW
  have hA : DataW.TrodAll enc Tryz.prog W 0 (fun _ => true) true Tryz.f9.params.toList args.toList ds p := hA0
  rw [Tryz.params9] at hA hval
  obtain ⟨v0, v1, d0, d1, p0, p1, rfl, rfl, rfl, h0, h1⟩ := trodAll_two hA
  obtain ⟨rfl, rfl⟩ := trodVars_none hV
  obtain ⟨s0, rfl, rfl, rfl, z0⟩ := open_string Tryz.underlying22 (hval 0 22 v0 rfl rfl) h0
  obtain ⟨s1, rfl, rfl, rfl, z1⟩ := open_string Tryz.underlying22 (hval 1 22 v1 rfl rfl) h1
  simp only [List.append_nil] at hW'
  obtain ⟨k, hk⟩ := PA.Computes_true s0 s1
  refine (PA.lWRationalComputes.calls k s0 s1 true W (Rb.of_laid hL) hk).mono fun e W' ⟨he, hb⟩ => ?_
  subst he
  exact ⟨_, rfl, _, _, _, [], [], [], hW', trodAll_mk1 (shut_bool Tryz.underlying4 _), trodAll_mk2 (shut_string Tryz.underlying22 z0) (shut_string Tryz.underlying22 z1), rfl, hb.frame _, fun h => by cases h⟩
theorem rationalComputes_name : Tryz.prog.funcNamed "surveyor/surveyorlaw02.RationalComputes" = some 9 := by kernel_rfl
theorem rationalComputes_c0 : Rows.rationalComputesRow.wf (OpenSpec.ofChange Rows.rationalComputesSpec) = true := by kernel_rfl
theorem rationalComputes_c1 : laidOutB Tryz.prog = true := by kernel_rfl
theorem rationalComputes_c2 : mapsRowed Tryz.prog = true := by kernel_rfl
theorem rationalComputes_c3 : Tryz.f9.params.all (Tryz.prog.readableRec ·) = true := by kernel_rfl
theorem rationalComputes_c4 : namedTie Tryz.prog Rows.rationalComputesRow.named Rows.rationalComputesSpec.vars = true := by kernel_rfl
theorem rationalComputes_c5 : (Rows.rationalComputesRow.stops == []) = true := by kernel_rfl
theorem rationalComputes_c6 : (Tryz.prog.stops == []) = true := by kernel_rfl
theorem rationalComputes_c7 : (Rows.rationalComputesRow.knobs == []) = true := by kernel_rfl
theorem rationalComputes_c8 : (Tryz.prog.stopKnobs == []) = true := by kernel_rfl
theorem rationalComputes_c9 : (Rows.rationalComputesRow.inPlace == Tryz.prog.inPlace 9) = true := by kernel_rfl
theorem rationalComputes_c10 : (Rows.rationalComputesRow.unfollowed == Tryz.prog.unfollowed 9) = true := by kernel_rfl
theorem rationalComputes_c11 : (Rows.rationalComputesRow.recurses == Tryz.prog.recurses 9) = true := by kernel_rfl
theorem rationalComputes_c12 : (Rows.rationalComputesRow.named == Tryz.prog.varsNamed 9) = true := by kernel_rfl
theorem rationalComputes_c13 : (Rows.rationalComputesRow.maps == (Tryz.f9.params.toList ++ Rows.rationalComputesSpec.plain.varTypes Tryz.prog).any (Tryz.prog.mapsRec ·)) = true := by kernel_rfl
theorem rationalComputes_c14 : (Rows.rationalComputesRow.ifaces == (Tryz.f9.params.toList ++ Rows.rationalComputesSpec.plain.varTypes Tryz.prog).any (Tryz.prog.ifacesRec ·)) = true := by kernel_rfl
theorem rationalComputes_c15 : (Rows.rationalComputesRow.mapsOut == Tryz.prog.mapsAmong Tryz.f9.resultTypes.toList) = true := by kernel_rfl
theorem rationalComputes_c16 : (Rows.rationalComputesRow.loops == (Tryz.f9.params.toList ++ Rows.rationalComputesSpec.plain.varTypes Tryz.prog).any (Tryz.prog.loopsFrom ·)) = true := by kernel_rfl
theorem rationalComputes_c17 : (Rows.rationalComputesRow.wideKeys == (Tryz.f9.params.toList ++ Rows.rationalComputesSpec.plain.varTypes Tryz.prog ++ Tryz.f9.resultTypes.toList).any (Tryz.prog.wideKeysFrom ·)) = true := by kernel_rfl
theorem rationalComputes_c18 : Rows.rationalComputesSpec.vars.all (Tryz.prog.varReadable ·) = true := by kernel_rfl
theorem rationalComputes_c19 : Tryz.f9.resultTypes.all (fun t => Tryz.prog.readableRec t && decide (t < Tryz.prog.types.size)) = true := by kernel_rfl
theorem rationalComputes_c20 : (Rows.rationalComputesRow.ifacesOut == Tryz.f9.resultTypes.toList.any (Tryz.prog.ifacesRec ·)) = true := by kernel_rfl
theorem rationalComputes_c21 : (Rows.rationalComputesRow.loopsOut == Tryz.f9.resultTypes.toList.any (Tryz.prog.loopsFrom ·)) = true := by kernel_rfl
theorem rationalComputes_c22 : (Rows.rationalComputesRow.plainKeys == Tryz.prog.plainKeys) = true := by kernel_rfl
theorem rationalComputes_c23 : Rows.rationalComputesRow.shortTexts.isNone = true := by kernel_rfl
theorem rationalComputes_c24 : Tryz.prog.stopsHeard = true := by kernel_rfl
theorem rationalComputes_c25 : Tryz.prog.mayEnter = true := by kernel_rfl
theorem rationalComputes_c26 : (Rows.rationalComputesRow.lifted == Tryz.prog.liftsFinal) = true := by kernel_rfl
theorem rationalComputes_c27 : (Tryz.prog.make == some Rows.rationalComputesRow.make) = true := by kernel_rfl
theorem rationalComputes_c28 : (Rows.rationalComputesRow.kinds == (if Rows.rationalComputesRow.domain.isEmpty then [] else Tryz.f9.params.toList.map fun t => match Tryz.prog.underlying t with | some (.int k) => some k | _ => none)) = true := by kernel_rfl
theorem rationalComputes_c29 : (Rows.rationalComputesRow.pinned == Rows.rationalComputesRow.pinnedBy) = true := by kernel_rfl
theorem rationalComputes_c30 : (Rows.rationalComputesRow.veiled == (Tryz.f9.params.toList ++ Rows.rationalComputesSpec.plain.varTypes Tryz.prog ++ Tryz.f9.resultTypes.toList).any (Tryz.prog.veiledRec ·)) = true := by kernel_rfl
theorem rationalComputes_c31 : Rows.rationalComputesRow.veiledFits Tryz.prog Tryz.f9.params.toList (Tryz.f9.params.toList ++ Rows.rationalComputesSpec.plain.varTypes Tryz.prog ++ Tryz.f9.resultTypes.toList) = true := by kernel_rfl
set_option maxRecDepth 100000 in
theorem rationalComputes_facts : joinedFacts Tryz.prog 9 Tryz.f9 Rows.rationalComputesSpec Rows.rationalComputesRow = true := by
  unfold joinedFacts
  exact Rb.and_ (Rb.and_ (Rb.and_ (Rb.and_ (Rb.and_ (Rb.and_ (Rb.and_ (Rb.and_ (Rb.and_ (Rb.and_ (Rb.and_ (Rb.and_ (Rb.and_ (Rb.and_ (Rb.and_ (Rb.and_ (Rb.and_ (Rb.and_ (Rb.and_ (Rb.and_ (Rb.and_ (Rb.and_ (Rb.and_ (Rb.and_ (Rb.and_ (Rb.and_ (Rb.and_ (Rb.and_ (Rb.and_ (Rb.and_ (Rb.and_ (rationalComputes_c0) rationalComputes_c1) rationalComputes_c2) rationalComputes_c3) rationalComputes_c4) rationalComputes_c5) rationalComputes_c6) rationalComputes_c7) rationalComputes_c8) rationalComputes_c9) rationalComputes_c10) rationalComputes_c11) rationalComputes_c12) rationalComputes_c13) rationalComputes_c14) rationalComputes_c15) rationalComputes_c16) rationalComputes_c17) rationalComputes_c18) rationalComputes_c19) rationalComputes_c20) rationalComputes_c21) rationalComputes_c22) rationalComputes_c23) rationalComputes_c24) rationalComputes_c25) rationalComputes_c26) rationalComputes_c27) rationalComputes_c28) rationalComputes_c29) rationalComputes_c30) rationalComputes_c31
theorem rationalComputes_inst : Tryz.f9.isInstance Tryz.pinned.checked.prog Rows.rationalComputesRow.origin Rows.rationalComputesRow.targs := of_decide_eq_true (by kernel_rfl)
theorem rationalComputes_wrap : Tryz.f9.isWrapper Tryz.pinned.checked.prog Rows.rationalComputesRow.wrapper Rows.rationalComputesRow.mainSum := by unfold Func.isWrapper; first | (rw [if_pos (by decide +kernel)]; kernel_rfl) | (rw [if_neg (by decide +kernel)]; exact ⟨rfl, rfl⟩)
theorem rationalComputes_row : Rows.RationalComputesSaid :=
  OpenClaim.holds_of_wide 9 Tryz.f9 rfl rfl rfl rfl rfl rfl rfl ⟨rfl, rfl, rfl, rfl, rfl⟩ rfl rfl rfl rfl rfl rationalComputes_name Tryz.func9 rationalComputes_facts rationalComputes_inst rationalComputes_wrap
    (fun os started H enc _ => rationalComputes_lifted os started H enc)
theorem rationalComputes_wf : Rows.rationalComputesRow.wfByText (OpenSpec.ofChange Rows.rationalComputesSpec) = true := by kernel_rfl
theorem rationalComputes_main : Tryz.pinned.checked.prog.mainIs = some (true, "72a18669e3a2f07bb33e8c9ef8118028dd2ba8cdef94a48170b8cfcc348586ec".toList) := by kernel_rfl
theorem rationalComputes_goes : false = Rows.rationalComputesRow.goesBy Tryz.pinned.checked.prog := by kernel_rfl
theorem rationalComputes_looks : true = Tryz.pinned.checked.prog.looks [] := by kernel_rfl
theorem rationalComputes_std : ([22,22].all fun u => !Tryz.prog.wantsStandIn u) = true := by kernel_rfl
theorem rationalComputes_at : ∀ f fn, Tryz.pinned.checked.prog.funcNamed Rows.rationalComputesRow.func = some f → Tryz.pinned.checked.prog.funcs[f]? = some fn → true = Tryz.pinned.checked.prog.looks [] ∧ ∀ (j : Nat) t, fn.params[j]? = some t → Tryz.pinned.checked.prog.wantsStandIn t = false := fun f fn hf hfn => by
  obtain rfl : f = 9 := Option.some.inj (rationalComputes_name.symm.trans hf) |>.symm
  obtain rfl : fn = Tryz.f9 := (Option.some.inj (Tryz.func9.symm.trans hfn)).symm
  exact ⟨rationalComputes_looks, fun j t ht => by
    rw [Tryz.params9] at ht
    have hm : t ∈ [22,22] := by simpa using Array.mem_of_getElem? ht
    exact (show Tryz.prog.wantsStandIn t = false by simpa using List.all_eq_true.1 rationalComputes_std t hm)⟩
theorem rationalComputes_holds : Rows.RationalComputesCardSaid :=
  Claim7.holds_tied_plain_at .later [] [.data, .data, .data, .data, .sentinel, .sentinel, .pinned] true (true, "72a18669e3a2f07bb33e8c9ef8118028dd2ba8cdef94a48170b8cfcc348586ec") true
    rationalComputes_row (fun _ h => by cases h) rationalComputes_wf (fun _ h => by cases h) rationalComputes_row_tie rfl ⟨rfl, rfl⟩ rationalComputes_main rfl rationalComputes_at rationalComputes_goes
#print axioms rationalComputes_holds
end Go.Proofs.YthnfajboebaajaaGreatDoor
