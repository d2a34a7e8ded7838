import Derived.Test.YthnfajboebaajaaGreatDoorCards
import Derived.Test.YthnfajboebaajaaGreatDoorTie
import Derived.Test.YthnfajboebaajaaGreatDoorAT1
import Derived.Test.YthnfajboebaajaaGreatDoorAG9
namespace Go.Proofs.YthnfajboebaajaaGreatDoor
open Go.ChangeShapes Go.WideShapes Go.ChangeAt Go.ChangeMaps Go.RowKit
theorem rational_c25 : Tryz.prog.cellsOf 25 = 1 := by kernel_rfl
theorem rational_c45 : Tryz.prog.cellsOf 45 = 2 := by kernel_rfl
set_option maxRecDepth 100000 in
theorem rationalReturns_lifted (os : Os) (started : os.Started) (H : Type) (enc : TypeId × Value → H) :
    ReturnsInHanded {} Tryz.checked os 6 .any (fun w args => (Rows.rationalReturnsSpec.pre enc Tryz.prog Tryz.f6 [] false w args ∧ laidMetH Tryz.prog Rows.rationalReturnsRow.laid w) ∧ sizedMet enc Tryz.prog Tryz.f6 (OpenSpec.ofChange Rows.rationalReturnsSpec) false w args)
      (Rows.rationalReturnsSpec.post enc Tryz.prog Tryz.f6 false true false false) := by
  refine returnsInHanded_of_change_and (C := Tryz.checked) (X := fun w _ => laidMetH Tryz.prog Rows.rationalReturnsRow.laid w) (fun _ _ _ hh h => h.of_heap hh) Rb.own started (by kernel_rfl) Tryz.func6
    (ChangeSpec.witness_shaped (enc := enc) (C := Tryz.checked) (os := os) (X := fun w _ => laidMetH Tryz.prog Rows.rationalReturnsRow.laid w) false (World.laidAll Tryz.prog os Rb.laid) #[.agg #[.string ⟨#[]⟩, .string ⟨#[]⟩], .agg #[.string ⟨#[]⟩, .string ⟨#[]⟩]] 8 (World.laidAll_os _ _ _)
      (Rb.shaped os _) (by kernel_rfl) (by kernel_rfl) (by kernel_rfl) (Rb.met os _)) ?_
  intro W base args ds gs before hval0 hW _ _ hL _
  have hval : ∀ (j : Nat) t v, Tryz.f6.params[j]? = some t → args[j]? = some v → Value.okWide Tryz.prog W .any base t v := hval0
  have hW' := hW
  obtain ⟨p, q, hA0, hV, rfl, _, _⟩ := hW
  have hA : DataW.TrodAll enc Tryz.prog W 0 (fun _ => true) true Tryz.f6.params.toList args.toList ds p := hA0
  rw [Tryz.params6] at hA hval
  obtain ⟨v0, v1, d0, d1, p0, p1, rfl, rfl, rfl, h0, h1⟩ := trodAll_two hA
  obtain ⟨rfl, rfl⟩ := trodVars_none hV
  obtain ⟨s0, s1, rfl, rfl, rfl, z0, z1⟩ := open_arr2 Tryz.underlying45 Tryz.underlying25 rational_c25 rational_c45 (hval 0 45 v0 rfl rfl) h0
  obtain ⟨s2, s3, rfl, rfl, rfl, z2, z3⟩ := open_arr2 Tryz.underlying45 Tryz.underlying25 rational_c25 rational_c45 (hval 1 45 v1 rfl rfl) h1
  simp only [List.append_nil] at hW'
  refine (PA.Returns_true s0 s1 s2 s3 W (Rb.of_laid hL)).mono fun e W' ⟨he, hb⟩ => ?_
  subst he
  exact ⟨_, rfl, _, _, _, [], [], [], hW', trodAll_mk1 (shut_bool Tryz.underlying4 _), trodAll_mk2 (shut_arr2 Tryz.underlying45 Tryz.underlying25 rational_c25 rational_c45 z0 z1) (shut_arr2 Tryz.underlying45 Tryz.underlying25 rational_c25 rational_c45 z2 z3), rfl, hb.frame _, fun h => by cases h⟩
theorem rationalReturns_name : Tryz.prog.funcNamed "surveyor/surveyorlaw02.RationalReturns" = some 6 := by kernel_rfl
theorem rationalReturns_c0 : Rows.rationalReturnsRow.wf (OpenSpec.ofChange Rows.rationalReturnsSpec) = true := by kernel_rfl
theorem rationalReturns_c1 : laidOutB Tryz.prog = true := by kernel_rfl
theorem rationalReturns_c2 : mapsRowed Tryz.prog = true := by kernel_rfl
theorem rationalReturns_c3 : Tryz.f6.params.all (Tryz.prog.readableRec ·) = true := by kernel_rfl
theorem rationalReturns_c4 : namedTie Tryz.prog Rows.rationalReturnsRow.named Rows.rationalReturnsSpec.vars = true := by kernel_rfl
theorem rationalReturns_c5 : (Rows.rationalReturnsRow.stops == []) = true := by kernel_rfl
theorem rationalReturns_c6 : (Tryz.prog.stops == []) = true := by kernel_rfl
theorem rationalReturns_c7 : (Rows.rationalReturnsRow.knobs == []) = true := by kernel_rfl
theorem rationalReturns_c8 : (Tryz.prog.stopKnobs == []) = true := by kernel_rfl
theorem rationalReturns_c9 : (Rows.rationalReturnsRow.inPlace == Tryz.prog.inPlace 6) = true := by kernel_rfl
theorem rationalReturns_c10 : (Rows.rationalReturnsRow.unfollowed == Tryz.prog.unfollowed 6) = true := by kernel_rfl
theorem rationalReturns_c11 : (Rows.rationalReturnsRow.recurses == Tryz.prog.recurses 6) = true := by kernel_rfl
theorem rationalReturns_c12 : (Rows.rationalReturnsRow.named == Tryz.prog.varsNamed 6) = true := by kernel_rfl
theorem rationalReturns_c13 : (Rows.rationalReturnsRow.maps == (Tryz.f6.params.toList ++ Rows.rationalReturnsSpec.plain.varTypes Tryz.prog).any (Tryz.prog.mapsRec ·)) = true := by kernel_rfl
theorem rationalReturns_c14 : (Rows.rationalReturnsRow.ifaces == (Tryz.f6.params.toList ++ Rows.rationalReturnsSpec.plain.varTypes Tryz.prog).any (Tryz.prog.ifacesRec ·)) = true := by kernel_rfl
theorem rationalReturns_c15 : (Rows.rationalReturnsRow.mapsOut == Tryz.prog.mapsAmong Tryz.f6.resultTypes.toList) = true := by kernel_rfl
theorem rationalReturns_c16 : (Rows.rationalReturnsRow.loops == (Tryz.f6.params.toList ++ Rows.rationalReturnsSpec.plain.varTypes Tryz.prog).any (Tryz.prog.loopsFrom ·)) = true := by kernel_rfl
theorem rationalReturns_c17 : (Rows.rationalReturnsRow.wideKeys == (Tryz.f6.params.toList ++ Rows.rationalReturnsSpec.plain.varTypes Tryz.prog ++ Tryz.f6.resultTypes.toList).any (Tryz.prog.wideKeysFrom ·)) = true := by kernel_rfl
theorem rationalReturns_c18 : Rows.rationalReturnsSpec.vars.all (Tryz.prog.varReadable ·) = true := by kernel_rfl
theorem rationalReturns_c19 : Tryz.f6.resultTypes.all (fun t => Tryz.prog.readableRec t && decide (t < Tryz.prog.types.size)) = true := by kernel_rfl
theorem rationalReturns_c20 : (Rows.rationalReturnsRow.ifacesOut == Tryz.f6.resultTypes.toList.any (Tryz.prog.ifacesRec ·)) = true := by kernel_rfl
theorem rationalReturns_c21 : (Rows.rationalReturnsRow.loopsOut == Tryz.f6.resultTypes.toList.any (Tryz.prog.loopsFrom ·)) = true := by kernel_rfl
theorem rationalReturns_c22 : (Rows.rationalReturnsRow.plainKeys == Tryz.prog.plainKeys) = true := by kernel_rfl
theorem rationalReturns_c23 : Rows.rationalReturnsRow.shortTexts.isNone = true := by kernel_rfl
theorem rationalReturns_c24 : Tryz.prog.stopsHeard = true := by kernel_rfl
theorem rationalReturns_c25 : Tryz.prog.mayEnter = true := by kernel_rfl
theorem rationalReturns_c26 : (Rows.rationalReturnsRow.lifted == Tryz.prog.liftsFinal) = true := by kernel_rfl
theorem rationalReturns_c27 : (Tryz.prog.make == some Rows.rationalReturnsRow.make) = true := by kernel_rfl
theorem rationalReturns_c28 : (Rows.rationalReturnsRow.kinds == (if Rows.rationalReturnsRow.domain.isEmpty then [] else Tryz.f6.params.toList.map fun t => match Tryz.prog.underlying t with | some (.int k) => some k | _ => none)) = true := by kernel_rfl
theorem rationalReturns_c29 : (Rows.rationalReturnsRow.pinned == Rows.rationalReturnsRow.pinnedBy) = true := by kernel_rfl
theorem rationalReturns_c30 : (Rows.rationalReturnsRow.veiled == (Tryz.f6.params.toList ++ Rows.rationalReturnsSpec.plain.varTypes Tryz.prog ++ Tryz.f6.resultTypes.toList).any (Tryz.prog.veiledRec ·)) = true := by kernel_rfl
theorem rationalReturns_c31 : Rows.rationalReturnsRow.veiledFits Tryz.prog Tryz.f6.params.toList (Tryz.f6.params.toList ++ Rows.rationalReturnsSpec.plain.varTypes Tryz.prog ++ Tryz.f6.resultTypes.toList) = true := by kernel_rfl
set_option maxRecDepth 100000 in
theorem rationalReturns_facts : joinedFacts Tryz.prog 6 Tryz.f6 Rows.rationalReturnsSpec Rows.rationalReturnsRow = true := by
  unfold joinedFacts
  exact Rb.and_ (Rb.and_ (Rb.and_ (Rb.and_ (Rb.and_ (Rb.and_ (Rb.and_ (Rb.and_ (Rb.and_ (Rb.and_ (Rb.and_ (Rb.and_ (Rb.and_ (Rb.and_ (Rb.and_ (Rb.and_ (Rb.and_ (Rb.and_ (Rb.and_ (Rb.and_ (Rb.and_ (Rb.and_ (Rb.and_ (Rb.and_ (Rb.and_ (Rb.and_ (Rb.and_ (Rb.and_ (Rb.and_ (Rb.and_ (Rb.and_ (rationalReturns_c0) rationalReturns_c1) rationalReturns_c2) rationalReturns_c3) rationalReturns_c4) rationalReturns_c5) rationalReturns_c6) rationalReturns_c7) rationalReturns_c8) rationalReturns_c9) rationalReturns_c10) rationalReturns_c11) rationalReturns_c12) rationalReturns_c13) rationalReturns_c14) rationalReturns_c15) rationalReturns_c16) rationalReturns_c17) rationalReturns_c18) rationalReturns_c19) rationalReturns_c20) rationalReturns_c21) rationalReturns_c22) rationalReturns_c23) rationalReturns_c24) rationalReturns_c25) rationalReturns_c26) rationalReturns_c27) rationalReturns_c28) rationalReturns_c29) rationalReturns_c30) rationalReturns_c31
theorem rationalReturns_inst : Tryz.f6.isInstance Tryz.pinned.checked.prog Rows.rationalReturnsRow.origin Rows.rationalReturnsRow.targs := of_decide_eq_true (by kernel_rfl)
theorem rationalReturns_wrap : Tryz.f6.isWrapper Tryz.pinned.checked.prog Rows.rationalReturnsRow.wrapper Rows.rationalReturnsRow.mainSum := by unfold Func.isWrapper; first | (rw [if_pos (by decide +kernel)]; kernel_rfl) | (rw [if_neg (by decide +kernel)]; exact ⟨rfl, rfl⟩)
theorem rationalReturns_row : Rows.RationalReturnsSaid :=
  OpenClaim.holds_of_wide 6 Tryz.f6 rfl rfl rfl rfl rfl rfl rfl ⟨rfl, rfl, rfl, rfl, rfl⟩ rfl rfl rfl rfl rfl rationalReturns_name Tryz.func6 rationalReturns_facts rationalReturns_inst rationalReturns_wrap
    (fun os started H enc _ => rationalReturns_lifted os started H enc)
theorem rationalReturns_wf : Rows.rationalReturnsRow.wfByText (OpenSpec.ofChange Rows.rationalReturnsSpec) = true := by kernel_rfl
theorem rationalReturns_main : Tryz.pinned.checked.prog.mainIs = some (true, "72a18669e3a2f07bb33e8c9ef8118028dd2ba8cdef94a48170b8cfcc348586ec".toList) := by kernel_rfl
theorem rationalReturns_goes : false = Rows.rationalReturnsRow.goesBy Tryz.pinned.checked.prog := by kernel_rfl
theorem rationalReturns_looks : true = Tryz.pinned.checked.prog.looks [] := by kernel_rfl
theorem rationalReturns_std : ([45,45].all fun u => !Tryz.prog.wantsStandIn u) = true := by kernel_rfl
theorem rationalReturns_at : ∀ f fn, Tryz.pinned.checked.prog.funcNamed Rows.rationalReturnsRow.func = some f → Tryz.pinned.checked.prog.funcs[f]? = some fn → true = Tryz.pinned.checked.prog.looks [] ∧ ∀ (j : Nat) t, fn.params[j]? = some t → Tryz.pinned.checked.prog.wantsStandIn t = false := fun f fn hf hfn => by
  obtain rfl : f = 6 := Option.some.inj (rationalReturns_name.symm.trans hf) |>.symm
  obtain rfl : fn = Tryz.f6 := (Option.some.inj (Tryz.func6.symm.trans hfn)).symm
  exact ⟨rationalReturns_looks, fun j t ht => by
    rw [Tryz.params6] at ht
    have hm : t ∈ [45,45] := by simpa using Array.mem_of_getElem? ht
    exact (show Tryz.prog.wantsStandIn t = false by simpa using List.all_eq_true.1 rationalReturns_std t hm)⟩
theorem rationalReturns_holds : Rows.RationalReturnsCardSaid :=
  Claim7.holds_tied_plain_at .later [] [.data, .data, .data, .data, .sentinel, .sentinel, .pinned] true (true, "72a18669e3a2f07bb33e8c9ef8118028dd2ba8cdef94a48170b8cfcc348586ec") true
    rationalReturns_row (fun _ h => by cases h) rationalReturns_wf (fun _ h => by cases h) rationalReturns_row_tie rfl ⟨rfl, rfl⟩ rationalReturns_main rfl rationalReturns_at rationalReturns_goes
#print axioms rationalReturns_holds
end Go.Proofs.YthnfajboebaajaaGreatDoor
