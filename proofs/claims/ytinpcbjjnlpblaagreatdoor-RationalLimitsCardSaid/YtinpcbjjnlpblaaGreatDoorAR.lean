import Derived.Test.YtinpcbjjnlpblaaGreatDoorCards
import Derived.Test.YtinpcbjjnlpblaaGreatDoorTie
import Derived.Test.YtinpcbjjnlpblaaGreatDoorAT1
import Derived.Test.YtinpcbjjnlpblaaGreatDoorAG11
namespace Go.Proofs.YtinpcbjjnlpblaaGreatDoor
open Go.ChangeShapes Go.WideShapes Go.ChangeAt Go.ChangeMaps Go.RowKit
set_option maxRecDepth 100000 in
theorem rationalLimits_lifted (os : Os) (started : os.Started) (H : Type) (enc : TypeId × Value → H) :
    ReturnsInHanded {} Tryz.checked os 3 .any (fun w args => (Rows.rationalLimitsSpec.pre enc Tryz.prog Tryz.f3 [] false w args ∧ laidMetH Tryz.prog Rows.rationalLimitsRow.laid w) ∧ sizedMet enc Tryz.prog Tryz.f3 (OpenSpec.ofChange Rows.rationalLimitsSpec) false w args)
      (Rows.rationalLimitsSpec.post enc Tryz.prog Tryz.f3 false true false false) := by
  refine returnsInHanded_of_change_and (C := Tryz.checked) (X := fun w _ => laidMetH Tryz.prog Rows.rationalLimitsRow.laid w) (fun _ _ _ hh h => h.of_heap hh) Rb.own started (by kernel_rfl) Tryz.func3
    (ChangeSpec.witness_shaped (enc := enc) (C := Tryz.checked) (os := os) (X := fun w _ => laidMetH Tryz.prog Rows.rationalLimitsRow.laid w) false (World.laidAll Tryz.prog os Rb.laid) #[.agg #[.int .u16 0, .int .u8 0], .agg #[.int .u16 0, .int .u8 0]] 8 (World.laidAll_os _ _ _)
      (Rb.shaped os _) (by kernel_rfl) (by kernel_rfl) (by kernel_rfl) (Rb.met os _)) ?_
  intro W base args ds gs before hval0 hW _ _ hL _
  have hval : ∀ (j : Nat) t v, Tryz.f3.params[j]? = some t → args[j]? = some v → Value.okWide Tryz.prog W .any base t v := hval0
  have hW' := hW
  obtain ⟨p, q, hA0, hV, rfl, _, _⟩ := hW
  have hA : DataW.TrodAll enc Tryz.prog W 0 (fun _ => true) true Tryz.f3.params.toList args.toList ds p := hA0
  rw [Tryz.params3] at hA hval
  obtain ⟨v0, v1, d0, d1, p0, p1, rfl, rfl, rfl, h0, h1⟩ := trodAll_two hA
  obtain ⟨rfl, rfl⟩ := trodVars_none hV
  obtain ⟨z0, a0, rfl, rfl, rfl, f0, g0⟩ := open_long (hval 0 24 v0 rfl rfl) h0
  obtain ⟨z1, a1, rfl, rfl, rfl, f1, g1⟩ := open_long (hval 1 24 v1 rfl rfl) h1
  simp only [List.append_nil] at hW'
  have bd : ∀ z a : Int, (Lit.int .u16 z).wf = true → (Lit.int .u8 a).wf = true → 0 ≤ z ∧ z < 65536 ∧ 0 ≤ a ∧ a < 256 := fun z a h h' => long_bounds h h'
  refine (PA.Limits_true z0 a0 z1 a1 (bd _ _ f0 g0) (bd _ _ f1 g1) W (Rb.of_laid hL)).mono fun e W' ⟨he, hb⟩ => ?_
  subst he
  exact ⟨_, rfl, _, _, _, [], [], [], hW', trodAll_mk1 (shut_bool Tryz.underlying4 _), trodAll_mk2 (shut_long f0 g0) (shut_long f1 g1), rfl, hb.frame _, fun h => by cases h⟩
theorem rationalLimits_name : Tryz.prog.funcNamed "surveyor/surveyorlaw02.RationalLimits" = some 3 := by kernel_rfl
theorem rationalLimits_c0 : Rows.rationalLimitsRow.wf (OpenSpec.ofChange Rows.rationalLimitsSpec) = true := by kernel_rfl
theorem rationalLimits_c1 : laidOutB Tryz.prog = true := by kernel_rfl
theorem rationalLimits_c2 : mapsRowed Tryz.prog = true := by kernel_rfl
theorem rationalLimits_c3 : Tryz.f3.params.all (Tryz.prog.readableRec ·) = true := by kernel_rfl
theorem rationalLimits_c4 : namedTie Tryz.prog Rows.rationalLimitsRow.named Rows.rationalLimitsSpec.vars = true := by kernel_rfl
theorem rationalLimits_c5 : (Rows.rationalLimitsRow.stops == []) = true := by kernel_rfl
theorem rationalLimits_c6 : (Tryz.prog.stops == []) = true := by kernel_rfl
theorem rationalLimits_c7 : (Rows.rationalLimitsRow.knobs == []) = true := by kernel_rfl
theorem rationalLimits_c8 : (Tryz.prog.stopKnobs == []) = true := by kernel_rfl
theorem rationalLimits_c9 : (Rows.rationalLimitsRow.inPlace == Tryz.prog.inPlace 3) = true := by kernel_rfl
theorem rationalLimits_c10 : (Rows.rationalLimitsRow.unfollowed == Tryz.prog.unfollowed 3) = true := by kernel_rfl
theorem rationalLimits_c11 : (Rows.rationalLimitsRow.recurses == Tryz.prog.recurses 3) = true := by kernel_rfl
theorem rationalLimits_c12 : (Rows.rationalLimitsRow.named == Tryz.prog.varsNamed 3) = true := by kernel_rfl
theorem rationalLimits_c13 : (Rows.rationalLimitsRow.maps == (Tryz.f3.params.toList ++ Rows.rationalLimitsSpec.plain.varTypes Tryz.prog).any (Tryz.prog.mapsRec ·)) = true := by kernel_rfl
theorem rationalLimits_c14 : (Rows.rationalLimitsRow.ifaces == (Tryz.f3.params.toList ++ Rows.rationalLimitsSpec.plain.varTypes Tryz.prog).any (Tryz.prog.ifacesRec ·)) = true := by kernel_rfl
theorem rationalLimits_c15 : (Rows.rationalLimitsRow.mapsOut == Tryz.prog.mapsAmong Tryz.f3.resultTypes.toList) = true := by kernel_rfl
theorem rationalLimits_c16 : (Rows.rationalLimitsRow.loops == (Tryz.f3.params.toList ++ Rows.rationalLimitsSpec.plain.varTypes Tryz.prog).any (Tryz.prog.loopsFrom ·)) = true := by kernel_rfl
theorem rationalLimits_c17 : (Rows.rationalLimitsRow.wideKeys == (Tryz.f3.params.toList ++ Rows.rationalLimitsSpec.plain.varTypes Tryz.prog ++ Tryz.f3.resultTypes.toList).any (Tryz.prog.wideKeysFrom ·)) = true := by kernel_rfl
theorem rationalLimits_c18 : Rows.rationalLimitsSpec.vars.all (Tryz.prog.varReadable ·) = true := by kernel_rfl
theorem rationalLimits_c19 : Tryz.f3.resultTypes.all (fun t => Tryz.prog.readableRec t && decide (t < Tryz.prog.types.size)) = true := by kernel_rfl
theorem rationalLimits_c20 : (Rows.rationalLimitsRow.ifacesOut == Tryz.f3.resultTypes.toList.any (Tryz.prog.ifacesRec ·)) = true := by kernel_rfl
theorem rationalLimits_c21 : (Rows.rationalLimitsRow.loopsOut == Tryz.f3.resultTypes.toList.any (Tryz.prog.loopsFrom ·)) = true := by kernel_rfl
theorem rationalLimits_c22 : (Rows.rationalLimitsRow.plainKeys == Tryz.prog.plainKeys) = true := by kernel_rfl
theorem rationalLimits_c23 : Rows.rationalLimitsRow.shortTexts.isNone = true := by kernel_rfl
theorem rationalLimits_c24 : Tryz.prog.stopsHeard = true := by kernel_rfl
theorem rationalLimits_c25 : Tryz.prog.mayEnter = true := by kernel_rfl
theorem rationalLimits_c26 : (Rows.rationalLimitsRow.lifted == Tryz.prog.liftsFinal) = true := by kernel_rfl
theorem rationalLimits_c27 : (Tryz.prog.make == some Rows.rationalLimitsRow.make) = true := by kernel_rfl
theorem rationalLimits_c28 : (Rows.rationalLimitsRow.kinds == (if Rows.rationalLimitsRow.domain.isEmpty then [] else Tryz.f3.params.toList.map fun t => match Tryz.prog.underlying t with | some (.int k) => some k | _ => none)) = true := by kernel_rfl
theorem rationalLimits_c29 : (Rows.rationalLimitsRow.pinned == Rows.rationalLimitsRow.pinnedBy) = true := by kernel_rfl
theorem rationalLimits_c30 : (Rows.rationalLimitsRow.veiled == (Tryz.f3.params.toList ++ Rows.rationalLimitsSpec.plain.varTypes Tryz.prog ++ Tryz.f3.resultTypes.toList).any (Tryz.prog.veiledRec ·)) = true := by kernel_rfl
theorem rationalLimits_c31 : Rows.rationalLimitsRow.veiledFits Tryz.prog Tryz.f3.params.toList (Tryz.f3.params.toList ++ Rows.rationalLimitsSpec.plain.varTypes Tryz.prog ++ Tryz.f3.resultTypes.toList) = true := by kernel_rfl
set_option maxRecDepth 100000 in
theorem rationalLimits_facts : joinedFacts Tryz.prog 3 Tryz.f3 Rows.rationalLimitsSpec Rows.rationalLimitsRow = true := by
  unfold joinedFacts
  exact Rb.and_ (Rb.and_ (Rb.and_ (Rb.and_ (Rb.and_ (Rb.and_ (Rb.and_ (Rb.and_ (Rb.and_ (Rb.and_ (Rb.and_ (Rb.and_ (Rb.and_ (Rb.and_ (Rb.and_ (Rb.and_ (Rb.and_ (Rb.and_ (Rb.and_ (Rb.and_ (Rb.and_ (Rb.and_ (Rb.and_ (Rb.and_ (Rb.and_ (Rb.and_ (Rb.and_ (Rb.and_ (Rb.and_ (Rb.and_ (Rb.and_ (rationalLimits_c0) rationalLimits_c1) rationalLimits_c2) rationalLimits_c3) rationalLimits_c4) rationalLimits_c5) rationalLimits_c6) rationalLimits_c7) rationalLimits_c8) rationalLimits_c9) rationalLimits_c10) rationalLimits_c11) rationalLimits_c12) rationalLimits_c13) rationalLimits_c14) rationalLimits_c15) rationalLimits_c16) rationalLimits_c17) rationalLimits_c18) rationalLimits_c19) rationalLimits_c20) rationalLimits_c21) rationalLimits_c22) rationalLimits_c23) rationalLimits_c24) rationalLimits_c25) rationalLimits_c26) rationalLimits_c27) rationalLimits_c28) rationalLimits_c29) rationalLimits_c30) rationalLimits_c31
theorem rationalLimits_inst : Tryz.f3.isInstance Tryz.pinned.checked.prog Rows.rationalLimitsRow.origin Rows.rationalLimitsRow.targs := of_decide_eq_true (by kernel_rfl)
theorem rationalLimits_wrap : Tryz.f3.isWrapper Tryz.pinned.checked.prog Rows.rationalLimitsRow.wrapper Rows.rationalLimitsRow.mainSum := by unfold Func.isWrapper; first | (rw [if_pos (by decide +kernel)]; kernel_rfl) | (rw [if_neg (by decide +kernel)]; exact ⟨rfl, rfl⟩)
theorem rationalLimits_row : Rows.RationalLimitsSaid :=
  OpenClaim.holds_of_wide 3 Tryz.f3 rfl rfl rfl rfl rfl rfl rfl ⟨rfl, rfl, rfl, rfl, rfl⟩ rfl rfl rfl rfl rfl rationalLimits_name Tryz.func3 rationalLimits_facts rationalLimits_inst rationalLimits_wrap
    (fun os started H enc _ => rationalLimits_lifted os started H enc)
theorem rationalLimits_wf : Rows.rationalLimitsRow.wfByText (OpenSpec.ofChange Rows.rationalLimitsSpec) = true := by kernel_rfl
theorem rationalLimits_main : Tryz.pinned.checked.prog.mainIs = some (true, "edb7ea7fd2eac0683826f20ce973cad6d84c454002b9dabcaceb860c70b7a25e".toList) := by kernel_rfl
theorem rationalLimits_goes : false = Rows.rationalLimitsRow.goesBy Tryz.pinned.checked.prog := by kernel_rfl
theorem rationalLimits_looks : true = Tryz.pinned.checked.prog.looks [] := by kernel_rfl
theorem rationalLimits_std : ([24,24].all fun u => !Tryz.prog.wantsStandIn u) = true := by kernel_rfl
theorem rationalLimits_at : ∀ f fn, Tryz.pinned.checked.prog.funcNamed Rows.rationalLimitsRow.func = some f → Tryz.pinned.checked.prog.funcs[f]? = some fn → true = Tryz.pinned.checked.prog.looks [] ∧ ∀ (j : Nat) t, fn.params[j]? = some t → Tryz.pinned.checked.prog.wantsStandIn t = false := fun f fn hf hfn => by
  obtain rfl : f = 3 := Option.some.inj (rationalLimits_name.symm.trans hf) |>.symm
  obtain rfl : fn = Tryz.f3 := (Option.some.inj (Tryz.func3.symm.trans hfn)).symm
  exact ⟨rationalLimits_looks, fun j t ht => by
    rw [Tryz.params3] at ht
    have hm : t ∈ [24,24] := by simpa using Array.mem_of_getElem? ht
    exact (show Tryz.prog.wantsStandIn t = false by simpa using List.all_eq_true.1 rationalLimits_std t hm)⟩
theorem rationalLimits_holds : Rows.RationalLimitsCardSaid :=
  Claim7.holds_tied_plain_at .later [] [.data, .data, .data, .data, .sentinel, .sentinel, .pinned] true (true, "edb7ea7fd2eac0683826f20ce973cad6d84c454002b9dabcaceb860c70b7a25e") true
    rationalLimits_row (fun _ h => by cases h) rationalLimits_wf (fun _ h => by cases h) rationalLimits_row_tie rfl ⟨rfl, rfl⟩ rationalLimits_main rfl rationalLimits_at rationalLimits_goes
#print axioms rationalLimits_holds
end Go.Proofs.YtinpcbjjnlpblaaGreatDoor
