import Derived.Test.YthnfajboebaajaaGreatDoorCards
import Derived.Test.YthnfajboebaajaaGreatDoorTie
import Derived.Test.YthnfajboebaajaaGreatDoorAG12
import Derived.Test.YthnfajboebaajaaGreatDoorAP2
namespace Go.Proofs.YthnfajboebaajaaGreatDoor
open Go.ChangeShapes Go.WideShapes Go.ChangeAt Go.ChangeMaps Go.RowKit
set_option maxRecDepth 100000 in
theorem rationalOrders_lifted (os : Os) (started : os.Started) (H : Type) (enc : TypeId × Value → H) :
    ReturnsInHanded {} Tryz.checked os 8 .any (fun w args => (Rows.rationalOrdersSpec.pre enc Tryz.prog Tryz.f8 [] false w args ∧ laidMetH Tryz.prog Rows.rationalOrdersRow.laid w) ∧ sizedMet enc Tryz.prog Tryz.f8 (OpenSpec.ofChange Rows.rationalOrdersSpec) false w args)
      (Rows.rationalOrdersSpec.post enc Tryz.prog Tryz.f8 false true false false) := by
  refine returnsInHanded_of_change_and (C := Tryz.checked) (X := fun w _ => laidMetH Tryz.prog Rows.rationalOrdersRow.laid w) (fun _ _ _ hh h => h.of_heap hh) Rb.own started (by kernel_rfl) Tryz.func8
    (ChangeSpec.witness_shaped (enc := enc) (C := Tryz.checked) (os := os) (X := fun w _ => laidMetH Tryz.prog Rows.rationalOrdersRow.laid w) false (World.laidAll Tryz.prog os Rb.laid) #[.string ⟨#[]⟩, .string ⟨#[]⟩, .string ⟨#[]⟩] 8 (World.laidAll_os _ _ _)
      (Rb.shaped os _) (by kernel_rfl) (by kernel_rfl) (by kernel_rfl) (Rb.met os _)) ?_
  intro W base args ds gs before hval0 hW _ _ hL _
  have hval : ∀ (j : Nat) t v, Tryz.f8.params[j]? = some t → args[j]? = some v → Value.okWide Tryz.prog W .any base t v := hval0
  have hW' := hW
  obtain ⟨p, q, hA0, hV, rfl, _, _⟩ := hW
  have hA : DataW.TrodAll enc Tryz.prog W 0 (fun _ => true) true Tryz.f8.params.toList args.toList ds p := hA0
  rw [Tryz.params8] at hA hval
  obtain ⟨v0, v1, v2, d0, d1, d2, p0, p1, p2, rfl, rfl, rfl, h0, h1, h2⟩ := trodAll_three hA
  obtain ⟨rfl, rfl⟩ := trodVars_none hV
  obtain ⟨s0, rfl, rfl, rfl, z0⟩ := open_string Tryz.underlying22 (hval 0 22 v0 rfl rfl) h0
  obtain ⟨s1, rfl, rfl, rfl, z1⟩ := open_string Tryz.underlying22 (hval 1 22 v1 rfl rfl) h1
  obtain ⟨s2, rfl, rfl, rfl, z2⟩ := open_string Tryz.underlying22 (hval 2 22 v2 rfl rfl) h2
  simp only [List.append_nil] at hW'
  obtain ⟨k, hk⟩ := PA.Orders_true s0 s1 s2
  refine (PA.lWRationalOrders.calls k s0 s1 s2 true W (Rb.of_laid hL) hk).mono fun e W' ⟨he, hb⟩ => ?_
  subst he
  exact ⟨_, rfl, _, _, _, [], [], [], hW', trodAll_mk1 (shut_bool Tryz.underlying4 _), trodAll_mk3 (shut_string Tryz.underlying22 z0) (shut_string Tryz.underlying22 z1) (shut_string Tryz.underlying22 z2), rfl, hb.frame _, fun h => by cases h⟩
theorem rationalOrders_name : Tryz.prog.funcNamed "surveyor/surveyorlaw02.RationalOrders" = some 8 := by kernel_rfl
theorem rationalOrders_c0 : Rows.rationalOrdersRow.wf (OpenSpec.ofChange Rows.rationalOrdersSpec) = true := by kernel_rfl
theorem rationalOrders_c1 : laidOutB Tryz.prog = true := by kernel_rfl
theorem rationalOrders_c2 : mapsRowed Tryz.prog = true := by kernel_rfl
theorem rationalOrders_c3 : Tryz.f8.params.all (Tryz.prog.readableRec ·) = true := by kernel_rfl
theorem rationalOrders_c4 : namedTie Tryz.prog Rows.rationalOrdersRow.named Rows.rationalOrdersSpec.vars = true := by kernel_rfl
theorem rationalOrders_c5 : (Rows.rationalOrdersRow.stops == []) = true := by kernel_rfl
theorem rationalOrders_c6 : (Tryz.prog.stops == []) = true := by kernel_rfl
theorem rationalOrders_c7 : (Rows.rationalOrdersRow.knobs == []) = true := by kernel_rfl
theorem rationalOrders_c8 : (Tryz.prog.stopKnobs == []) = true := by kernel_rfl
theorem rationalOrders_c9 : (Rows.rationalOrdersRow.inPlace == Tryz.prog.inPlace 8) = true := by kernel_rfl
theorem rationalOrders_c10 : (Rows.rationalOrdersRow.unfollowed == Tryz.prog.unfollowed 8) = true := by kernel_rfl
theorem rationalOrders_c11 : (Rows.rationalOrdersRow.recurses == Tryz.prog.recurses 8) = true := by kernel_rfl
theorem rationalOrders_c12 : (Rows.rationalOrdersRow.named == Tryz.prog.varsNamed 8) = true := by kernel_rfl
theorem rationalOrders_c13 : (Rows.rationalOrdersRow.maps == (Tryz.f8.params.toList ++ Rows.rationalOrdersSpec.plain.varTypes Tryz.prog).any (Tryz.prog.mapsRec ·)) = true := by kernel_rfl
theorem rationalOrders_c14 : (Rows.rationalOrdersRow.ifaces == (Tryz.f8.params.toList ++ Rows.rationalOrdersSpec.plain.varTypes Tryz.prog).any (Tryz.prog.ifacesRec ·)) = true := by kernel_rfl
theorem rationalOrders_c15 : (Rows.rationalOrdersRow.mapsOut == Tryz.prog.mapsAmong Tryz.f8.resultTypes.toList) = true := by kernel_rfl
theorem rationalOrders_c16 : (Rows.rationalOrdersRow.loops == (Tryz.f8.params.toList ++ Rows.rationalOrdersSpec.plain.varTypes Tryz.prog).any (Tryz.prog.loopsFrom ·)) = true := by kernel_rfl
theorem rationalOrders_c17 : (Rows.rationalOrdersRow.wideKeys == (Tryz.f8.params.toList ++ Rows.rationalOrdersSpec.plain.varTypes Tryz.prog ++ Tryz.f8.resultTypes.toList).any (Tryz.prog.wideKeysFrom ·)) = true := by kernel_rfl
theorem rationalOrders_c18 : Rows.rationalOrdersSpec.vars.all (Tryz.prog.varReadable ·) = true := by kernel_rfl
theorem rationalOrders_c19 : Tryz.f8.resultTypes.all (fun t => Tryz.prog.readableRec t && decide (t < Tryz.prog.types.size)) = true := by kernel_rfl
theorem rationalOrders_c20 : (Rows.rationalOrdersRow.ifacesOut == Tryz.f8.resultTypes.toList.any (Tryz.prog.ifacesRec ·)) = true := by kernel_rfl
theorem rationalOrders_c21 : (Rows.rationalOrdersRow.loopsOut == Tryz.f8.resultTypes.toList.any (Tryz.prog.loopsFrom ·)) = true := by kernel_rfl
theorem rationalOrders_c22 : (Rows.rationalOrdersRow.plainKeys == Tryz.prog.plainKeys) = true := by kernel_rfl
theorem rationalOrders_c23 : Rows.rationalOrdersRow.shortTexts.isNone = true := by kernel_rfl
theorem rationalOrders_c24 : Tryz.prog.stopsHeard = true := by kernel_rfl
theorem rationalOrders_c25 : Tryz.prog.mayEnter = true := by kernel_rfl
theorem rationalOrders_c26 : (Rows.rationalOrdersRow.lifted == Tryz.prog.liftsFinal) = true := by kernel_rfl
theorem rationalOrders_c27 : (Tryz.prog.make == some Rows.rationalOrdersRow.make) = true := by kernel_rfl
theorem rationalOrders_c28 : (Rows.rationalOrdersRow.kinds == (if Rows.rationalOrdersRow.domain.isEmpty then [] else Tryz.f8.params.toList.map fun t => match Tryz.prog.underlying t with | some (.int k) => some k | _ => none)) = true := by kernel_rfl
theorem rationalOrders_c29 : (Rows.rationalOrdersRow.pinned == Rows.rationalOrdersRow.pinnedBy) = true := by kernel_rfl
theorem rationalOrders_c30 : (Rows.rationalOrdersRow.veiled == (Tryz.f8.params.toList ++ Rows.rationalOrdersSpec.plain.varTypes Tryz.prog ++ Tryz.f8.resultTypes.toList).any (Tryz.prog.veiledRec ·)) = true := by kernel_rfl
theorem rationalOrders_c31 : Rows.rationalOrdersRow.veiledFits Tryz.prog Tryz.f8.params.toList (Tryz.f8.params.toList ++ Rows.rationalOrdersSpec.plain.varTypes Tryz.prog ++ Tryz.f8.resultTypes.toList) = true := by kernel_rfl
set_option maxRecDepth 100000 in
theorem rationalOrders_facts : joinedFacts Tryz.prog 8 Tryz.f8 Rows.rationalOrdersSpec Rows.rationalOrdersRow = true := by
  unfold joinedFacts
  exact Rb.and_ (Rb.and_ (Rb.and_ (Rb.and_ (Rb.and_ (Rb.and_ (Rb.and_ (Rb.and_ (Rb.and_ (Rb.and_ (Rb.and_ (Rb.and_ (Rb.and_ (Rb.and_ (Rb.and_ (Rb.and_ (Rb.and_ (Rb.and_ (Rb.and_ (Rb.and_ (Rb.and_ (Rb.and_ (Rb.and_ (Rb.and_ (Rb.and_ (Rb.and_ (Rb.and_ (Rb.and_ (Rb.and_ (Rb.and_ (Rb.and_ (rationalOrders_c0) rationalOrders_c1) rationalOrders_c2) rationalOrders_c3) rationalOrders_c4) rationalOrders_c5) rationalOrders_c6) rationalOrders_c7) rationalOrders_c8) rationalOrders_c9) rationalOrders_c10) rationalOrders_c11) rationalOrders_c12) rationalOrders_c13) rationalOrders_c14) rationalOrders_c15) rationalOrders_c16) rationalOrders_c17) rationalOrders_c18) rationalOrders_c19) rationalOrders_c20) rationalOrders_c21) rationalOrders_c22) rationalOrders_c23) rationalOrders_c24) rationalOrders_c25) rationalOrders_c26) rationalOrders_c27) rationalOrders_c28) rationalOrders_c29) rationalOrders_c30) rationalOrders_c31
theorem rationalOrders_inst : Tryz.f8.isInstance Tryz.pinned.checked.prog Rows.rationalOrdersRow.origin Rows.rationalOrdersRow.targs := of_decide_eq_true (by kernel_rfl)
theorem rationalOrders_wrap : Tryz.f8.isWrapper Tryz.pinned.checked.prog Rows.rationalOrdersRow.wrapper Rows.rationalOrdersRow.mainSum := by unfold Func.isWrapper; first | (rw [if_pos (by decide +kernel)]; kernel_rfl) | (rw [if_neg (by decide +kernel)]; exact ⟨rfl, rfl⟩)
theorem rationalOrders_row : Rows.RationalOrdersSaid :=
  OpenClaim.holds_of_wide 8 Tryz.f8 rfl rfl rfl rfl rfl rfl rfl ⟨rfl, rfl, rfl, rfl, rfl⟩ rfl rfl rfl rfl rfl rationalOrders_name Tryz.func8 rationalOrders_facts rationalOrders_inst rationalOrders_wrap
    (fun os started H enc _ => rationalOrders_lifted os started H enc)
theorem rationalOrders_wf : Rows.rationalOrdersRow.wfByText (OpenSpec.ofChange Rows.rationalOrdersSpec) = true := by kernel_rfl
theorem rationalOrders_main : Tryz.pinned.checked.prog.mainIs = some (true, "72a18669e3a2f07bb33e8c9ef8118028dd2ba8cdef94a48170b8cfcc348586ec".toList) := by kernel_rfl
theorem rationalOrders_goes : false = Rows.rationalOrdersRow.goesBy Tryz.pinned.checked.prog := by kernel_rfl
theorem rationalOrders_looks : true = Tryz.pinned.checked.prog.looks [] := by kernel_rfl
theorem rationalOrders_std : ([22,22,22].all fun u => !Tryz.prog.wantsStandIn u) = true := by kernel_rfl
theorem rationalOrders_at : ∀ f fn, Tryz.pinned.checked.prog.funcNamed Rows.rationalOrdersRow.func = some f → Tryz.pinned.checked.prog.funcs[f]? = some fn → true = Tryz.pinned.checked.prog.looks [] ∧ ∀ (j : Nat) t, fn.params[j]? = some t → Tryz.pinned.checked.prog.wantsStandIn t = false := fun f fn hf hfn => by
  obtain rfl : f = 8 := Option.some.inj (rationalOrders_name.symm.trans hf) |>.symm
  obtain rfl : fn = Tryz.f8 := (Option.some.inj (Tryz.func8.symm.trans hfn)).symm
  exact ⟨rationalOrders_looks, fun j t ht => by
    rw [Tryz.params8] at ht
    have hm : t ∈ [22,22,22] := by simpa using Array.mem_of_getElem? ht
    exact (show Tryz.prog.wantsStandIn t = false by simpa using List.all_eq_true.1 rationalOrders_std t hm)⟩
theorem rationalOrders_holds : Rows.RationalOrdersCardSaid :=
  Claim7.holds_tied_plain_at .later [] [.data, .data, .data, .data, .sentinel, .sentinel, .pinned] true (true, "72a18669e3a2f07bb33e8c9ef8118028dd2ba8cdef94a48170b8cfcc348586ec") true
    rationalOrders_row (fun _ h => by cases h) rationalOrders_wf (fun _ h => by cases h) rationalOrders_row_tie rfl ⟨rfl, rfl⟩ rationalOrders_main rfl rationalOrders_at rationalOrders_goes
#print axioms rationalOrders_holds
end Go.Proofs.YthnfajboebaajaaGreatDoor
