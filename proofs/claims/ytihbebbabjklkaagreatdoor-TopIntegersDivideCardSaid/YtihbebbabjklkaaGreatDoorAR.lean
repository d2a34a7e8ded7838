import Derived.Test.YtihbebbabjklkaaGreatDoorCards
import Derived.Test.YtihbebbabjklkaaGreatDoorTie
import Derived.Test.YtihbebbabjklkaaGreatDoorAT1
import Derived.Test.YtihbebbabjklkaaGreatDoorAG5
namespace Go.Proofs.YtihbebbabjklkaaGreatDoor
open Go.ChangeShapes Go.WideShapes Go.ChangeAt Go.ChangeMaps Go.RowKit
set_option maxRecDepth 100000 in
theorem topIntegersDivide_lifted (os : Os) (started : os.Started) (H : Type) (enc : TypeId × Value → H) :
    ReturnsInHanded {} Tryz.checked os 12 .any (fun w args => (Rows.topIntegersDivideSpec.pre enc Tryz.prog Tryz.f12 [] false w args ∧ laidMetH Tryz.prog Rows.topIntegersDivideRow.laid w) ∧ sizedMet enc Tryz.prog Tryz.f12 (OpenSpec.ofChange Rows.topIntegersDivideSpec) false w args)
      (Rows.topIntegersDivideSpec.post enc Tryz.prog Tryz.f12 false true false false) := by
  refine returnsInHanded_of_change_and (C := Tryz.checked) (X := fun w _ => laidMetH Tryz.prog Rows.topIntegersDivideRow.laid w) (fun _ _ _ hh h => h.of_heap hh) Rb.own started (by kernel_rfl) Tryz.func12
    (ChangeSpec.witness_shaped (enc := enc) (C := Tryz.checked) (os := os) (X := fun w _ => laidMetH Tryz.prog Rows.topIntegersDivideRow.laid w) false (World.laidAll Tryz.prog os Rb.laid) #[.string ⟨#[]⟩, .string ⟨#[]⟩] 8 (World.laidAll_os _ _ _)
      (Rb.shaped os _) (by kernel_rfl) (by kernel_rfl) (by kernel_rfl) (Rb.met os _)) ?_
  intro W base args ds gs before hval0 hW _ _ hL _
  have hval : ∀ (j : Nat) t v, Tryz.f12.params[j]? = some t → args[j]? = some v → Value.okWide Tryz.prog W .any base t v := hval0
  have hW' := hW
  obtain ⟨p, q, hA0, hV, rfl, _, _⟩ := hW
  have hA : DataW.TrodAll enc Tryz.prog W 0 (fun _ => true) true Tryz.f12.params.toList args.toList ds p := hA0
  rw [Tryz.params12] at hA hval
  obtain ⟨v0, v1, d0, d1, p0, p1, rfl, rfl, rfl, h0, h1⟩ := trodAll_two hA
  obtain ⟨rfl, rfl⟩ := trodVars_none hV
  obtain ⟨s0, rfl, rfl, rfl, z0⟩ := open_string Tryz.underlying45 (hval 0 45 v0 rfl rfl) h0
  obtain ⟨s1, rfl, rfl, rfl, z1⟩ := open_string Tryz.underlying45 (hval 1 45 v1 rfl rfl) h1
  simp only [List.append_nil] at hW'
  refine (PA.Divide_true s0 s1 W (Rb.of_laid hL)).mono fun e W' ⟨he, hb⟩ => ?_
  subst he
  exact ⟨_, rfl, _, _, _, [], [], [], hW', trodAll_mk1 (shut_bool Tryz.underlying4 _), trodAll_mk2 (shut_string Tryz.underlying45 z0) (shut_string Tryz.underlying45 z1), rfl, hb.frame _, fun h => by cases h⟩
theorem topIntegersDivide_name : Tryz.prog.funcNamed "surveyor/surveyortop.TopIntegersDivide" = some 12 := by kernel_rfl
theorem topIntegersDivide_c0 : Rows.topIntegersDivideRow.wf (OpenSpec.ofChange Rows.topIntegersDivideSpec) = true := by kernel_rfl
theorem topIntegersDivide_c1 : laidOutB Tryz.prog = true := by kernel_rfl
theorem topIntegersDivide_c2 : mapsRowed Tryz.prog = true := by kernel_rfl
theorem topIntegersDivide_c3 : Tryz.f12.params.all (Tryz.prog.readableRec ·) = true := by kernel_rfl
theorem topIntegersDivide_c4 : namedTie Tryz.prog Rows.topIntegersDivideRow.named Rows.topIntegersDivideSpec.vars = true := by kernel_rfl
theorem topIntegersDivide_c5 : (Rows.topIntegersDivideRow.stops == []) = true := by kernel_rfl
theorem topIntegersDivide_c6 : (Tryz.prog.stops == []) = true := by kernel_rfl
theorem topIntegersDivide_c7 : (Rows.topIntegersDivideRow.knobs == []) = true := by kernel_rfl
theorem topIntegersDivide_c8 : (Tryz.prog.stopKnobs == []) = true := by kernel_rfl
theorem topIntegersDivide_c9 : (Rows.topIntegersDivideRow.inPlace == Tryz.prog.inPlace 12) = true := by kernel_rfl
theorem topIntegersDivide_c10 : (Rows.topIntegersDivideRow.unfollowed == Tryz.prog.unfollowed 12) = true := by kernel_rfl
theorem topIntegersDivide_c11 : (Rows.topIntegersDivideRow.recurses == Tryz.prog.recurses 12) = true := by kernel_rfl
theorem topIntegersDivide_c12 : (Rows.topIntegersDivideRow.named == Tryz.prog.varsNamed 12) = true := by kernel_rfl
theorem topIntegersDivide_c13 : (Rows.topIntegersDivideRow.maps == (Tryz.f12.params.toList ++ Rows.topIntegersDivideSpec.plain.varTypes Tryz.prog).any (Tryz.prog.mapsRec ·)) = true := by kernel_rfl
theorem topIntegersDivide_c14 : (Rows.topIntegersDivideRow.ifaces == (Tryz.f12.params.toList ++ Rows.topIntegersDivideSpec.plain.varTypes Tryz.prog).any (Tryz.prog.ifacesRec ·)) = true := by kernel_rfl
theorem topIntegersDivide_c15 : (Rows.topIntegersDivideRow.mapsOut == Tryz.prog.mapsAmong Tryz.f12.resultTypes.toList) = true := by kernel_rfl
theorem topIntegersDivide_c16 : (Rows.topIntegersDivideRow.loops == (Tryz.f12.params.toList ++ Rows.topIntegersDivideSpec.plain.varTypes Tryz.prog).any (Tryz.prog.loopsFrom ·)) = true := by kernel_rfl
theorem topIntegersDivide_c17 : (Rows.topIntegersDivideRow.wideKeys == (Tryz.f12.params.toList ++ Rows.topIntegersDivideSpec.plain.varTypes Tryz.prog ++ Tryz.f12.resultTypes.toList).any (Tryz.prog.wideKeysFrom ·)) = true := by kernel_rfl
theorem topIntegersDivide_c18 : Rows.topIntegersDivideSpec.vars.all (Tryz.prog.varReadable ·) = true := by kernel_rfl
theorem topIntegersDivide_c19 : Tryz.f12.resultTypes.all (fun t => Tryz.prog.readableRec t && decide (t < Tryz.prog.types.size)) = true := by kernel_rfl
theorem topIntegersDivide_c20 : (Rows.topIntegersDivideRow.ifacesOut == Tryz.f12.resultTypes.toList.any (Tryz.prog.ifacesRec ·)) = true := by kernel_rfl
theorem topIntegersDivide_c21 : (Rows.topIntegersDivideRow.loopsOut == Tryz.f12.resultTypes.toList.any (Tryz.prog.loopsFrom ·)) = true := by kernel_rfl
theorem topIntegersDivide_c22 : (Rows.topIntegersDivideRow.plainKeys == Tryz.prog.plainKeys) = true := by kernel_rfl
theorem topIntegersDivide_c23 : Rows.topIntegersDivideRow.shortTexts.isNone = true := by kernel_rfl
theorem topIntegersDivide_c24 : Tryz.prog.stopsHeard = true := by kernel_rfl
theorem topIntegersDivide_c25 : Tryz.prog.mayEnter = true := by kernel_rfl
theorem topIntegersDivide_c26 : (Rows.topIntegersDivideRow.lifted == Tryz.prog.liftsFinal) = true := by kernel_rfl
theorem topIntegersDivide_c27 : (Tryz.prog.make == some Rows.topIntegersDivideRow.make) = true := by kernel_rfl
theorem topIntegersDivide_c28 : (Rows.topIntegersDivideRow.kinds == (if Rows.topIntegersDivideRow.domain.isEmpty then [] else Tryz.f12.params.toList.map fun t => match Tryz.prog.underlying t with | some (.int k) => some k | _ => none)) = true := by kernel_rfl
theorem topIntegersDivide_c29 : (Rows.topIntegersDivideRow.pinned == Rows.topIntegersDivideRow.pinnedBy) = true := by kernel_rfl
theorem topIntegersDivide_c30 : (Rows.topIntegersDivideRow.veiled == (Tryz.f12.params.toList ++ Rows.topIntegersDivideSpec.plain.varTypes Tryz.prog ++ Tryz.f12.resultTypes.toList).any (Tryz.prog.veiledRec ·)) = true := by kernel_rfl
theorem topIntegersDivide_c31 : Rows.topIntegersDivideRow.veiledFits Tryz.prog Tryz.f12.params.toList (Tryz.f12.params.toList ++ Rows.topIntegersDivideSpec.plain.varTypes Tryz.prog ++ Tryz.f12.resultTypes.toList) = true := by kernel_rfl
set_option maxRecDepth 100000 in
theorem topIntegersDivide_facts : joinedFacts Tryz.prog 12 Tryz.f12 Rows.topIntegersDivideSpec Rows.topIntegersDivideRow = true := by
  unfold joinedFacts
  exact Rb.and_ (Rb.and_ (Rb.and_ (Rb.and_ (Rb.and_ (Rb.and_ (Rb.and_ (Rb.and_ (Rb.and_ (Rb.and_ (Rb.and_ (Rb.and_ (Rb.and_ (Rb.and_ (Rb.and_ (Rb.and_ (Rb.and_ (Rb.and_ (Rb.and_ (Rb.and_ (Rb.and_ (Rb.and_ (Rb.and_ (Rb.and_ (Rb.and_ (Rb.and_ (Rb.and_ (Rb.and_ (Rb.and_ (Rb.and_ (Rb.and_ (topIntegersDivide_c0) topIntegersDivide_c1) topIntegersDivide_c2) topIntegersDivide_c3) topIntegersDivide_c4) topIntegersDivide_c5) topIntegersDivide_c6) topIntegersDivide_c7) topIntegersDivide_c8) topIntegersDivide_c9) topIntegersDivide_c10) topIntegersDivide_c11) topIntegersDivide_c12) topIntegersDivide_c13) topIntegersDivide_c14) topIntegersDivide_c15) topIntegersDivide_c16) topIntegersDivide_c17) topIntegersDivide_c18) topIntegersDivide_c19) topIntegersDivide_c20) topIntegersDivide_c21) topIntegersDivide_c22) topIntegersDivide_c23) topIntegersDivide_c24) topIntegersDivide_c25) topIntegersDivide_c26) topIntegersDivide_c27) topIntegersDivide_c28) topIntegersDivide_c29) topIntegersDivide_c30) topIntegersDivide_c31
theorem topIntegersDivide_inst : Tryz.f12.isInstance Tryz.pinned.checked.prog Rows.topIntegersDivideRow.origin Rows.topIntegersDivideRow.targs := of_decide_eq_true (by kernel_rfl)
theorem topIntegersDivide_wrap : Tryz.f12.isWrapper Tryz.pinned.checked.prog Rows.topIntegersDivideRow.wrapper Rows.topIntegersDivideRow.mainSum := by unfold Func.isWrapper; first | (rw [if_pos (by decide +kernel)]; kernel_rfl) | (rw [if_neg (by decide +kernel)]; exact ⟨rfl, rfl⟩)
theorem topIntegersDivide_row : Rows.TopIntegersDivideSaid :=
  OpenClaim.holds_of_wide 12 Tryz.f12 rfl rfl rfl rfl rfl rfl rfl ⟨rfl, rfl, rfl, rfl, rfl⟩ rfl rfl rfl rfl rfl topIntegersDivide_name Tryz.func12 topIntegersDivide_facts topIntegersDivide_inst topIntegersDivide_wrap
    (fun os started H enc _ => topIntegersDivide_lifted os started H enc)
theorem topIntegersDivide_wf : Rows.topIntegersDivideRow.wfByText (OpenSpec.ofChange Rows.topIntegersDivideSpec) = true := by kernel_rfl
theorem topIntegersDivide_main : Tryz.pinned.checked.prog.mainIs = some (true, "94aa445f2dc9a68aa77f6d476013ea7e4907784a5936c6184f49e6badaa0e9d2".toList) := by kernel_rfl
theorem topIntegersDivide_goes : false = Rows.topIntegersDivideRow.goesBy Tryz.pinned.checked.prog := by kernel_rfl
theorem topIntegersDivide_looks : true = Tryz.pinned.checked.prog.looks [] := by kernel_rfl
theorem topIntegersDivide_std : ([45,45].all fun u => !Tryz.prog.wantsStandIn u) = true := by kernel_rfl
theorem topIntegersDivide_at : ∀ f fn, Tryz.pinned.checked.prog.funcNamed Rows.topIntegersDivideRow.func = some f → Tryz.pinned.checked.prog.funcs[f]? = some fn → true = Tryz.pinned.checked.prog.looks [] ∧ ∀ (j : Nat) t, fn.params[j]? = some t → Tryz.pinned.checked.prog.wantsStandIn t = false := fun f fn hf hfn => by
  obtain rfl : f = 12 := Option.some.inj (topIntegersDivide_name.symm.trans hf) |>.symm
  obtain rfl : fn = Tryz.f12 := (Option.some.inj (Tryz.func12.symm.trans hfn)).symm
  exact ⟨topIntegersDivide_looks, fun j t ht => by
    rw [Tryz.params12] at ht
    have hm : t ∈ [45,45] := by simpa using Array.mem_of_getElem? ht
    exact (show Tryz.prog.wantsStandIn t = false by simpa using List.all_eq_true.1 topIntegersDivide_std t hm)⟩
theorem topIntegersDivide_holds : Rows.TopIntegersDivideCardSaid :=
  Claim7.holds_tied_plain_at .later [] [.data, .data, .data, .data, .sentinel, .sentinel, .pinned] true (true, "94aa445f2dc9a68aa77f6d476013ea7e4907784a5936c6184f49e6badaa0e9d2") true
    topIntegersDivide_row (fun _ h => by cases h) topIntegersDivide_wf (fun _ h => by cases h) topIntegersDivide_row_tie rfl ⟨rfl, rfl⟩ topIntegersDivide_main rfl topIntegersDivide_at topIntegersDivide_goes
#print axioms topIntegersDivide_holds
end Go.Proofs.YtihbebbabjklkaaGreatDoor
