import Derived.Test.YtihbebbabjklkaaGreatDoorCards
import Derived.Test.YtihbebbabjklkaaGreatDoorTie
import Derived.Test.YtihbebbabjklkaaGreatDoorAT1c
import Derived.Test.YtihbebbabjklkaaGreatDoorAG10
namespace Go.Proofs.YtihbebbabjklkaaGreatDoor
open Go.ChangeShapes Go.WideShapes Go.ChangeAt Go.ChangeMaps Go.RowKit
set_option maxRecDepth 100000 in
theorem linearClears_lifted (os : Os) (started : os.Started) (H : Type) (enc : TypeId × Value → H) :
    ReturnsInHanded {} Tryz.checked os 6 .any (fun w args => (Rows.linearClearsSpec.pre enc Tryz.prog Tryz.f6 [] false w args ∧ laidMetH Tryz.prog Rows.linearClearsRow.laid w) ∧ sizedMet enc Tryz.prog Tryz.f6 (OpenSpec.ofChange Rows.linearClearsSpec) false w args)
      (Rows.linearClearsSpec.post enc Tryz.prog Tryz.f6 false true false false) := by
  refine returnsInHanded_of_change_and (C := Tryz.checked) (X := fun w _ => laidMetH Tryz.prog Rows.linearClearsRow.laid w) (fun _ _ _ hh h => h.of_heap hh) Rb.own started (by kernel_rfl) Tryz.func6
    (ChangeSpec.witness_shaped (enc := enc) (C := Tryz.checked) (os := os) (X := fun w _ => laidMetH Tryz.prog Rows.linearClearsRow.laid w) false (World.laidAll Tryz.prog os Rb.laid) #[.agg #[.slice none 0 0, .string ⟨#[]⟩]] 8 (World.laidAll_os _ _ _)
      (Rb.shaped os _) (by kernel_rfl) (by kernel_rfl) (by kernel_rfl) (Rb.met os _)) ?_
  intro W base args ds gs before hval0 hW _ _ hL _
  have hval : ∀ (j : Nat) t v, Tryz.f6.params[j]? = some t → args[j]? = some v → Value.okWide Tryz.prog W .any base t v := hval0
  have hW' := hW
  obtain ⟨p, q, hA0, hV, rfl, _, _⟩ := hW
  have hA : DataW.TrodAll enc Tryz.prog W 0 (fun _ => true) true Tryz.f6.params.toList args.toList ds p := hA0
  rw [Tryz.params6] at hA hval
  have hlt : ∀ x ∈ p, x.block < W.heap.size := fun x hx => by simpa using hW'.lt x (by first | exact hx | exact List.mem_append_left _ hx)
  obtain ⟨v0, d0, rfl, rfl, h0⟩ := trodAll_one hA
  obtain ⟨rfl, rfl⟩ := trodVars_none hV
  have h0k := h0
  obtain ⟨A0, c0, l0, s0, rfl, w0, C0⟩ := Ro.opLn Tryz.underlying25 Tryz.underlying22 Tryz.underlying23 Tryz.underlying23 (by kernel_rfl) (by kernel_rfl) (by kernel_rfl) (by kernel_rfl) (hval 0 25 v0 rfl rfl) h0
  simp only [List.append_nil] at hW'
  refine (PA.LinClears_true A0 c0 l0 s0 W (Rb.of_laid hL) w0 ⟨C0⟩).mono fun e W' ⟨he, hb⟩ => ?_
  subst he
  exact ⟨_, rfl, _, _, _, [], _, [], hW', trodAll_mk1 (shut_bool Tryz.underlying4 _), trodAll_mk1 (Below.trod Ro.laidOut (by kernel_rfl) (of_decide_eq_true (by kernel_rfl)) h0k hb fun x hx => hlt x (hx)), rfl, hb.frame _, fun h => by cases h⟩
theorem linearClears_name : Tryz.prog.funcNamed "surveyor/surveyorlaw03.LinearClears" = some 6 := by kernel_rfl
theorem linearClears_c0 : Rows.linearClearsRow.wf (OpenSpec.ofChange Rows.linearClearsSpec) = true := by kernel_rfl
theorem linearClears_c1 : laidOutB Tryz.prog = true := by kernel_rfl
theorem linearClears_c2 : mapsRowed Tryz.prog = true := by kernel_rfl
theorem linearClears_c3 : Tryz.f6.params.all (Tryz.prog.readableRec ·) = true := by kernel_rfl
theorem linearClears_c4 : namedTie Tryz.prog Rows.linearClearsRow.named Rows.linearClearsSpec.vars = true := by kernel_rfl
theorem linearClears_c5 : (Rows.linearClearsRow.stops == []) = true := by kernel_rfl
theorem linearClears_c6 : (Tryz.prog.stops == []) = true := by kernel_rfl
theorem linearClears_c7 : (Rows.linearClearsRow.knobs == []) = true := by kernel_rfl
theorem linearClears_c8 : (Tryz.prog.stopKnobs == []) = true := by kernel_rfl
theorem linearClears_c9 : (Rows.linearClearsRow.inPlace == Tryz.prog.inPlace 6) = true := by kernel_rfl
theorem linearClears_c10 : (Rows.linearClearsRow.unfollowed == Tryz.prog.unfollowed 6) = true := by kernel_rfl
theorem linearClears_c11 : (Rows.linearClearsRow.recurses == Tryz.prog.recurses 6) = true := by kernel_rfl
theorem linearClears_c12 : (Rows.linearClearsRow.named == Tryz.prog.varsNamed 6) = true := by kernel_rfl
theorem linearClears_c13 : (Rows.linearClearsRow.maps == (Tryz.f6.params.toList ++ Rows.linearClearsSpec.plain.varTypes Tryz.prog).any (Tryz.prog.mapsRec ·)) = true := by kernel_rfl
theorem linearClears_c14 : (Rows.linearClearsRow.ifaces == (Tryz.f6.params.toList ++ Rows.linearClearsSpec.plain.varTypes Tryz.prog).any (Tryz.prog.ifacesRec ·)) = true := by kernel_rfl
theorem linearClears_c15 : (Rows.linearClearsRow.mapsOut == Tryz.prog.mapsAmong Tryz.f6.resultTypes.toList) = true := by kernel_rfl
theorem linearClears_c16 : (Rows.linearClearsRow.loops == (Tryz.f6.params.toList ++ Rows.linearClearsSpec.plain.varTypes Tryz.prog).any (Tryz.prog.loopsFrom ·)) = true := by kernel_rfl
theorem linearClears_c17 : (Rows.linearClearsRow.wideKeys == (Tryz.f6.params.toList ++ Rows.linearClearsSpec.plain.varTypes Tryz.prog ++ Tryz.f6.resultTypes.toList).any (Tryz.prog.wideKeysFrom ·)) = true := by kernel_rfl
theorem linearClears_c18 : Rows.linearClearsSpec.vars.all (Tryz.prog.varReadable ·) = true := by kernel_rfl
theorem linearClears_c19 : Tryz.f6.resultTypes.all (fun t => Tryz.prog.readableRec t && decide (t < Tryz.prog.types.size)) = true := by kernel_rfl
theorem linearClears_c20 : (Rows.linearClearsRow.ifacesOut == Tryz.f6.resultTypes.toList.any (Tryz.prog.ifacesRec ·)) = true := by kernel_rfl
theorem linearClears_c21 : (Rows.linearClearsRow.loopsOut == Tryz.f6.resultTypes.toList.any (Tryz.prog.loopsFrom ·)) = true := by kernel_rfl
theorem linearClears_c22 : (Rows.linearClearsRow.plainKeys == Tryz.prog.plainKeys) = true := by kernel_rfl
theorem linearClears_c23 : Rows.linearClearsRow.shortTexts.isNone = true := by kernel_rfl
theorem linearClears_c24 : Tryz.prog.stopsHeard = true := by kernel_rfl
theorem linearClears_c25 : Tryz.prog.mayEnter = true := by kernel_rfl
theorem linearClears_c26 : (Rows.linearClearsRow.lifted == Tryz.prog.liftsFinal) = true := by kernel_rfl
theorem linearClears_c27 : (Tryz.prog.make == some Rows.linearClearsRow.make) = true := by kernel_rfl
theorem linearClears_c28 : (Rows.linearClearsRow.kinds == (if Rows.linearClearsRow.domain.isEmpty then [] else Tryz.f6.params.toList.map fun t => match Tryz.prog.underlying t with | some (.int k) => some k | _ => none)) = true := by kernel_rfl
theorem linearClears_c29 : (Rows.linearClearsRow.pinned == Rows.linearClearsRow.pinnedBy) = true := by kernel_rfl
theorem linearClears_c30 : (Rows.linearClearsRow.veiled == (Tryz.f6.params.toList ++ Rows.linearClearsSpec.plain.varTypes Tryz.prog ++ Tryz.f6.resultTypes.toList).any (Tryz.prog.veiledRec ·)) = true := by kernel_rfl
theorem linearClears_c31 : Rows.linearClearsRow.veiledFits Tryz.prog Tryz.f6.params.toList (Tryz.f6.params.toList ++ Rows.linearClearsSpec.plain.varTypes Tryz.prog ++ Tryz.f6.resultTypes.toList) = true := by kernel_rfl
set_option maxRecDepth 100000 in
theorem linearClears_facts : joinedFacts Tryz.prog 6 Tryz.f6 Rows.linearClearsSpec Rows.linearClearsRow = true := by
  unfold joinedFacts
  exact Rb.and_ (Rb.and_ (Rb.and_ (Rb.and_ (Rb.and_ (Rb.and_ (Rb.and_ (Rb.and_ (Rb.and_ (Rb.and_ (Rb.and_ (Rb.and_ (Rb.and_ (Rb.and_ (Rb.and_ (Rb.and_ (Rb.and_ (Rb.and_ (Rb.and_ (Rb.and_ (Rb.and_ (Rb.and_ (Rb.and_ (Rb.and_ (Rb.and_ (Rb.and_ (Rb.and_ (Rb.and_ (Rb.and_ (Rb.and_ (Rb.and_ (linearClears_c0) linearClears_c1) linearClears_c2) linearClears_c3) linearClears_c4) linearClears_c5) linearClears_c6) linearClears_c7) linearClears_c8) linearClears_c9) linearClears_c10) linearClears_c11) linearClears_c12) linearClears_c13) linearClears_c14) linearClears_c15) linearClears_c16) linearClears_c17) linearClears_c18) linearClears_c19) linearClears_c20) linearClears_c21) linearClears_c22) linearClears_c23) linearClears_c24) linearClears_c25) linearClears_c26) linearClears_c27) linearClears_c28) linearClears_c29) linearClears_c30) linearClears_c31
theorem linearClears_inst : Tryz.f6.isInstance Tryz.pinned.checked.prog Rows.linearClearsRow.origin Rows.linearClearsRow.targs := of_decide_eq_true (by kernel_rfl)
theorem linearClears_wrap : Tryz.f6.isWrapper Tryz.pinned.checked.prog Rows.linearClearsRow.wrapper Rows.linearClearsRow.mainSum := by unfold Func.isWrapper; first | (rw [if_pos (by decide +kernel)]; kernel_rfl) | (rw [if_neg (by decide +kernel)]; exact ⟨rfl, rfl⟩)
theorem linearClears_row : Rows.LinearClearsSaid :=
  OpenClaim.holds_of_wide 6 Tryz.f6 rfl rfl rfl rfl rfl rfl rfl ⟨rfl, rfl, rfl, rfl, rfl⟩ rfl rfl rfl rfl rfl linearClears_name Tryz.func6 linearClears_facts linearClears_inst linearClears_wrap
    (fun os started H enc _ => linearClears_lifted os started H enc)
theorem linearClears_wf : Rows.linearClearsRow.wfByText (OpenSpec.ofChange Rows.linearClearsSpec) = true := by kernel_rfl
theorem linearClears_main : Tryz.pinned.checked.prog.mainIs = some (true, "94aa445f2dc9a68aa77f6d476013ea7e4907784a5936c6184f49e6badaa0e9d2".toList) := by kernel_rfl
theorem linearClears_goes : false = Rows.linearClearsRow.goesBy Tryz.pinned.checked.prog := by kernel_rfl
theorem linearClears_looks : true = Tryz.pinned.checked.prog.looks [] := by kernel_rfl
theorem linearClears_std : ([25].all fun u => !Tryz.prog.wantsStandIn u) = true := by kernel_rfl
theorem linearClears_at : ∀ f fn, Tryz.pinned.checked.prog.funcNamed Rows.linearClearsRow.func = some f → Tryz.pinned.checked.prog.funcs[f]? = some fn → true = Tryz.pinned.checked.prog.looks [] ∧ ∀ (j : Nat) t, fn.params[j]? = some t → Tryz.pinned.checked.prog.wantsStandIn t = false := fun f fn hf hfn => by
  obtain rfl : f = 6 := Option.some.inj (linearClears_name.symm.trans hf) |>.symm
  obtain rfl : fn = Tryz.f6 := (Option.some.inj (Tryz.func6.symm.trans hfn)).symm
  exact ⟨linearClears_looks, fun j t ht => by
    rw [Tryz.params6] at ht
    have hm : t ∈ [25] := by simpa using Array.mem_of_getElem? ht
    exact (show Tryz.prog.wantsStandIn t = false by simpa using List.all_eq_true.1 linearClears_std t hm)⟩
theorem linearClears_holds : Rows.LinearClearsCardSaid :=
  Claim7.holds_tied_plain_at .later [] [.data, .data, .data, .data, .sentinel, .sentinel, .pinned] true (true, "94aa445f2dc9a68aa77f6d476013ea7e4907784a5936c6184f49e6badaa0e9d2") true
    linearClears_row (fun _ h => by cases h) linearClears_wf (fun _ h => by cases h) linearClears_row_tie rfl ⟨rfl, rfl⟩ linearClears_main rfl linearClears_at linearClears_goes
#print axioms linearClears_holds
end Go.Proofs.YtihbebbabjklkaaGreatDoor
