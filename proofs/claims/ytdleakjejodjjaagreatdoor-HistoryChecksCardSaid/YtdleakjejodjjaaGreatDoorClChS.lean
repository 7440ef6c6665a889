/- HistoryChecks: the closed facts of its row, each by the kernel, one by one (whole they do not fit the memory). -/
import Derived.Test.YtdleakjejodjjaaGreatDoorRows
import Derived.JoinedOf
namespace Go.Proofs.YtdleakjejodjjaaGreatDoor.historyChecks
theorem named : Tryz.pinned.checked.prog.funcNamed Rows.historyChecksRow.func = some 3 := by kernel_rfl
theorem an {a b : Bool} (h : a = true) (g : b = true) : (a && b) = true := by rw [h, g]; rfl
noncomputable abbrev P := Tryz.pinned.checked.prog
abbrev R := Rows.historyChecksRow
abbrev S := Rows.historyChecksSpec
theorem p0 : R.wf (OpenSpec.ofChange S) = true := by kernel_rfl
theorem p1 : laidOutB P = true := by kernel_rfl
theorem p2 : mapsRowed P = true := by kernel_rfl
theorem p3 : Tryz.f3.params.all (P.readableRec ·) = true := by kernel_rfl
theorem p4 : namedTie P R.named S.vars = true := by kernel_rfl
theorem p5 : (R.stops == []) = true := by kernel_rfl
theorem p6 : (P.stops == []) = true := by kernel_rfl
theorem p7 : (R.knobs == []) = true := by kernel_rfl
theorem p8 : (P.stopKnobs == []) = true := by kernel_rfl
theorem p9 : (R.inPlace == P.inPlace 3) = true := by kernel_rfl
theorem p10 : (R.unfollowed == P.unfollowed 3) = true := by kernel_rfl
theorem p11 : (R.recurses == P.recurses 3) = true := by kernel_rfl
theorem p12 : (R.named == P.varsNamed 3) = true := by kernel_rfl
theorem p13 : (R.maps == (Tryz.f3.params.toList ++ S.plain.varTypes P).any (P.mapsRec ·)) = true := by kernel_rfl
theorem p14 : (R.ifaces == (Tryz.f3.params.toList ++ S.plain.varTypes P).any (P.ifacesRec ·)) = true := by kernel_rfl
theorem p15 : (R.mapsOut == P.mapsAmong Tryz.f3.resultTypes.toList) = true := by kernel_rfl
theorem p16 : (R.loops == (Tryz.f3.params.toList ++ S.plain.varTypes P).any (P.loopsFrom ·)) = true := by kernel_rfl
theorem p17 : (R.wideKeys == (Tryz.f3.params.toList ++ S.plain.varTypes P ++ Tryz.f3.resultTypes.toList).any (P.wideKeysFrom ·)) = true := by kernel_rfl
theorem p18 : S.vars.all (P.varReadable ·) = true := by kernel_rfl
theorem p19 : Tryz.f3.resultTypes.all (fun t => P.readableRec t && decide (t < P.types.size)) = true := by kernel_rfl
theorem p20 : (R.ifacesOut == Tryz.f3.resultTypes.toList.any (P.ifacesRec ·)) = true := by kernel_rfl
theorem p21 : (R.loopsOut == Tryz.f3.resultTypes.toList.any (P.loopsFrom ·)) = true := by kernel_rfl
theorem p22 : (R.plainKeys == P.plainKeys) = true := by kernel_rfl
theorem p23 : R.shortTexts.isNone = true := by kernel_rfl
theorem p24 : P.stopsHeard = true := by kernel_rfl
theorem p25 : P.mayEnter = true := by kernel_rfl
theorem p26 : (R.lifted == P.liftsFinal) = true := by kernel_rfl
theorem p27 : (P.make == some R.make) = true := by kernel_rfl
theorem p28 : (R.kinds == (if R.domain.isEmpty then [] else Tryz.f3.params.toList.map fun t => match P.underlying t with | some (.int k) => some k | _ => none)) = true := by kernel_rfl
theorem p29 : (R.pinned == R.pinnedBy) = true := by kernel_rfl
theorem p30 : (R.veiled == (Tryz.f3.params.toList ++ S.plain.varTypes P ++ Tryz.f3.resultTypes.toList).any (P.veiledRec ·)) = true := by kernel_rfl
theorem p31 : R.veiledFits P Tryz.f3.params.toList (Tryz.f3.params.toList ++ S.plain.varTypes P ++ Tryz.f3.resultTypes.toList) = true := by kernel_rfl
set_option maxRecDepth 100000 in
theorem closed : joinedFacts Tryz.pinned.checked.prog 3 Tryz.f3 Rows.historyChecksSpec Rows.historyChecksRow = true := by
  unfold joinedFacts
  exact (an (an (an (an (an (an (an (an (an (an (an (an (an (an (an (an (an (an (an (an (an (an (an (an (an (an (an (an (an (an (an p0 p1) p2) p3) p4) p5) p6) p7) p8) p9) p10) p11) p12) p13) p14) p15) p16) p17) p18) p19) p20) p21) p22) p23) p24) p25) p26) p27) p28) p29) p30) p31)
end Go.Proofs.YtdleakjejodjjaaGreatDoor.historyChecks
