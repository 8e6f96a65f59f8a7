/-
  The closed cells of a row, limb by limb: so that each can be shown on its own. No program in sight.
-/
import Derived.JoinedOf
namespace Go.Fk
open Go

theorem joined_of {P : Program} {f : FuncId} {fn : Func} {s : ChangeSpec} {c : OpenClaim} (laid : laidOutB P = true) (rowed : mapsRowed P = true) (stops : P.stops = []) (knobs : P.stopKnobs = []) (heard : P.stopsHeard = true) (enter : P.mayEnter = true) (lifts : P.liftsFinal = false) (make : P.make = some .cut) (keys : P.plainKeys = false)
    (h1 : c.wf (OpenSpec.ofChange s) = true) (h2 : fn.params.all (P.readableRec ·) = true) (h3 : namedTie P c.named s.vars = true) (h4 : (c.stops == []) = true) (h5 : (c.knobs == []) = true)
    (h6 : (c.inPlace == P.inPlace f) = true) (h7 : (c.unfollowed == P.unfollowed f) = true) (h8 : (c.recurses == P.recurses f) = true) (h9 : (c.named == P.varsNamed f) = true)
    (h10 : ((c.maps == (fn.params.toList ++ s.plain.varTypes P).any (P.mapsRec ·)) && (c.ifaces == (fn.params.toList ++ s.plain.varTypes P).any (P.ifacesRec ·)) && (c.mapsOut == P.mapsAmong fn.resultTypes.toList) &&
      (c.loops == (fn.params.toList ++ s.plain.varTypes P).any (P.loopsFrom ·)) && (c.wideKeys == (fn.params.toList ++ s.plain.varTypes P ++ fn.resultTypes.toList).any (P.wideKeysFrom ·)) &&
      s.vars.all (P.varReadable ·) && fn.resultTypes.all (fun t => P.readableRec t && decide (t < P.types.size)) && (c.ifacesOut == fn.resultTypes.toList.any (P.ifacesRec ·)) && (c.loopsOut == fn.resultTypes.toList.any (P.loopsFrom ·))) = true)
    (h11 : (c.plainKeys == false) = true) (h12 : c.shortTexts.isNone = true) (h13 : (c.lifted == false) = true) (h14 : (some Make.cut == some c.make) = true)
    (h15 : ((c.kinds == (if c.domain.isEmpty then [] else fn.params.toList.map fun t => match P.underlying t with | some (.int k) => some k | _ => none)) && (c.pinned == c.pinnedBy) &&
      (c.veiled == (fn.params.toList ++ s.plain.varTypes P ++ fn.resultTypes.toList).any (P.veiledRec ·)) && c.veiledFits P fn.params.toList (fn.params.toList ++ s.plain.varTypes P ++ fn.resultTypes.toList)) = true) : joinedFacts P f fn s c = true := by
  simp only [Bool.and_eq_true] at h10 h15
  obtain ⟨⟨⟨⟨⟨⟨⟨⟨a1, a2⟩, a3⟩, a4⟩, a5⟩, a6⟩, a7⟩, a8⟩, a9⟩ := h10
  obtain ⟨⟨⟨b1, b2⟩, b3⟩, b4⟩ := h15
  have e1 : (P.stops == []) = true := by rw [stops]; rfl
  have e2 : (P.stopKnobs == []) = true := by rw [knobs]; rfl
  have e3 : (c.plainKeys == P.plainKeys) = true := by rw [keys]; exact h11
  have e4 : (c.lifted == P.liftsFinal) = true := by rw [lifts]; exact h13
  have e5 : (P.make == some c.make) = true := by rw [make]; exact h14
  unfold joinedFacts
  simp only [Bool.and_eq_true]
  exact ⟨⟨⟨⟨⟨⟨⟨⟨⟨⟨⟨⟨⟨⟨⟨⟨⟨⟨⟨⟨⟨⟨⟨⟨⟨⟨⟨⟨⟨⟨⟨h1, laid⟩, rowed⟩, h2⟩, h3⟩, h4⟩, e1⟩, h5⟩, e2⟩, h6⟩, h7⟩, h8⟩, h9⟩, a1⟩, a2⟩, a3⟩, a4⟩, a5⟩, a6⟩, a7⟩, a8⟩, a9⟩, e3⟩, h12⟩, heard⟩, enter⟩, e4⟩, e5⟩, b1⟩, b2⟩, b3⟩, b4⟩
end Go.Fk
