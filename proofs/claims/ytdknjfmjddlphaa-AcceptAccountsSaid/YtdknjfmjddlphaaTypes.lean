/-
  Facts on the types of the program, for the logic of frames: sizes, fields, equality. Printed by a program of this session from the translation.
-/
import Derived.Test.YtdknjfmjddlphaaChecked
import Derived.Test.YtdknjfmjddlphaaOps
namespace Go.Proofs.Ytdknjfmjddlphaa
open Go Go.Fk
theorem mixed : Try.prog.follows .mixedOrders = true := by kernel_rfl
theorem ty3 : TyEnc Try.prog 3 Int := TyEnc.int (by kernel_rfl) (by kernel_rfl)
theorem ty22 : TyEnc Try.prog 22 Int := TyEnc.int (by kernel_rfl) (by kernel_rfl)
theorem ty24 : TyEnc Try.prog 24 Nm := TyEnc.agg (by kernel_rfl) (by kernel_rfl) (fun _ => rfl)
theorem ty28 : TyEnc Try.prog 28 Vt := TyEnc.agg (by kernel_rfl) (by kernel_rfl) (fun _ => rfl)
theorem ty49 : TyEnc Try.prog 49 Oc := TyEnc.agg (by kernel_rfl) (by kernel_rfl) (fun _ => rfl)
theorem ty82 : TyEnc Try.prog 82 Ch := TyEnc.agg (by kernel_rfl) (by kernel_rfl) (fun _ => rfl)
theorem sl25 : TySl Try.prog 25 28 Vt := ⟨Try.underlying25, ty28⟩
theorem ln25 : Try.prog.underlying 25 = some (.slice (Try.prog.elem 25)) := by kernel_rfl
theorem sl37 : TySl Try.prog 37 49 Oc := ⟨Try.underlying37, ty49⟩
theorem ln37 : Try.prog.underlying 37 = some (.slice (Try.prog.elem 37)) := by kernel_rfl
theorem sl40 : TySl Try.prog 40 24 Nm := ⟨Try.underlying40, ty24⟩
theorem ln40 : Try.prog.underlying 40 = some (.slice (Try.prog.elem 40)) := by kernel_rfl
theorem sl51 : TySl Try.prog 51 82 Ch := ⟨Try.underlying51, ty82⟩
theorem ln51 : Try.prog.underlying 51 = some (.slice (Try.prog.elem 51)) := by kernel_rfl
theorem sl57 : TySl Try.prog 57 3 Int := ⟨Try.underlying57, ty3⟩
theorem ln57 : Try.prog.underlying 57 = some (.slice (Try.prog.elem 57)) := by kernel_rfl
theorem fo28_0 : FieldOff Try.prog 28 0 0 := FieldOff.mk (n := 0) Try.underlying28 rfl rfl (by kernel_rfl)
theorem fo28_1 : FieldOff Try.prog 28 1 1 := FieldOff.mk (n := 0) Try.underlying28 rfl rfl (by kernel_rfl)
theorem fo28_2 : FieldOff Try.prog 28 2 2 := FieldOff.mk (n := 0) Try.underlying28 rfl rfl (by kernel_rfl)
theorem fo28_3 : FieldOff Try.prog 28 3 3 := FieldOff.mk (n := 0) Try.underlying28 rfl rfl (by kernel_rfl)
theorem fo28_4 : FieldOff Try.prog 28 4 4 := FieldOff.mk (n := 0) Try.underlying28 rfl rfl (by kernel_rfl)
theorem fo28_5 : FieldOff Try.prog 28 5 5 := FieldOff.mk (n := 0) Try.underlying28 rfl rfl (by kernel_rfl)
theorem fo28_6 : FieldOff Try.prog 28 6 6 := FieldOff.mk (n := 7) Try.underlying28 rfl rfl (by kernel_rfl)
theorem fo28_7 : FieldOff Try.prog 28 7 14 := FieldOff.mk (n := 7) Try.underlying28 rfl rfl (by kernel_rfl)
theorem fo49_0 : FieldOff Try.prog 49 0 0 := FieldOff.mk (n := 0) Try.underlying49 rfl rfl (by kernel_rfl)
theorem fo49_1 : FieldOff Try.prog 49 1 1 := FieldOff.mk (n := 0) Try.underlying49 rfl rfl (by kernel_rfl)
theorem fo49_2 : FieldOff Try.prog 49 2 2 := FieldOff.mk (n := 0) Try.underlying49 rfl rfl (by kernel_rfl)
theorem fo49_3 : FieldOff Try.prog 49 3 3 := FieldOff.mk (n := 7) Try.underlying49 rfl rfl (by kernel_rfl)
theorem fo68_0 : FieldOff Try.prog 68 0 0 := FieldOff.mk (n := 0) Try.underlying68 rfl rfl (by kernel_rfl)
theorem fo68_1 : FieldOff Try.prog 68 1 1 := FieldOff.mk (n := 0) Try.underlying68 rfl rfl (by kernel_rfl)
theorem fo68_2 : FieldOff Try.prog 68 2 2 := FieldOff.mk (n := 0) Try.underlying68 rfl rfl (by kernel_rfl)
theorem fo82_0 : FieldOff Try.prog 82 0 0 := FieldOff.mk (n := 0) Try.underlying82 rfl rfl (by kernel_rfl)
theorem fo82_1 : FieldOff Try.prog 82 1 1 := FieldOff.mk (n := 7) Try.underlying82 rfl rfl (by kernel_rfl)
theorem fo89_0 : FieldOff Try.prog 89 0 0 := FieldOff.mk (n := 0) Try.underlying89 rfl rfl (by kernel_rfl)
theorem fo89_1 : FieldOff Try.prog 89 1 1 := FieldOff.mk (n := 0) Try.underlying89 rfl rfl (by kernel_rfl)
theorem fo89_2 : FieldOff Try.prog 89 2 2 := FieldOff.mk (n := 0) Try.underlying89 rfl rfl (by kernel_rfl)
theorem fo89_3 : FieldOff Try.prog 89 3 3 := FieldOff.mk (n := 0) Try.underlying89 rfl rfl (by kernel_rfl)
theorem fo106_0 : FieldOff Try.prog 106 0 0 := FieldOff.mk (n := 0) Try.underlying106 rfl rfl (by kernel_rfl)
theorem fo106_1 : FieldOff Try.prog 106 1 1 := FieldOff.mk (n := 0) Try.underlying106 rfl rfl (by kernel_rfl)
theorem si1 : (Try.prog.info? 1).map (·.size) = some 1 := by kernel_rfl
theorem zs1 : ((Try.prog.info? 1).bind (·.zero)).map (·.cells.size) = some 1 := by kernel_rfl
theorem one1 : isOneT Try.prog 1 = true := by kernel_rfl
theorem si2 : (Try.prog.info? 2).map (·.size) = some 1 := by kernel_rfl
theorem zs2 : ((Try.prog.info? 2).bind (·.zero)).map (·.cells.size) = some 1 := by kernel_rfl
theorem one2 : isOneT Try.prog 2 = true := by kernel_rfl
theorem si3 : (Try.prog.info? 3).map (·.size) = some 1 := by kernel_rfl
theorem zs3 : ((Try.prog.info? 3).bind (·.zero)).map (·.cells.size) = some 1 := by kernel_rfl
theorem one3 : isOneT Try.prog 3 = true := by kernel_rfl
theorem bt3 : (Try.prog.info? 3).map (·.bytes) = some 8 := by kernel_rfl
theorem si4 : (Try.prog.info? 4).map (·.size) = some 1 := by kernel_rfl
theorem zs4 : ((Try.prog.info? 4).bind (·.zero)).map (·.cells.size) = some 1 := by kernel_rfl
theorem one4 : isOneT Try.prog 4 = true := by kernel_rfl
theorem si5 : (Try.prog.info? 5).map (·.size) = some 1 := by kernel_rfl
theorem zs5 : ((Try.prog.info? 5).bind (·.zero)).map (·.cells.size) = some 1 := by kernel_rfl
theorem one5 : isOneT Try.prog 5 = true := by kernel_rfl
theorem si12 : (Try.prog.info? 12).map (·.size) = some 1 := by kernel_rfl
theorem zs12 : ((Try.prog.info? 12).bind (·.zero)).map (·.cells.size) = some 1 := by kernel_rfl
theorem one12 : isOneT Try.prog 12 = true := by kernel_rfl
theorem si21 : (Try.prog.info? 21).map (·.size) = some 1 := by kernel_rfl
theorem zs21 : ((Try.prog.info? 21).bind (·.zero)).map (·.cells.size) = some 1 := by kernel_rfl
theorem one21 : isOneT Try.prog 21 = true := by kernel_rfl
theorem si22 : (Try.prog.info? 22).map (·.size) = some 1 := by kernel_rfl
theorem zs22 : ((Try.prog.info? 22).bind (·.zero)).map (·.cells.size) = some 1 := by kernel_rfl
theorem one22 : isOneT Try.prog 22 = true := by kernel_rfl
theorem bt22 : (Try.prog.info? 22).map (·.bytes) = some 8 := by kernel_rfl
theorem si23 : (Try.prog.info? 23).map (·.size) = some 8 := by kernel_rfl
theorem zs23 : ((Try.prog.info? 23).bind (·.zero)).map (·.cells.size) = some 8 := by kernel_rfl
theorem si24 : (Try.prog.info? 24).map (·.size) = some 8 := by kernel_rfl
theorem zs24 : ((Try.prog.info? 24).bind (·.zero)).map (·.cells.size) = some 8 := by kernel_rfl
theorem bt24 : (Try.prog.info? 24).map (·.bytes) = some 8 := by kernel_rfl
theorem si25 : (Try.prog.info? 25).map (·.size) = some 1 := by kernel_rfl
theorem zs25 : ((Try.prog.info? 25).bind (·.zero)).map (·.cells.size) = some 1 := by kernel_rfl
theorem one25 : isOneT Try.prog 25 = true := by kernel_rfl
theorem si26 : (Try.prog.info? 26).map (·.size) = some 1 := by kernel_rfl
theorem zs26 : ((Try.prog.info? 26).bind (·.zero)).map (·.cells.size) = some 1 := by kernel_rfl
theorem one26 : isOneT Try.prog 26 = true := by kernel_rfl
theorem si28 : (Try.prog.info? 28).map (·.size) = some 22 := by kernel_rfl
theorem zs28 : ((Try.prog.info? 28).bind (·.zero)).map (·.cells.size) = some 22 := by kernel_rfl
theorem bt28 : (Try.prog.info? 28).map (·.bytes) = some 64 := by kernel_rfl
theorem si29 : (Try.prog.info? 29).map (·.size) = some 1 := by kernel_rfl
theorem zs29 : ((Try.prog.info? 29).bind (·.zero)).map (·.cells.size) = some 1 := by kernel_rfl
theorem one29 : isOneT Try.prog 29 = true := by kernel_rfl
theorem si30 : (Try.prog.info? 30).map (·.size) = some 1 := by kernel_rfl
theorem zs30 : ((Try.prog.info? 30).bind (·.zero)).map (·.cells.size) = some 1 := by kernel_rfl
theorem one30 : isOneT Try.prog 30 = true := by kernel_rfl
theorem si31 : (Try.prog.info? 31).map (·.size) = some 1 := by kernel_rfl
theorem zs31 : ((Try.prog.info? 31).bind (·.zero)).map (·.cells.size) = some 1 := by kernel_rfl
theorem one31 : isOneT Try.prog 31 = true := by kernel_rfl
theorem si32 : (Try.prog.info? 32).map (·.size) = some 1 := by kernel_rfl
theorem zs32 : ((Try.prog.info? 32).bind (·.zero)).map (·.cells.size) = some 1 := by kernel_rfl
theorem one32 : isOneT Try.prog 32 = true := by kernel_rfl
theorem si33 : (Try.prog.info? 33).map (·.size) = some 1 := by kernel_rfl
theorem zs33 : ((Try.prog.info? 33).bind (·.zero)).map (·.cells.size) = some 1 := by kernel_rfl
theorem one33 : isOneT Try.prog 33 = true := by kernel_rfl
theorem si34 : (Try.prog.info? 34).map (·.size) = some 1 := by kernel_rfl
theorem zs34 : ((Try.prog.info? 34).bind (·.zero)).map (·.cells.size) = some 1 := by kernel_rfl
theorem one34 : isOneT Try.prog 34 = true := by kernel_rfl
theorem si35 : (Try.prog.info? 35).map (·.size) = some 1 := by kernel_rfl
theorem zs35 : ((Try.prog.info? 35).bind (·.zero)).map (·.cells.size) = some 1 := by kernel_rfl
theorem one35 : isOneT Try.prog 35 = true := by kernel_rfl
theorem si36 : (Try.prog.info? 36).map (·.size) = some 1 := by kernel_rfl
theorem zs36 : ((Try.prog.info? 36).bind (·.zero)).map (·.cells.size) = some 1 := by kernel_rfl
theorem one36 : isOneT Try.prog 36 = true := by kernel_rfl
theorem si37 : (Try.prog.info? 37).map (·.size) = some 1 := by kernel_rfl
theorem zs37 : ((Try.prog.info? 37).bind (·.zero)).map (·.cells.size) = some 1 := by kernel_rfl
theorem one37 : isOneT Try.prog 37 = true := by kernel_rfl
theorem si38 : (Try.prog.info? 38).map (·.size) = some 1 := by kernel_rfl
theorem zs38 : ((Try.prog.info? 38).bind (·.zero)).map (·.cells.size) = some 1 := by kernel_rfl
theorem one38 : isOneT Try.prog 38 = true := by kernel_rfl
theorem si39 : (Try.prog.info? 39).map (·.size) = some 1 := by kernel_rfl
theorem zs39 : ((Try.prog.info? 39).bind (·.zero)).map (·.cells.size) = some 1 := by kernel_rfl
theorem one39 : isOneT Try.prog 39 = true := by kernel_rfl
theorem si40 : (Try.prog.info? 40).map (·.size) = some 1 := by kernel_rfl
theorem zs40 : ((Try.prog.info? 40).bind (·.zero)).map (·.cells.size) = some 1 := by kernel_rfl
theorem one40 : isOneT Try.prog 40 = true := by kernel_rfl
theorem si41 : (Try.prog.info? 41).map (·.size) = some 1 := by kernel_rfl
theorem zs41 : ((Try.prog.info? 41).bind (·.zero)).map (·.cells.size) = some 1 := by kernel_rfl
theorem one41 : isOneT Try.prog 41 = true := by kernel_rfl
theorem si42 : (Try.prog.info? 42).map (·.size) = some 1 := by kernel_rfl
theorem zs42 : ((Try.prog.info? 42).bind (·.zero)).map (·.cells.size) = some 1 := by kernel_rfl
theorem one42 : isOneT Try.prog 42 = true := by kernel_rfl
theorem si43 : (Try.prog.info? 43).map (·.size) = some 1 := by kernel_rfl
theorem zs43 : ((Try.prog.info? 43).bind (·.zero)).map (·.cells.size) = some 1 := by kernel_rfl
theorem one43 : isOneT Try.prog 43 = true := by kernel_rfl
theorem si44 : (Try.prog.info? 44).map (·.size) = some 1 := by kernel_rfl
theorem zs44 : ((Try.prog.info? 44).bind (·.zero)).map (·.cells.size) = some 1 := by kernel_rfl
theorem one44 : isOneT Try.prog 44 = true := by kernel_rfl
theorem si45 : (Try.prog.info? 45).map (·.size) = some 1 := by kernel_rfl
theorem zs45 : ((Try.prog.info? 45).bind (·.zero)).map (·.cells.size) = some 1 := by kernel_rfl
theorem one45 : isOneT Try.prog 45 = true := by kernel_rfl
theorem si46 : (Try.prog.info? 46).map (·.size) = some 1 := by kernel_rfl
theorem zs46 : ((Try.prog.info? 46).bind (·.zero)).map (·.cells.size) = some 1 := by kernel_rfl
theorem one46 : isOneT Try.prog 46 = true := by kernel_rfl
theorem si47 : (Try.prog.info? 47).map (·.size) = some 1 := by kernel_rfl
theorem zs47 : ((Try.prog.info? 47).bind (·.zero)).map (·.cells.size) = some 1 := by kernel_rfl
theorem one47 : isOneT Try.prog 47 = true := by kernel_rfl
theorem si49 : (Try.prog.info? 49).map (·.size) = some 11 := by kernel_rfl
theorem zs49 : ((Try.prog.info? 49).bind (·.zero)).map (·.cells.size) = some 11 := by kernel_rfl
theorem bt49 : (Try.prog.info? 49).map (·.bytes) = some 32 := by kernel_rfl
theorem si50 : (Try.prog.info? 50).map (·.size) = some 1 := by kernel_rfl
theorem zs50 : ((Try.prog.info? 50).bind (·.zero)).map (·.cells.size) = some 1 := by kernel_rfl
theorem one50 : isOneT Try.prog 50 = true := by kernel_rfl
theorem si51 : (Try.prog.info? 51).map (·.size) = some 1 := by kernel_rfl
theorem zs51 : ((Try.prog.info? 51).bind (·.zero)).map (·.cells.size) = some 1 := by kernel_rfl
theorem one51 : isOneT Try.prog 51 = true := by kernel_rfl
theorem si53 : (Try.prog.info? 53).map (·.size) = some 1 := by kernel_rfl
theorem zs53 : ((Try.prog.info? 53).bind (·.zero)).map (·.cells.size) = some 1 := by kernel_rfl
theorem one53 : isOneT Try.prog 53 = true := by kernel_rfl
theorem si54 : (Try.prog.info? 54).map (·.size) = some 1 := by kernel_rfl
theorem zs54 : ((Try.prog.info? 54).bind (·.zero)).map (·.cells.size) = some 1 := by kernel_rfl
theorem one54 : isOneT Try.prog 54 = true := by kernel_rfl
theorem si55 : (Try.prog.info? 55).map (·.size) = some 1 := by kernel_rfl
theorem zs55 : ((Try.prog.info? 55).bind (·.zero)).map (·.cells.size) = some 1 := by kernel_rfl
theorem one55 : isOneT Try.prog 55 = true := by kernel_rfl
theorem si56 : (Try.prog.info? 56).map (·.size) = some 1 := by kernel_rfl
theorem zs56 : ((Try.prog.info? 56).bind (·.zero)).map (·.cells.size) = some 1 := by kernel_rfl
theorem one56 : isOneT Try.prog 56 = true := by kernel_rfl
theorem si57 : (Try.prog.info? 57).map (·.size) = some 1 := by kernel_rfl
theorem zs57 : ((Try.prog.info? 57).bind (·.zero)).map (·.cells.size) = some 1 := by kernel_rfl
theorem one57 : isOneT Try.prog 57 = true := by kernel_rfl
theorem si58 : (Try.prog.info? 58).map (·.size) = some 1 := by kernel_rfl
theorem zs58 : ((Try.prog.info? 58).bind (·.zero)).map (·.cells.size) = some 1 := by kernel_rfl
theorem one58 : isOneT Try.prog 58 = true := by kernel_rfl
theorem si59 : (Try.prog.info? 59).map (·.size) = some 1 := by kernel_rfl
theorem zs59 : ((Try.prog.info? 59).bind (·.zero)).map (·.cells.size) = some 1 := by kernel_rfl
theorem one59 : isOneT Try.prog 59 = true := by kernel_rfl
theorem si60 : (Try.prog.info? 60).map (·.size) = some 1 := by kernel_rfl
theorem zs60 : ((Try.prog.info? 60).bind (·.zero)).map (·.cells.size) = some 1 := by kernel_rfl
theorem one60 : isOneT Try.prog 60 = true := by kernel_rfl
theorem si61 : (Try.prog.info? 61).map (·.size) = some 1 := by kernel_rfl
theorem zs61 : ((Try.prog.info? 61).bind (·.zero)).map (·.cells.size) = some 1 := by kernel_rfl
theorem one61 : isOneT Try.prog 61 = true := by kernel_rfl
theorem si63 : (Try.prog.info? 63).map (·.size) = some 1 := by kernel_rfl
theorem zs63 : ((Try.prog.info? 63).bind (·.zero)).map (·.cells.size) = some 1 := by kernel_rfl
theorem one63 : isOneT Try.prog 63 = true := by kernel_rfl
theorem si64 : (Try.prog.info? 64).map (·.size) = some 1 := by kernel_rfl
theorem zs64 : ((Try.prog.info? 64).bind (·.zero)).map (·.cells.size) = some 1 := by kernel_rfl
theorem one64 : isOneT Try.prog 64 = true := by kernel_rfl
theorem si65 : (Try.prog.info? 65).map (·.size) = some 1 := by kernel_rfl
theorem zs65 : ((Try.prog.info? 65).bind (·.zero)).map (·.cells.size) = some 1 := by kernel_rfl
theorem one65 : isOneT Try.prog 65 = true := by kernel_rfl
theorem si66 : (Try.prog.info? 66).map (·.size) = some 1 := by kernel_rfl
theorem zs66 : ((Try.prog.info? 66).bind (·.zero)).map (·.cells.size) = some 1 := by kernel_rfl
theorem one66 : isOneT Try.prog 66 = true := by kernel_rfl
theorem si68 : (Try.prog.info? 68).map (·.size) = some 3 := by kernel_rfl
theorem zs68 : ((Try.prog.info? 68).bind (·.zero)).map (·.cells.size) = some 3 := by kernel_rfl
theorem ag68 : isAggT Try.prog 68 = true := by kernel_rfl
theorem si69 : (Try.prog.info? 69).map (·.size) = some 1 := by kernel_rfl
theorem zs69 : ((Try.prog.info? 69).bind (·.zero)).map (·.cells.size) = some 1 := by kernel_rfl
theorem one69 : isOneT Try.prog 69 = true := by kernel_rfl
theorem si70 : (Try.prog.info? 70).map (·.size) = some 5 := by kernel_rfl
theorem zs70 : ((Try.prog.info? 70).bind (·.zero)).map (·.cells.size) = some 5 := by kernel_rfl
theorem si71 : (Try.prog.info? 71).map (·.size) = some 1 := by kernel_rfl
theorem zs71 : ((Try.prog.info? 71).bind (·.zero)).map (·.cells.size) = some 1 := by kernel_rfl
theorem one71 : isOneT Try.prog 71 = true := by kernel_rfl
theorem si72 : (Try.prog.info? 72).map (·.size) = some 1 := by kernel_rfl
theorem zs72 : ((Try.prog.info? 72).bind (·.zero)).map (·.cells.size) = some 1 := by kernel_rfl
theorem one72 : isOneT Try.prog 72 = true := by kernel_rfl
theorem si73 : (Try.prog.info? 73).map (·.size) = some 1 := by kernel_rfl
theorem zs73 : ((Try.prog.info? 73).bind (·.zero)).map (·.cells.size) = some 1 := by kernel_rfl
theorem one73 : isOneT Try.prog 73 = true := by kernel_rfl
theorem si74 : (Try.prog.info? 74).map (·.size) = some 1 := by kernel_rfl
theorem zs74 : ((Try.prog.info? 74).bind (·.zero)).map (·.cells.size) = some 1 := by kernel_rfl
theorem one74 : isOneT Try.prog 74 = true := by kernel_rfl
theorem si75 : (Try.prog.info? 75).map (·.size) = some 1 := by kernel_rfl
theorem zs75 : ((Try.prog.info? 75).bind (·.zero)).map (·.cells.size) = some 1 := by kernel_rfl
theorem one75 : isOneT Try.prog 75 = true := by kernel_rfl
theorem si76 : (Try.prog.info? 76).map (·.size) = some 1 := by kernel_rfl
theorem zs76 : ((Try.prog.info? 76).bind (·.zero)).map (·.cells.size) = some 1 := by kernel_rfl
theorem one76 : isOneT Try.prog 76 = true := by kernel_rfl
theorem si77 : (Try.prog.info? 77).map (·.size) = some 1 := by kernel_rfl
theorem zs77 : ((Try.prog.info? 77).bind (·.zero)).map (·.cells.size) = some 1 := by kernel_rfl
theorem one77 : isOneT Try.prog 77 = true := by kernel_rfl
theorem si78 : (Try.prog.info? 78).map (·.size) = some 1 := by kernel_rfl
theorem zs78 : ((Try.prog.info? 78).bind (·.zero)).map (·.cells.size) = some 1 := by kernel_rfl
theorem one78 : isOneT Try.prog 78 = true := by kernel_rfl
theorem si79 : (Try.prog.info? 79).map (·.size) = some 1 := by kernel_rfl
theorem zs79 : ((Try.prog.info? 79).bind (·.zero)).map (·.cells.size) = some 1 := by kernel_rfl
theorem one79 : isOneT Try.prog 79 = true := by kernel_rfl
theorem si80 : (Try.prog.info? 80).map (·.size) = some 1 := by kernel_rfl
theorem zs80 : ((Try.prog.info? 80).bind (·.zero)).map (·.cells.size) = some 1 := by kernel_rfl
theorem one80 : isOneT Try.prog 80 = true := by kernel_rfl
theorem si82 : (Try.prog.info? 82).map (·.size) = some 9 := by kernel_rfl
theorem zs82 : ((Try.prog.info? 82).bind (·.zero)).map (·.cells.size) = some 9 := by kernel_rfl
theorem bt82 : (Try.prog.info? 82).map (·.bytes) = some 16 := by kernel_rfl
theorem si83 : (Try.prog.info? 83).map (·.size) = some 1 := by kernel_rfl
theorem zs83 : ((Try.prog.info? 83).bind (·.zero)).map (·.cells.size) = some 1 := by kernel_rfl
theorem one83 : isOneT Try.prog 83 = true := by kernel_rfl
theorem si84 : (Try.prog.info? 84).map (·.size) = some 1 := by kernel_rfl
theorem zs84 : ((Try.prog.info? 84).bind (·.zero)).map (·.cells.size) = some 1 := by kernel_rfl
theorem one84 : isOneT Try.prog 84 = true := by kernel_rfl
theorem si85 : (Try.prog.info? 85).map (·.size) = some 1 := by kernel_rfl
theorem zs85 : ((Try.prog.info? 85).bind (·.zero)).map (·.cells.size) = some 1 := by kernel_rfl
theorem one85 : isOneT Try.prog 85 = true := by kernel_rfl
theorem si86 : (Try.prog.info? 86).map (·.size) = some 1 := by kernel_rfl
theorem zs86 : ((Try.prog.info? 86).bind (·.zero)).map (·.cells.size) = some 1 := by kernel_rfl
theorem one86 : isOneT Try.prog 86 = true := by kernel_rfl
theorem si87 : (Try.prog.info? 87).map (·.size) = some 1 := by kernel_rfl
theorem zs87 : ((Try.prog.info? 87).bind (·.zero)).map (·.cells.size) = some 1 := by kernel_rfl
theorem one87 : isOneT Try.prog 87 = true := by kernel_rfl
theorem si89 : (Try.prog.info? 89).map (·.size) = some 4 := by kernel_rfl
theorem zs89 : ((Try.prog.info? 89).bind (·.zero)).map (·.cells.size) = some 4 := by kernel_rfl
theorem ag89 : isAggT Try.prog 89 = true := by kernel_rfl
theorem si91 : (Try.prog.info? 91).map (·.size) = some 1 := by kernel_rfl
theorem zs91 : ((Try.prog.info? 91).bind (·.zero)).map (·.cells.size) = some 1 := by kernel_rfl
theorem one91 : isOneT Try.prog 91 = true := by kernel_rfl
theorem si92 : (Try.prog.info? 92).map (·.size) = some 1 := by kernel_rfl
theorem zs92 : ((Try.prog.info? 92).bind (·.zero)).map (·.cells.size) = some 1 := by kernel_rfl
theorem one92 : isOneT Try.prog 92 = true := by kernel_rfl
theorem si93 : (Try.prog.info? 93).map (·.size) = some 1 := by kernel_rfl
theorem zs93 : ((Try.prog.info? 93).bind (·.zero)).map (·.cells.size) = some 1 := by kernel_rfl
theorem one93 : isOneT Try.prog 93 = true := by kernel_rfl
theorem si94 : (Try.prog.info? 94).map (·.size) = some 1 := by kernel_rfl
theorem zs94 : ((Try.prog.info? 94).bind (·.zero)).map (·.cells.size) = some 1 := by kernel_rfl
theorem one94 : isOneT Try.prog 94 = true := by kernel_rfl
theorem si95 : (Try.prog.info? 95).map (·.size) = some 1 := by kernel_rfl
theorem zs95 : ((Try.prog.info? 95).bind (·.zero)).map (·.cells.size) = some 1 := by kernel_rfl
theorem one95 : isOneT Try.prog 95 = true := by kernel_rfl
theorem si100 : (Try.prog.info? 100).map (·.size) = some 1 := by kernel_rfl
theorem zs100 : ((Try.prog.info? 100).bind (·.zero)).map (·.cells.size) = some 1 := by kernel_rfl
theorem one100 : isOneT Try.prog 100 = true := by kernel_rfl
theorem si101 : (Try.prog.info? 101).map (·.size) = some 1 := by kernel_rfl
theorem zs101 : ((Try.prog.info? 101).bind (·.zero)).map (·.cells.size) = some 1 := by kernel_rfl
theorem one101 : isOneT Try.prog 101 = true := by kernel_rfl
theorem si102 : (Try.prog.info? 102).map (·.size) = some 1 := by kernel_rfl
theorem zs102 : ((Try.prog.info? 102).bind (·.zero)).map (·.cells.size) = some 1 := by kernel_rfl
theorem one102 : isOneT Try.prog 102 = true := by kernel_rfl
theorem si103 : (Try.prog.info? 103).map (·.size) = some 1 := by kernel_rfl
theorem zs103 : ((Try.prog.info? 103).bind (·.zero)).map (·.cells.size) = some 1 := by kernel_rfl
theorem one103 : isOneT Try.prog 103 = true := by kernel_rfl
theorem si104 : (Try.prog.info? 104).map (·.size) = some 1 := by kernel_rfl
theorem zs104 : ((Try.prog.info? 104).bind (·.zero)).map (·.cells.size) = some 1 := by kernel_rfl
theorem one104 : isOneT Try.prog 104 = true := by kernel_rfl
theorem si106 : (Try.prog.info? 106).map (·.size) = some 2 := by kernel_rfl
theorem zs106 : ((Try.prog.info? 106).bind (·.zero)).map (·.cells.size) = some 2 := by kernel_rfl
theorem ag106 : isAggT Try.prog 106 = true := by kernel_rfl
theorem si107 : (Try.prog.info? 107).map (·.size) = some 1 := by kernel_rfl
theorem zs107 : ((Try.prog.info? 107).bind (·.zero)).map (·.cells.size) = some 1 := by kernel_rfl
theorem one107 : isOneT Try.prog 107 = true := by kernel_rfl
theorem si108 : (Try.prog.info? 108).map (·.size) = some 1 := by kernel_rfl
theorem zs108 : ((Try.prog.info? 108).bind (·.zero)).map (·.cells.size) = some 1 := by kernel_rfl
theorem one108 : isOneT Try.prog 108 = true := by kernel_rfl
theorem si109 : (Try.prog.info? 109).map (·.size) = some 1 := by kernel_rfl
theorem zs109 : ((Try.prog.info? 109).bind (·.zero)).map (·.cells.size) = some 1 := by kernel_rfl
theorem one109 : isOneT Try.prog 109 = true := by kernel_rfl
theorem si110 : (Try.prog.info? 110).map (·.size) = some 1 := by kernel_rfl
theorem zs110 : ((Try.prog.info? 110).bind (·.zero)).map (·.cells.size) = some 1 := by kernel_rfl
theorem one110 : isOneT Try.prog 110 = true := by kernel_rfl
theorem si111 : (Try.prog.info? 111).map (·.size) = some 1 := by kernel_rfl
theorem zs111 : ((Try.prog.info? 111).bind (·.zero)).map (·.cells.size) = some 1 := by kernel_rfl
theorem one111 : isOneT Try.prog 111 = true := by kernel_rfl
theorem si112 : (Try.prog.info? 112).map (·.size) = some 1 := by kernel_rfl
theorem zs112 : ((Try.prog.info? 112).bind (·.zero)).map (·.cells.size) = some 1 := by kernel_rfl
theorem one112 : isOneT Try.prog 112 = true := by kernel_rfl
theorem si113 : (Try.prog.info? 113).map (·.size) = some 1 := by kernel_rfl
theorem zs113 : ((Try.prog.info? 113).bind (·.zero)).map (·.cells.size) = some 1 := by kernel_rfl
theorem one113 : isOneT Try.prog 113 = true := by kernel_rfl
theorem si117 : (Try.prog.info? 117).map (·.size) = some 1 := by kernel_rfl
theorem zs117 : ((Try.prog.info? 117).bind (·.zero)).map (·.cells.size) = some 1 := by kernel_rfl
theorem one117 : isOneT Try.prog 117 = true := by kernel_rfl
theorem si118 : (Try.prog.info? 118).map (·.size) = some 1 := by kernel_rfl
theorem zs118 : ((Try.prog.info? 118).bind (·.zero)).map (·.cells.size) = some 1 := by kernel_rfl
theorem one118 : isOneT Try.prog 118 = true := by kernel_rfl
theorem si120 : (Try.prog.info? 120).map (·.size) = some 1 := by kernel_rfl
theorem zs120 : ((Try.prog.info? 120).bind (·.zero)).map (·.cells.size) = some 1 := by kernel_rfl
theorem one120 : isOneT Try.prog 120 = true := by kernel_rfl
theorem si121 : (Try.prog.info? 121).map (·.size) = some 1 := by kernel_rfl
theorem zs121 : ((Try.prog.info? 121).bind (·.zero)).map (·.cells.size) = some 1 := by kernel_rfl
theorem one121 : isOneT Try.prog 121 = true := by kernel_rfl
theorem si122 : (Try.prog.info? 122).map (·.size) = some 1 := by kernel_rfl
theorem zs122 : ((Try.prog.info? 122).bind (·.zero)).map (·.cells.size) = some 1 := by kernel_rfl
theorem one122 : isOneT Try.prog 122 = true := by kernel_rfl
theorem si124 : (Try.prog.info? 124).map (·.size) = some 1 := by kernel_rfl
theorem zs124 : ((Try.prog.info? 124).bind (·.zero)).map (·.cells.size) = some 1 := by kernel_rfl
theorem one124 : isOneT Try.prog 124 = true := by kernel_rfl
theorem si125 : (Try.prog.info? 125).map (·.size) = some 1 := by kernel_rfl
theorem zs125 : ((Try.prog.info? 125).bind (·.zero)).map (·.cells.size) = some 1 := by kernel_rfl
theorem one125 : isOneT Try.prog 125 = true := by kernel_rfl
theorem si126 : (Try.prog.info? 126).map (·.size) = some 1 := by kernel_rfl
theorem zs126 : ((Try.prog.info? 126).bind (·.zero)).map (·.cells.size) = some 1 := by kernel_rfl
theorem one126 : isOneT Try.prog 126 = true := by kernel_rfl
theorem si127 : (Try.prog.info? 127).map (·.size) = some 1 := by kernel_rfl
theorem zs127 : ((Try.prog.info? 127).bind (·.zero)).map (·.cells.size) = some 1 := by kernel_rfl
theorem one127 : isOneT Try.prog 127 = true := by kernel_rfl
theorem si128 : (Try.prog.info? 128).map (·.size) = some 1 := by kernel_rfl
theorem zs128 : ((Try.prog.info? 128).bind (·.zero)).map (·.cells.size) = some 1 := by kernel_rfl
theorem one128 : isOneT Try.prog 128 = true := by kernel_rfl
theorem si130 : (Try.prog.info? 130).map (·.size) = some 1 := by kernel_rfl
theorem zs130 : ((Try.prog.info? 130).bind (·.zero)).map (·.cells.size) = some 1 := by kernel_rfl
theorem one130 : isOneT Try.prog 130 = true := by kernel_rfl
theorem si133 : (Try.prog.info? 133).map (·.size) = some 1 := by kernel_rfl
theorem zs133 : ((Try.prog.info? 133).bind (·.zero)).map (·.cells.size) = some 1 := by kernel_rfl
theorem one133 : isOneT Try.prog 133 = true := by kernel_rfl
theorem si134 : (Try.prog.info? 134).map (·.size) = some 1 := by kernel_rfl
theorem zs134 : ((Try.prog.info? 134).bind (·.zero)).map (·.cells.size) = some 1 := by kernel_rfl
theorem one134 : isOneT Try.prog 134 = true := by kernel_rfl
theorem si137 : (Try.prog.info? 137).map (·.size) = some 0 := by kernel_rfl
theorem zs137 : ((Try.prog.info? 137).bind (·.zero)).map (·.cells.size) = some 0 := by kernel_rfl
theorem si142 : (Try.prog.info? 142).map (·.size) = some 1 := by kernel_rfl
theorem zs142 : ((Try.prog.info? 142).bind (·.zero)).map (·.cells.size) = some 1 := by kernel_rfl
theorem one142 : isOneT Try.prog 142 = true := by kernel_rfl
theorem eqd24 : EqDeep Try.prog 24 Nm 2 := EqDeep.nm Try.underlying24 Try.underlying5 (by kernel_rfl)
theorem eq24 : EqEnc Try.prog 24 Nm := eqd24.enc (by decide)
theorem eqd28 : EqDeep Try.prog 28 Vt 3 := fun d w x y => eqStruct Try.underlying28 Try.stoodInHeld28 (eqFields_cons (by simp) (part_one (by kernel_rfl) rfl) (part_one (by kernel_rfl) rfl) (EqDeep.int Try.underlying3 (d + 1) w x.kind y.kind) (eqFields_cons (by simp) (part_one (by kernel_rfl) rfl) (part_one (by kernel_rfl) rfl) (EqDeep.int Try.underlying3 (d + 1) w x.slot y.slot) (eqFields_cons (by simp) (part_one (by kernel_rfl) rfl) (part_one (by kernel_rfl) rfl) (EqDeep.int Try.underlying3 (d + 1) w x.round y.round) (eqFields_cons (by simp) (part_one (by kernel_rfl) rfl) (part_one (by kernel_rfl) rfl) (EqDeep.int Try.underlying3 (d + 1) w x.choice y.choice) (eqFields_cons (by simp) (part_one (by kernel_rfl) rfl) (part_one (by kernel_rfl) rfl) (EqDeep.int Try.underlying3 (d + 1) w x.signer y.signer) (eqFields_cons (by simp) (part_one (by kernel_rfl) rfl) (part_one (by kernel_rfl) rfl) (EqDeep.int Try.underlying22 (d + 1) w x.support y.support) (eqFields_cons (by simp) (part_agg (n := 8) (by kernel_rfl) (by kernel_rfl) rfl) (part_agg (n := 8) (by kernel_rfl) (by kernel_rfl) rfl) (eqd24 d w x.parent y.parent) (eqFields_cons (by simp) (part_agg (n := 8) (by kernel_rfl) (by kernel_rfl) rfl) (part_agg (n := 8) (by kernel_rfl) (by kernel_rfl) rfl) (eqd24 d w x.value y.value) eqFields_nil)))))))) (by rw [Bool.eq_iff_iff, decide_eq_true_eq, Vt.ext_iff']; simp)
theorem eq28 : EqEnc Try.prog 28 Vt := eqd28.enc (by decide)
theorem eqd49 : EqDeep Try.prog 49 Oc 3 := fun d w x y => eqStruct Try.underlying49 Try.stoodInHeld49 (eqFields_cons (by simp) (part_one (by kernel_rfl) rfl) (part_one (by kernel_rfl) rfl) (EqDeep.int Try.underlying3 (d + 1) w x.slot y.slot) (eqFields_cons (by simp) (part_one (by kernel_rfl) rfl) (part_one (by kernel_rfl) rfl) (EqDeep.int Try.underlying3 (d + 1) w x.round y.round) (eqFields_cons (by simp) (part_one (by kernel_rfl) rfl) (part_one (by kernel_rfl) rfl) (EqDeep.int Try.underlying3 (d + 1) w x.choice y.choice) (eqFields_cons (by simp) (part_agg (n := 8) (by kernel_rfl) (by kernel_rfl) rfl) (part_agg (n := 8) (by kernel_rfl) (by kernel_rfl) rfl) (eqd24 d w x.value y.value) eqFields_nil)))) (by rw [Bool.eq_iff_iff, decide_eq_true_eq, Oc.ext_iff']; simp)
theorem eq49 : EqEnc Try.prog 49 Oc := eqd49.enc (by decide)
theorem eqd82 : EqDeep Try.prog 82 Ch 3 := fun d w x y => eqStruct Try.underlying82 Try.stoodInHeld82 (eqFields_cons (by simp) (part_one (by kernel_rfl) rfl) (part_one (by kernel_rfl) rfl) (EqDeep.int Try.underlying3 (d + 1) w x.validator y.validator) (eqFields_cons (by simp) (part_agg (n := 8) (by kernel_rfl) (by kernel_rfl) rfl) (part_agg (n := 8) (by kernel_rfl) (by kernel_rfl) rfl) (eqd24 d w x.value y.value) eqFields_nil)) (by rw [Bool.eq_iff_iff, decide_eq_true_eq, Ch.ext_iff']; simp)
theorem eq82 : EqEnc Try.prog 82 Ch := eqd82.enc (by decide)
end Go.Proofs.Ytdknjfmjddlphaa
