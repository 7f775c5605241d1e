/- Facts on the program's types. -/
import Derived.Test.YtnoieleoklpciaaGreatDoorCx
set_option linter.unusedVariables false
set_option linter.unusedSimpArgs false
namespace Go.Proofs.YtnoieleoklpciaaGreatDoor
open Go.Run Go
set_option maxRecDepth 100000
namespace Ty
variable {m : Nat} {σ : St}
theorem ag0 : Go.Run.isAgg (C m) 0 = some false := by kernel_rfl
theorem sz0 : size (C m) 0 = some 1 := by kernel_rfl
theorem in0 : ((C m).P.info? 0).map (fun t => (t.size, t.bytes)) = some (1, 0) := by kernel_rfl
theorem ag1 : Go.Run.isAgg (C m) 1 = some false := by kernel_rfl
theorem sz1 : size (C m) 1 = some 1 := by kernel_rfl
theorem in1 : ((C m).P.info? 1).map (fun t => (t.size, t.bytes)) = some (1, 8) := by kernel_rfl
theorem un2 : und (C m) 2 = some (.int .i64) := by kernel_rfl
theorem ag2 : Go.Run.isAgg (C m) 2 = some false := by kernel_rfl
theorem sz2 : size (C m) 2 = some 1 := by kernel_rfl
theorem in2 : ((C m).P.info? 2).map (fun t => (t.size, t.bytes)) = some (1, 8) := by kernel_rfl
theorem un3 : und (C m) 3 = some (.int .i64) := by kernel_rfl
theorem ag3 : Go.Run.isAgg (C m) 3 = some false := by kernel_rfl
theorem sz3 : size (C m) 3 = some 1 := by kernel_rfl
theorem in3 : ((C m).P.info? 3).map (fun t => (t.size, t.bytes)) = some (1, 8) := by kernel_rfl
theorem un4 : und (C m) 4 = some .bool := by kernel_rfl
theorem ag4 : Go.Run.isAgg (C m) 4 = some false := by kernel_rfl
theorem sz4 : size (C m) 4 = some 1 := by kernel_rfl
theorem in4 : ((C m).P.info? 4).map (fun t => (t.size, t.bytes)) = some (1, 1) := by kernel_rfl
theorem un5 : und (C m) 5 = some (.int .u8) := by kernel_rfl
theorem ag5 : Go.Run.isAgg (C m) 5 = some false := by kernel_rfl
theorem sz5 : size (C m) 5 = some 1 := by kernel_rfl
theorem in5 : ((C m).P.info? 5).map (fun t => (t.size, t.bytes)) = some (1, 1) := by kernel_rfl
theorem un6 : und (C m) 6 = some (.int .u8) := by kernel_rfl
theorem ag6 : Go.Run.isAgg (C m) 6 = some false := by kernel_rfl
theorem sz6 : size (C m) 6 = some 1 := by kernel_rfl
theorem in6 : ((C m).P.info? 6).map (fun t => (t.size, t.bytes)) = some (1, 1) := by kernel_rfl
theorem ag7 : Go.Run.isAgg (C m) 7 = some true := by kernel_rfl
theorem sz7 : size (C m) 7 = some 4 := by kernel_rfl
theorem in7 : ((C m).P.info? 7).map (fun t => (t.size, t.bytes)) = some (4, 24) := by kernel_rfl
theorem fa7_0 {i o : Nat} : fadO (C m) 7 (P i o) 0 σ = .val (P i (o + 0)) := by kernel_rfl
theorem fa7_1 {i o : Nat} : fadO (C m) 7 (P i o) 1 σ = .val (P i (o + 1)) := by kernel_rfl
theorem fa7_2 {i o : Nat} : fadO (C m) 7 (P i o) 2 σ = .val (P i (o + 2)) := by kernel_rfl
theorem fa7_3 {i o : Nat} : fadO (C m) 7 (P i o) 3 σ = .val (P i (o + 3)) := by kernel_rfl
theorem ag8 : Go.Run.isAgg (C m) 8 = some true := by kernel_rfl
theorem sz8 : size (C m) 8 = some 4 := by kernel_rfl
theorem in8 : ((C m).P.info? 8).map (fun t => (t.size, t.bytes)) = some (4, 24) := by kernel_rfl
theorem fa8_0 {i o : Nat} : fadO (C m) 8 (P i o) 0 σ = .val (P i (o + 0)) := by kernel_rfl
theorem fa8_1 {i o : Nat} : fadO (C m) 8 (P i o) 1 σ = .val (P i (o + 1)) := by kernel_rfl
theorem fa8_2 {i o : Nat} : fadO (C m) 8 (P i o) 2 σ = .val (P i (o + 2)) := by kernel_rfl
theorem fa8_3 {i o : Nat} : fadO (C m) 8 (P i o) 3 σ = .val (P i (o + 3)) := by kernel_rfl
theorem un9 : und (C m) 9 = some .string := by kernel_rfl
theorem ag9 : Go.Run.isAgg (C m) 9 = some false := by kernel_rfl
theorem sz9 : size (C m) 9 = some 1 := by kernel_rfl
theorem in9 : ((C m).P.info? 9).map (fun t => (t.size, t.bytes)) = some (1, 16) := by kernel_rfl
theorem un10 : und (C m) 10 = some .string := by kernel_rfl
theorem ag10 : Go.Run.isAgg (C m) 10 = some false := by kernel_rfl
theorem sz10 : size (C m) 10 = some 1 := by kernel_rfl
theorem in10 : ((C m).P.info? 10).map (fun t => (t.size, t.bytes)) = some (1, 16) := by kernel_rfl
theorem un11 : und (C m) 11 = some .string := by kernel_rfl
theorem ag11 : Go.Run.isAgg (C m) 11 = some false := by kernel_rfl
theorem sz11 : size (C m) 11 = some 1 := by kernel_rfl
theorem in11 : ((C m).P.info? 11).map (fun t => (t.size, t.bytes)) = some (1, 16) := by kernel_rfl
theorem un12 : und (C m) 12 = some (.int .u64) := by kernel_rfl
theorem ag12 : Go.Run.isAgg (C m) 12 = some false := by kernel_rfl
theorem sz12 : size (C m) 12 = some 1 := by kernel_rfl
theorem in12 : ((C m).P.info? 12).map (fun t => (t.size, t.bytes)) = some (1, 8) := by kernel_rfl
theorem ag13 : Go.Run.isAgg (C m) 13 = some true := by kernel_rfl
theorem sz13 : size (C m) 13 = some 2 := by kernel_rfl
theorem in13 : ((C m).P.info? 13).map (fun t => (t.size, t.bytes)) = some (2, 24) := by kernel_rfl
theorem fa13_0 {i o : Nat} : fadO (C m) 13 (P i o) 0 σ = .val (P i (o + 0)) := by kernel_rfl
theorem fa13_1 {i o : Nat} : fadO (C m) 13 (P i o) 1 σ = .val (P i (o + 1)) := by kernel_rfl
theorem ag14 : Go.Run.isAgg (C m) 14 = some true := by kernel_rfl
theorem sz14 : size (C m) 14 = some 2 := by kernel_rfl
theorem in14 : ((C m).P.info? 14).map (fun t => (t.size, t.bytes)) = some (2, 24) := by kernel_rfl
theorem fa14_0 {i o : Nat} : fadO (C m) 14 (P i o) 0 σ = .val (P i (o + 0)) := by kernel_rfl
theorem fa14_1 {i o : Nat} : fadO (C m) 14 (P i o) 1 σ = .val (P i (o + 1)) := by kernel_rfl
theorem un15 : und (C m) 15 = some (.pointer 488) := by kernel_rfl
theorem ag15 : Go.Run.isAgg (C m) 15 = some false := by kernel_rfl
theorem sz15 : size (C m) 15 = some 1 := by kernel_rfl
theorem in15 : ((C m).P.info? 15).map (fun t => (t.size, t.bytes)) = some (1, 8) := by kernel_rfl
theorem un16 : und (C m) 16 = some (.pointer 491) := by kernel_rfl
theorem ag16 : Go.Run.isAgg (C m) 16 = some false := by kernel_rfl
theorem sz16 : size (C m) 16 = some 1 := by kernel_rfl
theorem in16 : ((C m).P.info? 16).map (fun t => (t.size, t.bytes)) = some (1, 8) := by kernel_rfl
theorem un17 : und (C m) 17 = some (.pointer 498) := by kernel_rfl
theorem ag17 : Go.Run.isAgg (C m) 17 = some false := by kernel_rfl
theorem sz17 : size (C m) 17 = some 1 := by kernel_rfl
theorem in17 : ((C m).P.info? 17).map (fun t => (t.size, t.bytes)) = some (1, 8) := by kernel_rfl
theorem ag18 : Go.Run.isAgg (C m) 18 = some true := by kernel_rfl
theorem sz18 : size (C m) 18 = some 1 := by kernel_rfl
theorem in18 : ((C m).P.info? 18).map (fun t => (t.size, t.bytes)) = some (1, 8) := by kernel_rfl
theorem fa18_0 {i o : Nat} : fadO (C m) 18 (P i o) 0 σ = .val (P i (o + 0)) := by kernel_rfl
theorem ag19 : Go.Run.isAgg (C m) 19 = some true := by kernel_rfl
theorem sz19 : size (C m) 19 = some 1 := by kernel_rfl
theorem in19 : ((C m).P.info? 19).map (fun t => (t.size, t.bytes)) = some (1, 8) := by kernel_rfl
theorem fa19_0 {i o : Nat} : fadO (C m) 19 (P i o) 0 σ = .val (P i (o + 0)) := by kernel_rfl
theorem ag20 : Go.Run.isAgg (C m) 20 = some false := by kernel_rfl
theorem sz20 : size (C m) 20 = some 1 := by kernel_rfl
theorem in20 : ((C m).P.info? 20).map (fun t => (t.size, t.bytes)) = some (1, 16) := by kernel_rfl
theorem un21 : und (C m) 21 = some (.int .i32) := by kernel_rfl
theorem ag21 : Go.Run.isAgg (C m) 21 = some false := by kernel_rfl
theorem sz21 : size (C m) 21 = some 1 := by kernel_rfl
theorem in21 : ((C m).P.info? 21).map (fun t => (t.size, t.bytes)) = some (1, 4) := by kernel_rfl
theorem ag22 : Go.Run.isAgg (C m) 22 = some true := by kernel_rfl
theorem sz22 : size (C m) 22 = some 4 := by kernel_rfl
theorem in22 : ((C m).P.info? 22).map (fun t => (t.size, t.bytes)) = some (4, 40) := by kernel_rfl
theorem fa22_0 {i o : Nat} : fadO (C m) 22 (P i o) 0 σ = .val (P i (o + 0)) := by kernel_rfl
theorem fa22_1 {i o : Nat} : fadO (C m) 22 (P i o) 1 σ = .val (P i (o + 1)) := by kernel_rfl
theorem fa22_2 {i o : Nat} : fadO (C m) 22 (P i o) 2 σ = .val (P i (o + 2)) := by kernel_rfl
theorem fa22_3 {i o : Nat} : fadO (C m) 22 (P i o) 3 σ = .val (P i (o + 3)) := by kernel_rfl
theorem ag23 : Go.Run.isAgg (C m) 23 = some true := by kernel_rfl
theorem sz23 : size (C m) 23 = some 4 := by kernel_rfl
theorem in23 : ((C m).P.info? 23).map (fun t => (t.size, t.bytes)) = some (4, 40) := by kernel_rfl
theorem fa23_0 {i o : Nat} : fadO (C m) 23 (P i o) 0 σ = .val (P i (o + 0)) := by kernel_rfl
theorem fa23_1 {i o : Nat} : fadO (C m) 23 (P i o) 1 σ = .val (P i (o + 1)) := by kernel_rfl
theorem fa23_2 {i o : Nat} : fadO (C m) 23 (P i o) 2 σ = .val (P i (o + 2)) := by kernel_rfl
theorem fa23_3 {i o : Nat} : fadO (C m) 23 (P i o) 3 σ = .val (P i (o + 3)) := by kernel_rfl
theorem ag24 : Go.Run.isAgg (C m) 24 = some false := by kernel_rfl
theorem sz24 : size (C m) 24 = some 1 := by kernel_rfl
theorem in24 : ((C m).P.info? 24).map (fun t => (t.size, t.bytes)) = some (1, 8) := by kernel_rfl
theorem un25 : und (C m) 25 = some (.pointer 53) := by kernel_rfl
theorem ag25 : Go.Run.isAgg (C m) 25 = some false := by kernel_rfl
theorem sz25 : size (C m) 25 = some 1 := by kernel_rfl
theorem in25 : ((C m).P.info? 25).map (fun t => (t.size, t.bytes)) = some (1, 8) := by kernel_rfl
theorem ag26 : Go.Run.isAgg (C m) 26 = some false := by kernel_rfl
theorem sz26 : size (C m) 26 = some 1 := by kernel_rfl
theorem in26 : ((C m).P.info? 26).map (fun t => (t.size, t.bytes)) = some (1, 8) := by kernel_rfl
theorem un27 : und (C m) 27 = some (.int .u64) := by kernel_rfl
theorem ag27 : Go.Run.isAgg (C m) 27 = some false := by kernel_rfl
theorem sz27 : size (C m) 27 = some 1 := by kernel_rfl
theorem in27 : ((C m).P.info? 27).map (fun t => (t.size, t.bytes)) = some (1, 8) := by kernel_rfl
theorem ag28 : Go.Run.isAgg (C m) 28 = some true := by kernel_rfl
theorem sz28 : size (C m) 28 = some 18 := by kernel_rfl
theorem in28 : ((C m).P.info? 28).map (fun t => (t.size, t.bytes)) = some (18, 144) := by kernel_rfl
theorem fa28_0 {i o : Nat} : fadO (C m) 28 (P i o) 0 σ = .val (P i (o + 0)) := by kernel_rfl
theorem fa28_1 {i o : Nat} : fadO (C m) 28 (P i o) 1 σ = .val (P i (o + 1)) := by kernel_rfl
theorem fa28_2 {i o : Nat} : fadO (C m) 28 (P i o) 2 σ = .val (P i (o + 2)) := by kernel_rfl
theorem fa28_3 {i o : Nat} : fadO (C m) 28 (P i o) 3 σ = .val (P i (o + 3)) := by kernel_rfl
theorem fa28_4 {i o : Nat} : fadO (C m) 28 (P i o) 4 σ = .val (P i (o + 4)) := by kernel_rfl
theorem fa28_5 {i o : Nat} : fadO (C m) 28 (P i o) 5 σ = .val (P i (o + 5)) := by kernel_rfl
theorem fa28_6 {i o : Nat} : fadO (C m) 28 (P i o) 6 σ = .val (P i (o + 6)) := by kernel_rfl
theorem fa28_7 {i o : Nat} : fadO (C m) 28 (P i o) 7 σ = .val (P i (o + 7)) := by kernel_rfl
theorem fa28_8 {i o : Nat} : fadO (C m) 28 (P i o) 8 σ = .val (P i (o + 8)) := by kernel_rfl
theorem fa28_9 {i o : Nat} : fadO (C m) 28 (P i o) 9 σ = .val (P i (o + 9)) := by kernel_rfl
theorem fa28_10 {i o : Nat} : fadO (C m) 28 (P i o) 10 σ = .val (P i (o + 10)) := by kernel_rfl
theorem fa28_11 {i o : Nat} : fadO (C m) 28 (P i o) 11 σ = .val (P i (o + 11)) := by kernel_rfl
theorem fa28_12 {i o : Nat} : fadO (C m) 28 (P i o) 12 σ = .val (P i (o + 12)) := by kernel_rfl
theorem fa28_13 {i o : Nat} : fadO (C m) 28 (P i o) 13 σ = .val (P i (o + 13)) := by kernel_rfl
theorem fa28_14 {i o : Nat} : fadO (C m) 28 (P i o) 14 σ = .val (P i (o + 14)) := by kernel_rfl
theorem fa28_15 {i o : Nat} : fadO (C m) 28 (P i o) 15 σ = .val (P i (o + 15)) := by kernel_rfl
theorem fa28_16 {i o : Nat} : fadO (C m) 28 (P i o) 16 σ = .val (P i (o + 16)) := by kernel_rfl
theorem fa28_17 {i o : Nat} : fadO (C m) 28 (P i o) 17 σ = .val (P i (o + 17)) := by kernel_rfl
theorem ag29 : Go.Run.isAgg (C m) 29 = some true := by kernel_rfl
theorem sz29 : size (C m) 29 = some 18 := by kernel_rfl
theorem in29 : ((C m).P.info? 29).map (fun t => (t.size, t.bytes)) = some (18, 144) := by kernel_rfl
theorem fa29_0 {i o : Nat} : fadO (C m) 29 (P i o) 0 σ = .val (P i (o + 0)) := by kernel_rfl
theorem fa29_1 {i o : Nat} : fadO (C m) 29 (P i o) 1 σ = .val (P i (o + 1)) := by kernel_rfl
theorem fa29_2 {i o : Nat} : fadO (C m) 29 (P i o) 2 σ = .val (P i (o + 2)) := by kernel_rfl
theorem fa29_3 {i o : Nat} : fadO (C m) 29 (P i o) 3 σ = .val (P i (o + 3)) := by kernel_rfl
theorem fa29_4 {i o : Nat} : fadO (C m) 29 (P i o) 4 σ = .val (P i (o + 4)) := by kernel_rfl
theorem fa29_5 {i o : Nat} : fadO (C m) 29 (P i o) 5 σ = .val (P i (o + 5)) := by kernel_rfl
theorem fa29_6 {i o : Nat} : fadO (C m) 29 (P i o) 6 σ = .val (P i (o + 6)) := by kernel_rfl
theorem fa29_7 {i o : Nat} : fadO (C m) 29 (P i o) 7 σ = .val (P i (o + 7)) := by kernel_rfl
theorem fa29_8 {i o : Nat} : fadO (C m) 29 (P i o) 8 σ = .val (P i (o + 8)) := by kernel_rfl
theorem fa29_9 {i o : Nat} : fadO (C m) 29 (P i o) 9 σ = .val (P i (o + 9)) := by kernel_rfl
theorem fa29_10 {i o : Nat} : fadO (C m) 29 (P i o) 10 σ = .val (P i (o + 10)) := by kernel_rfl
theorem fa29_11 {i o : Nat} : fadO (C m) 29 (P i o) 11 σ = .val (P i (o + 11)) := by kernel_rfl
theorem fa29_12 {i o : Nat} : fadO (C m) 29 (P i o) 12 σ = .val (P i (o + 12)) := by kernel_rfl
theorem fa29_13 {i o : Nat} : fadO (C m) 29 (P i o) 13 σ = .val (P i (o + 13)) := by kernel_rfl
theorem fa29_14 {i o : Nat} : fadO (C m) 29 (P i o) 14 σ = .val (P i (o + 14)) := by kernel_rfl
theorem fa29_15 {i o : Nat} : fadO (C m) 29 (P i o) 15 σ = .val (P i (o + 15)) := by kernel_rfl
theorem fa29_16 {i o : Nat} : fadO (C m) 29 (P i o) 16 σ = .val (P i (o + 16)) := by kernel_rfl
theorem fa29_17 {i o : Nat} : fadO (C m) 29 (P i o) 17 σ = .val (P i (o + 17)) := by kernel_rfl
theorem ag30 : Go.Run.isAgg (C m) 30 = some false := by kernel_rfl
theorem sz30 : size (C m) 30 = some 1 := by kernel_rfl
theorem in30 : ((C m).P.info? 30).map (fun t => (t.size, t.bytes)) = some (1, 8) := by kernel_rfl
theorem un31 : und (C m) 31 = some (.slice 78) := by kernel_rfl
theorem ag31 : Go.Run.isAgg (C m) 31 = some false := by kernel_rfl
theorem sz31 : size (C m) 31 = some 1 := by kernel_rfl
theorem in31 : ((C m).P.info? 31).map (fun t => (t.size, t.bytes)) = some (1, 24) := by kernel_rfl
theorem un32 : und (C m) 32 = some (.slice 500) := by kernel_rfl
theorem ag32 : Go.Run.isAgg (C m) 32 = some false := by kernel_rfl
theorem sz32 : size (C m) 32 = some 1 := by kernel_rfl
theorem in32 : ((C m).P.info? 32).map (fun t => (t.size, t.bytes)) = some (1, 24) := by kernel_rfl
theorem un33 : und (C m) 33 = some (.slice 502) := by kernel_rfl
theorem ag33 : Go.Run.isAgg (C m) 33 = some false := by kernel_rfl
theorem sz33 : size (C m) 33 = some 1 := by kernel_rfl
theorem in33 : ((C m).P.info? 33).map (fun t => (t.size, t.bytes)) = some (1, 24) := by kernel_rfl
theorem un34 : und (C m) 34 = some (.slice 147) := by kernel_rfl
theorem ag34 : Go.Run.isAgg (C m) 34 = some false := by kernel_rfl
theorem sz34 : size (C m) 34 = some 1 := by kernel_rfl
theorem in34 : ((C m).P.info? 34).map (fun t => (t.size, t.bytes)) = some (1, 24) := by kernel_rfl
theorem ag35 : Go.Run.isAgg (C m) 35 = some true := by kernel_rfl
theorem sz35 : size (C m) 35 = some 4 := by kernel_rfl
theorem in35 : ((C m).P.info? 35).map (fun t => (t.size, t.bytes)) = some (4, 80) := by kernel_rfl
theorem fa35_0 {i o : Nat} : fadO (C m) 35 (P i o) 0 σ = .val (P i (o + 0)) := by kernel_rfl
theorem fa35_1 {i o : Nat} : fadO (C m) 35 (P i o) 1 σ = .val (P i (o + 1)) := by kernel_rfl
theorem fa35_2 {i o : Nat} : fadO (C m) 35 (P i o) 2 σ = .val (P i (o + 2)) := by kernel_rfl
theorem fa35_3 {i o : Nat} : fadO (C m) 35 (P i o) 3 σ = .val (P i (o + 3)) := by kernel_rfl
theorem ag36 : Go.Run.isAgg (C m) 36 = some true := by kernel_rfl
theorem sz36 : size (C m) 36 = some 4 := by kernel_rfl
theorem in36 : ((C m).P.info? 36).map (fun t => (t.size, t.bytes)) = some (4, 80) := by kernel_rfl
theorem fa36_0 {i o : Nat} : fadO (C m) 36 (P i o) 0 σ = .val (P i (o + 0)) := by kernel_rfl
theorem fa36_1 {i o : Nat} : fadO (C m) 36 (P i o) 1 σ = .val (P i (o + 1)) := by kernel_rfl
theorem fa36_2 {i o : Nat} : fadO (C m) 36 (P i o) 2 σ = .val (P i (o + 2)) := by kernel_rfl
theorem fa36_3 {i o : Nat} : fadO (C m) 36 (P i o) 3 σ = .val (P i (o + 3)) := by kernel_rfl
theorem un37 : und (C m) 37 = some (.slice 9) := by kernel_rfl
theorem ag37 : Go.Run.isAgg (C m) 37 = some false := by kernel_rfl
theorem sz37 : size (C m) 37 = some 1 := by kernel_rfl
theorem in37 : ((C m).P.info? 37).map (fun t => (t.size, t.bytes)) = some (1, 24) := by kernel_rfl
theorem ag38 : Go.Run.isAgg (C m) 38 = some true := by kernel_rfl
theorem sz38 : size (C m) 38 = some 6 := by kernel_rfl
theorem in38 : ((C m).P.info? 38).map (fun t => (t.size, t.bytes)) = some (6, 128) := by kernel_rfl
theorem fa38_0 {i o : Nat} : fadO (C m) 38 (P i o) 0 σ = .val (P i (o + 0)) := by kernel_rfl
theorem fa38_1 {i o : Nat} : fadO (C m) 38 (P i o) 1 σ = .val (P i (o + 1)) := by kernel_rfl
theorem fa38_2 {i o : Nat} : fadO (C m) 38 (P i o) 2 σ = .val (P i (o + 5)) := by kernel_rfl
theorem ag39 : Go.Run.isAgg (C m) 39 = some true := by kernel_rfl
theorem sz39 : size (C m) 39 = some 6 := by kernel_rfl
theorem in39 : ((C m).P.info? 39).map (fun t => (t.size, t.bytes)) = some (6, 128) := by kernel_rfl
theorem fa39_0 {i o : Nat} : fadO (C m) 39 (P i o) 0 σ = .val (P i (o + 0)) := by kernel_rfl
theorem fa39_1 {i o : Nat} : fadO (C m) 39 (P i o) 1 σ = .val (P i (o + 1)) := by kernel_rfl
theorem fa39_2 {i o : Nat} : fadO (C m) 39 (P i o) 2 σ = .val (P i (o + 5)) := by kernel_rfl
theorem ag40 : Go.Run.isAgg (C m) 40 = some false := by kernel_rfl
theorem sz40 : size (C m) 40 = some 1 := by kernel_rfl
theorem in40 : ((C m).P.info? 40).map (fun t => (t.size, t.bytes)) = some (1, 0) := by kernel_rfl
theorem ag41 : Go.Run.isAgg (C m) 41 = some false := by kernel_rfl
theorem sz41 : size (C m) 41 = some 1 := by kernel_rfl
theorem in41 : ((C m).P.info? 41).map (fun t => (t.size, t.bytes)) = some (1, 8) := by kernel_rfl
theorem un42 : und (C m) 42 = some (.int .i64) := by kernel_rfl
theorem ag42 : Go.Run.isAgg (C m) 42 = some false := by kernel_rfl
theorem sz42 : size (C m) 42 = some 1 := by kernel_rfl
theorem in42 : ((C m).P.info? 42).map (fun t => (t.size, t.bytes)) = some (1, 8) := by kernel_rfl
theorem ag43 : Go.Run.isAgg (C m) 43 = some false := by kernel_rfl
theorem sz43 : size (C m) 43 = some 1 := by kernel_rfl
theorem in43 : ((C m).P.info? 43).map (fun t => (t.size, t.bytes)) = some (1, 8) := by kernel_rfl
theorem ag44 : Go.Run.isAgg (C m) 44 = some false := by kernel_rfl
theorem sz44 : size (C m) 44 = some 1 := by kernel_rfl
theorem in44 : ((C m).P.info? 44).map (fun t => (t.size, t.bytes)) = some (1, 8) := by kernel_rfl
theorem ag45 : Go.Run.isAgg (C m) 45 = some false := by kernel_rfl
theorem sz45 : size (C m) 45 = some 1 := by kernel_rfl
theorem in45 : ((C m).P.info? 45).map (fun t => (t.size, t.bytes)) = some (1, 8) := by kernel_rfl
theorem un46 : und (C m) 46 = some (.pointer 113) := by kernel_rfl
theorem ag46 : Go.Run.isAgg (C m) 46 = some false := by kernel_rfl
theorem sz46 : size (C m) 46 = some 1 := by kernel_rfl
theorem in46 : ((C m).P.info? 46).map (fun t => (t.size, t.bytes)) = some (1, 8) := by kernel_rfl
theorem ag47 : Go.Run.isAgg (C m) 47 = some false := by kernel_rfl
theorem sz47 : size (C m) 47 = some 1 := by kernel_rfl
theorem in47 : ((C m).P.info? 47).map (fun t => (t.size, t.bytes)) = some (1, 8) := by kernel_rfl
theorem ag48 : Go.Run.isAgg (C m) 48 = some false := by kernel_rfl
theorem sz48 : size (C m) 48 = some 1 := by kernel_rfl
theorem in48 : ((C m).P.info? 48).map (fun t => (t.size, t.bytes)) = some (1, 8) := by kernel_rfl
theorem ag49 : Go.Run.isAgg (C m) 49 = some false := by kernel_rfl
theorem sz49 : size (C m) 49 = some 1 := by kernel_rfl
theorem in49 : ((C m).P.info? 49).map (fun t => (t.size, t.bytes)) = some (1, 8) := by kernel_rfl
theorem ag50 : Go.Run.isAgg (C m) 50 = some false := by kernel_rfl
theorem sz50 : size (C m) 50 = some 1 := by kernel_rfl
theorem in50 : ((C m).P.info? 50).map (fun t => (t.size, t.bytes)) = some (1, 8) := by kernel_rfl
theorem un51 : und (C m) 51 = some (.slice 54) := by kernel_rfl
theorem ag51 : Go.Run.isAgg (C m) 51 = some false := by kernel_rfl
theorem sz51 : size (C m) 51 = some 1 := by kernel_rfl
theorem in51 : ((C m).P.info? 51).map (fun t => (t.size, t.bytes)) = some (1, 24) := by kernel_rfl
theorem ag52 : Go.Run.isAgg (C m) 52 = some true := by kernel_rfl
theorem sz52 : size (C m) 52 = some 3 := by kernel_rfl
theorem in52 : ((C m).P.info? 52).map (fun t => (t.size, t.bytes)) = some (3, 56) := by kernel_rfl
theorem fa52_0 {i o : Nat} : fadO (C m) 52 (P i o) 0 σ = .val (P i (o + 0)) := by kernel_rfl
theorem fa52_1 {i o : Nat} : fadO (C m) 52 (P i o) 1 σ = .val (P i (o + 1)) := by kernel_rfl
theorem fa52_2 {i o : Nat} : fadO (C m) 52 (P i o) 2 σ = .val (P i (o + 2)) := by kernel_rfl
theorem ag53 : Go.Run.isAgg (C m) 53 = some true := by kernel_rfl
theorem sz53 : size (C m) 53 = some 3 := by kernel_rfl
theorem in53 : ((C m).P.info? 53).map (fun t => (t.size, t.bytes)) = some (3, 56) := by kernel_rfl
theorem fa53_0 {i o : Nat} : fadO (C m) 53 (P i o) 0 σ = .val (P i (o + 0)) := by kernel_rfl
theorem fa53_1 {i o : Nat} : fadO (C m) 53 (P i o) 1 σ = .val (P i (o + 1)) := by kernel_rfl
theorem fa53_2 {i o : Nat} : fadO (C m) 53 (P i o) 2 σ = .val (P i (o + 2)) := by kernel_rfl
theorem un54 : und (C m) 54 = some (.pointer 121) := by kernel_rfl
theorem ag54 : Go.Run.isAgg (C m) 54 = some false := by kernel_rfl
theorem sz54 : size (C m) 54 = some 1 := by kernel_rfl
theorem in54 : ((C m).P.info? 54).map (fun t => (t.size, t.bytes)) = some (1, 8) := by kernel_rfl
theorem ag55 : Go.Run.isAgg (C m) 55 = some false := by kernel_rfl
theorem sz55 : size (C m) 55 = some 1 := by kernel_rfl
theorem in55 : ((C m).P.info? 55).map (fun t => (t.size, t.bytes)) = some (1, 8) := by kernel_rfl
theorem un56 : und (C m) 56 = some (.slice 3) := by kernel_rfl
theorem ag56 : Go.Run.isAgg (C m) 56 = some false := by kernel_rfl
theorem sz56 : size (C m) 56 = some 1 := by kernel_rfl
theorem in56 : ((C m).P.info? 56).map (fun t => (t.size, t.bytes)) = some (1, 24) := by kernel_rfl
theorem un57 : und (C m) 57 = some (.slice 136) := by kernel_rfl
theorem ag57 : Go.Run.isAgg (C m) 57 = some false := by kernel_rfl
theorem sz57 : size (C m) 57 = some 1 := by kernel_rfl
theorem in57 : ((C m).P.info? 57).map (fun t => (t.size, t.bytes)) = some (1, 24) := by kernel_rfl
theorem un58 : und (C m) 58 = some (.slice 56) := by kernel_rfl
theorem ag58 : Go.Run.isAgg (C m) 58 = some false := by kernel_rfl
theorem sz58 : size (C m) 58 = some 1 := by kernel_rfl
theorem in58 : ((C m).P.info? 58).map (fun t => (t.size, t.bytes)) = some (1, 24) := by kernel_rfl
theorem ag59 : Go.Run.isAgg (C m) 59 = some true := by kernel_rfl
theorem sz59 : size (C m) 59 = some 3 := by kernel_rfl
theorem in59 : ((C m).P.info? 59).map (fun t => (t.size, t.bytes)) = some (3, 40) := by kernel_rfl
theorem fa59_0 {i o : Nat} : fadO (C m) 59 (P i o) 0 σ = .val (P i (o + 0)) := by kernel_rfl
theorem fa59_1 {i o : Nat} : fadO (C m) 59 (P i o) 1 σ = .val (P i (o + 1)) := by kernel_rfl
theorem fa59_2 {i o : Nat} : fadO (C m) 59 (P i o) 2 σ = .val (P i (o + 2)) := by kernel_rfl
theorem ag60 : Go.Run.isAgg (C m) 60 = some true := by kernel_rfl
theorem sz60 : size (C m) 60 = some 3 := by kernel_rfl
theorem in60 : ((C m).P.info? 60).map (fun t => (t.size, t.bytes)) = some (3, 40) := by kernel_rfl
theorem fa60_0 {i o : Nat} : fadO (C m) 60 (P i o) 0 σ = .val (P i (o + 0)) := by kernel_rfl
theorem fa60_1 {i o : Nat} : fadO (C m) 60 (P i o) 1 σ = .val (P i (o + 1)) := by kernel_rfl
theorem fa60_2 {i o : Nat} : fadO (C m) 60 (P i o) 2 σ = .val (P i (o + 2)) := by kernel_rfl
theorem ag61 : Go.Run.isAgg (C m) 61 = some true := by kernel_rfl
theorem sz61 : size (C m) 61 = some 7 := by kernel_rfl
theorem in61 : ((C m).P.info? 61).map (fun t => (t.size, t.bytes)) = some (7, 88) := by kernel_rfl
theorem fa61_0 {i o : Nat} : fadO (C m) 61 (P i o) 0 σ = .val (P i (o + 0)) := by kernel_rfl
theorem fa61_1 {i o : Nat} : fadO (C m) 61 (P i o) 1 σ = .val (P i (o + 1)) := by kernel_rfl
theorem fa61_2 {i o : Nat} : fadO (C m) 61 (P i o) 2 σ = .val (P i (o + 2)) := by kernel_rfl
theorem fa61_3 {i o : Nat} : fadO (C m) 61 (P i o) 3 σ = .val (P i (o + 3)) := by kernel_rfl
theorem fa61_4 {i o : Nat} : fadO (C m) 61 (P i o) 4 σ = .val (P i (o + 4)) := by kernel_rfl
theorem ag62 : Go.Run.isAgg (C m) 62 = some true := by kernel_rfl
theorem sz62 : size (C m) 62 = some 7 := by kernel_rfl
theorem in62 : ((C m).P.info? 62).map (fun t => (t.size, t.bytes)) = some (7, 88) := by kernel_rfl
theorem fa62_0 {i o : Nat} : fadO (C m) 62 (P i o) 0 σ = .val (P i (o + 0)) := by kernel_rfl
theorem fa62_1 {i o : Nat} : fadO (C m) 62 (P i o) 1 σ = .val (P i (o + 1)) := by kernel_rfl
theorem fa62_2 {i o : Nat} : fadO (C m) 62 (P i o) 2 σ = .val (P i (o + 2)) := by kernel_rfl
theorem fa62_3 {i o : Nat} : fadO (C m) 62 (P i o) 3 σ = .val (P i (o + 3)) := by kernel_rfl
theorem fa62_4 {i o : Nat} : fadO (C m) 62 (P i o) 4 σ = .val (P i (o + 4)) := by kernel_rfl
theorem un63 : und (C m) 63 = some (.slice 4) := by kernel_rfl
theorem ag63 : Go.Run.isAgg (C m) 63 = some false := by kernel_rfl
theorem sz63 : size (C m) 63 = some 1 := by kernel_rfl
theorem in63 : ((C m).P.info? 63).map (fun t => (t.size, t.bytes)) = some (1, 24) := by kernel_rfl
theorem ag64 : Go.Run.isAgg (C m) 64 = some true := by kernel_rfl
theorem sz64 : size (C m) 64 = some 3 := by kernel_rfl
theorem in64 : ((C m).P.info? 64).map (fun t => (t.size, t.bytes)) = some (3, 40) := by kernel_rfl
theorem fa64_0 {i o : Nat} : fadO (C m) 64 (P i o) 0 σ = .val (P i (o + 0)) := by kernel_rfl
theorem fa64_1 {i o : Nat} : fadO (C m) 64 (P i o) 1 σ = .val (P i (o + 1)) := by kernel_rfl
theorem fa64_2 {i o : Nat} : fadO (C m) 64 (P i o) 2 σ = .val (P i (o + 2)) := by kernel_rfl
theorem ag65 : Go.Run.isAgg (C m) 65 = some true := by kernel_rfl
theorem sz65 : size (C m) 65 = some 3 := by kernel_rfl
theorem in65 : ((C m).P.info? 65).map (fun t => (t.size, t.bytes)) = some (3, 40) := by kernel_rfl
theorem fa65_0 {i o : Nat} : fadO (C m) 65 (P i o) 0 σ = .val (P i (o + 0)) := by kernel_rfl
theorem fa65_1 {i o : Nat} : fadO (C m) 65 (P i o) 1 σ = .val (P i (o + 1)) := by kernel_rfl
theorem fa65_2 {i o : Nat} : fadO (C m) 65 (P i o) 2 σ = .val (P i (o + 2)) := by kernel_rfl
theorem un66 : und (C m) 66 = some (.slice 141) := by kernel_rfl
theorem ag66 : Go.Run.isAgg (C m) 66 = some false := by kernel_rfl
theorem sz66 : size (C m) 66 = some 1 := by kernel_rfl
theorem in66 : ((C m).P.info? 66).map (fun t => (t.size, t.bytes)) = some (1, 24) := by kernel_rfl
theorem ag67 : Go.Run.isAgg (C m) 67 = some true := by kernel_rfl
theorem sz67 : size (C m) 67 = some 5 := by kernel_rfl
theorem in67 : ((C m).P.info? 67).map (fun t => (t.size, t.bytes)) = some (5, 72) := by kernel_rfl
theorem fa67_0 {i o : Nat} : fadO (C m) 67 (P i o) 0 σ = .val (P i (o + 0)) := by kernel_rfl
theorem fa67_1 {i o : Nat} : fadO (C m) 67 (P i o) 1 σ = .val (P i (o + 1)) := by kernel_rfl
theorem fa67_2 {i o : Nat} : fadO (C m) 67 (P i o) 2 σ = .val (P i (o + 4)) := by kernel_rfl
theorem ag68 : Go.Run.isAgg (C m) 68 = some true := by kernel_rfl
theorem sz68 : size (C m) 68 = some 5 := by kernel_rfl
theorem in68 : ((C m).P.info? 68).map (fun t => (t.size, t.bytes)) = some (5, 72) := by kernel_rfl
theorem fa68_0 {i o : Nat} : fadO (C m) 68 (P i o) 0 σ = .val (P i (o + 0)) := by kernel_rfl
theorem fa68_1 {i o : Nat} : fadO (C m) 68 (P i o) 1 σ = .val (P i (o + 1)) := by kernel_rfl
theorem fa68_2 {i o : Nat} : fadO (C m) 68 (P i o) 2 σ = .val (P i (o + 4)) := by kernel_rfl
theorem un69 : und (C m) 69 = some (.slice 206) := by kernel_rfl
theorem ag69 : Go.Run.isAgg (C m) 69 = some false := by kernel_rfl
theorem sz69 : size (C m) 69 = some 1 := by kernel_rfl
theorem in69 : ((C m).P.info? 69).map (fun t => (t.size, t.bytes)) = some (1, 24) := by kernel_rfl
theorem ag70 : Go.Run.isAgg (C m) 70 = some true := by kernel_rfl
theorem sz70 : size (C m) 70 = some 3 := by kernel_rfl
theorem in70 : ((C m).P.info? 70).map (fun t => (t.size, t.bytes)) = some (3, 40) := by kernel_rfl
theorem fa70_0 {i o : Nat} : fadO (C m) 70 (P i o) 0 σ = .val (P i (o + 0)) := by kernel_rfl
theorem fa70_1 {i o : Nat} : fadO (C m) 70 (P i o) 1 σ = .val (P i (o + 1)) := by kernel_rfl
theorem fa70_2 {i o : Nat} : fadO (C m) 70 (P i o) 2 σ = .val (P i (o + 2)) := by kernel_rfl
theorem ag71 : Go.Run.isAgg (C m) 71 = some true := by kernel_rfl
theorem sz71 : size (C m) 71 = some 3 := by kernel_rfl
theorem in71 : ((C m).P.info? 71).map (fun t => (t.size, t.bytes)) = some (3, 40) := by kernel_rfl
theorem fa71_0 {i o : Nat} : fadO (C m) 71 (P i o) 0 σ = .val (P i (o + 0)) := by kernel_rfl
theorem fa71_1 {i o : Nat} : fadO (C m) 71 (P i o) 1 σ = .val (P i (o + 1)) := by kernel_rfl
theorem fa71_2 {i o : Nat} : fadO (C m) 71 (P i o) 2 σ = .val (P i (o + 2)) := by kernel_rfl
theorem un72 : und (C m) 72 = some (.slice 244) := by kernel_rfl
theorem ag72 : Go.Run.isAgg (C m) 72 = some false := by kernel_rfl
theorem sz72 : size (C m) 72 = some 1 := by kernel_rfl
theorem in72 : ((C m).P.info? 72).map (fun t => (t.size, t.bytes)) = some (1, 24) := by kernel_rfl
theorem ag73 : Go.Run.isAgg (C m) 73 = some true := by kernel_rfl
theorem sz73 : size (C m) 73 = some 2 := by kernel_rfl
theorem in73 : ((C m).P.info? 73).map (fun t => (t.size, t.bytes)) = some (2, 32) := by kernel_rfl
theorem fa73_0 {i o : Nat} : fadO (C m) 73 (P i o) 0 σ = .val (P i (o + 0)) := by kernel_rfl
theorem fa73_1 {i o : Nat} : fadO (C m) 73 (P i o) 1 σ = .val (P i (o + 1)) := by kernel_rfl
theorem ag74 : Go.Run.isAgg (C m) 74 = some true := by kernel_rfl
theorem sz74 : size (C m) 74 = some 2 := by kernel_rfl
theorem in74 : ((C m).P.info? 74).map (fun t => (t.size, t.bytes)) = some (2, 32) := by kernel_rfl
theorem fa74_0 {i o : Nat} : fadO (C m) 74 (P i o) 0 σ = .val (P i (o + 0)) := by kernel_rfl
theorem fa74_1 {i o : Nat} : fadO (C m) 74 (P i o) 1 σ = .val (P i (o + 1)) := by kernel_rfl
theorem ag75 : Go.Run.isAgg (C m) 75 = some true := by kernel_rfl
theorem sz75 : size (C m) 75 = some 38 := by kernel_rfl
theorem in75 : ((C m).P.info? 75).map (fun t => (t.size, t.bytes)) = some (38, 416) := by kernel_rfl
theorem fa75_0 {i o : Nat} : fadO (C m) 75 (P i o) 0 σ = .val (P i (o + 0)) := by kernel_rfl
theorem fa75_1 {i o : Nat} : fadO (C m) 75 (P i o) 1 σ = .val (P i (o + 18)) := by kernel_rfl
theorem fa75_2 {i o : Nat} : fadO (C m) 75 (P i o) 2 σ = .val (P i (o + 19)) := by kernel_rfl
theorem fa75_3 {i o : Nat} : fadO (C m) 75 (P i o) 3 σ = .val (P i (o + 20)) := by kernel_rfl
theorem fa75_4 {i o : Nat} : fadO (C m) 75 (P i o) 4 σ = .val (P i (o + 21)) := by kernel_rfl
theorem fa75_5 {i o : Nat} : fadO (C m) 75 (P i o) 5 σ = .val (P i (o + 28)) := by kernel_rfl
theorem fa75_6 {i o : Nat} : fadO (C m) 75 (P i o) 6 σ = .val (P i (o + 33)) := by kernel_rfl
theorem fa75_7 {i o : Nat} : fadO (C m) 75 (P i o) 7 σ = .val (P i (o + 36)) := by kernel_rfl
theorem ag76 : Go.Run.isAgg (C m) 76 = some true := by kernel_rfl
theorem sz76 : size (C m) 76 = some 38 := by kernel_rfl
theorem in76 : ((C m).P.info? 76).map (fun t => (t.size, t.bytes)) = some (38, 416) := by kernel_rfl
theorem fa76_0 {i o : Nat} : fadO (C m) 76 (P i o) 0 σ = .val (P i (o + 0)) := by kernel_rfl
theorem fa76_1 {i o : Nat} : fadO (C m) 76 (P i o) 1 σ = .val (P i (o + 18)) := by kernel_rfl
theorem fa76_2 {i o : Nat} : fadO (C m) 76 (P i o) 2 σ = .val (P i (o + 19)) := by kernel_rfl
theorem fa76_3 {i o : Nat} : fadO (C m) 76 (P i o) 3 σ = .val (P i (o + 20)) := by kernel_rfl
theorem fa76_4 {i o : Nat} : fadO (C m) 76 (P i o) 4 σ = .val (P i (o + 21)) := by kernel_rfl
theorem fa76_5 {i o : Nat} : fadO (C m) 76 (P i o) 5 σ = .val (P i (o + 28)) := by kernel_rfl
theorem fa76_6 {i o : Nat} : fadO (C m) 76 (P i o) 6 σ = .val (P i (o + 33)) := by kernel_rfl
theorem fa76_7 {i o : Nat} : fadO (C m) 76 (P i o) 7 σ = .val (P i (o + 36)) := by kernel_rfl
theorem ag77 : Go.Run.isAgg (C m) 77 = some true := by kernel_rfl
theorem sz77 : size (C m) 77 = some 44 := by kernel_rfl
theorem in77 : ((C m).P.info? 77).map (fun t => (t.size, t.bytes)) = some (44, 496) := by kernel_rfl
theorem fa77_0 {i o : Nat} : fadO (C m) 77 (P i o) 0 σ = .val (P i (o + 0)) := by kernel_rfl
theorem fa77_1 {i o : Nat} : fadO (C m) 77 (P i o) 1 σ = .val (P i (o + 1)) := by kernel_rfl
theorem fa77_2 {i o : Nat} : fadO (C m) 77 (P i o) 2 σ = .val (P i (o + 2)) := by kernel_rfl
theorem fa77_3 {i o : Nat} : fadO (C m) 77 (P i o) 3 σ = .val (P i (o + 3)) := by kernel_rfl
theorem fa77_4 {i o : Nat} : fadO (C m) 77 (P i o) 4 σ = .val (P i (o + 4)) := by kernel_rfl
theorem fa77_5 {i o : Nat} : fadO (C m) 77 (P i o) 5 σ = .val (P i (o + 42)) := by kernel_rfl
theorem fa77_6 {i o : Nat} : fadO (C m) 77 (P i o) 6 σ = .val (P i (o + 43)) := by kernel_rfl
theorem ag78 : Go.Run.isAgg (C m) 78 = some true := by kernel_rfl
theorem sz78 : size (C m) 78 = some 44 := by kernel_rfl
theorem in78 : ((C m).P.info? 78).map (fun t => (t.size, t.bytes)) = some (44, 496) := by kernel_rfl
theorem fa78_0 {i o : Nat} : fadO (C m) 78 (P i o) 0 σ = .val (P i (o + 0)) := by kernel_rfl
theorem fa78_1 {i o : Nat} : fadO (C m) 78 (P i o) 1 σ = .val (P i (o + 1)) := by kernel_rfl
theorem fa78_2 {i o : Nat} : fadO (C m) 78 (P i o) 2 σ = .val (P i (o + 2)) := by kernel_rfl
theorem fa78_3 {i o : Nat} : fadO (C m) 78 (P i o) 3 σ = .val (P i (o + 3)) := by kernel_rfl
theorem fa78_4 {i o : Nat} : fadO (C m) 78 (P i o) 4 σ = .val (P i (o + 4)) := by kernel_rfl
theorem fa78_5 {i o : Nat} : fadO (C m) 78 (P i o) 5 σ = .val (P i (o + 42)) := by kernel_rfl
theorem fa78_6 {i o : Nat} : fadO (C m) 78 (P i o) 6 σ = .val (P i (o + 43)) := by kernel_rfl
theorem ag79 : Go.Run.isAgg (C m) 79 = some false := by kernel_rfl
theorem sz79 : size (C m) 79 = some 1 := by kernel_rfl
theorem in79 : ((C m).P.info? 79).map (fun t => (t.size, t.bytes)) = some (1, 0) := by kernel_rfl
theorem ag80 : Go.Run.isAgg (C m) 80 = some false := by kernel_rfl
theorem sz80 : size (C m) 80 = some 1 := by kernel_rfl
theorem in80 : ((C m).P.info? 80).map (fun t => (t.size, t.bytes)) = some (1, 8) := by kernel_rfl
theorem ag81 : Go.Run.isAgg (C m) 81 = some false := by kernel_rfl
theorem sz81 : size (C m) 81 = some 1 := by kernel_rfl
theorem in81 : ((C m).P.info? 81).map (fun t => (t.size, t.bytes)) = some (1, 8) := by kernel_rfl
theorem ag82 : Go.Run.isAgg (C m) 82 = some false := by kernel_rfl
theorem sz82 : size (C m) 82 = some 1 := by kernel_rfl
theorem in82 : ((C m).P.info? 82).map (fun t => (t.size, t.bytes)) = some (1, 8) := by kernel_rfl
theorem ag83 : Go.Run.isAgg (C m) 83 = some false := by kernel_rfl
theorem sz83 : size (C m) 83 = some 1 := by kernel_rfl
theorem in83 : ((C m).P.info? 83).map (fun t => (t.size, t.bytes)) = some (1, 8) := by kernel_rfl
theorem ag84 : Go.Run.isAgg (C m) 84 = some false := by kernel_rfl
theorem sz84 : size (C m) 84 = some 1 := by kernel_rfl
theorem in84 : ((C m).P.info? 84).map (fun t => (t.size, t.bytes)) = some (1, 8) := by kernel_rfl
theorem ag85 : Go.Run.isAgg (C m) 85 = some false := by kernel_rfl
theorem sz85 : size (C m) 85 = some 1 := by kernel_rfl
theorem in85 : ((C m).P.info? 85).map (fun t => (t.size, t.bytes)) = some (1, 8) := by kernel_rfl
theorem ag86 : Go.Run.isAgg (C m) 86 = some false := by kernel_rfl
theorem sz86 : size (C m) 86 = some 1 := by kernel_rfl
theorem in86 : ((C m).P.info? 86).map (fun t => (t.size, t.bytes)) = some (1, 0) := by kernel_rfl
theorem ag87 : Go.Run.isAgg (C m) 87 = some false := by kernel_rfl
theorem sz87 : size (C m) 87 = some 1 := by kernel_rfl
theorem in87 : ((C m).P.info? 87).map (fun t => (t.size, t.bytes)) = some (1, 8) := by kernel_rfl
theorem un88 : und (C m) 88 = some (.slice 253) := by kernel_rfl
theorem ag88 : Go.Run.isAgg (C m) 88 = some false := by kernel_rfl
theorem sz88 : size (C m) 88 = some 1 := by kernel_rfl
theorem in88 : ((C m).P.info? 88).map (fun t => (t.size, t.bytes)) = some (1, 24) := by kernel_rfl
theorem ag89 : Go.Run.isAgg (C m) 89 = some true := by kernel_rfl
theorem sz89 : size (C m) 89 = some 3 := by kernel_rfl
theorem in89 : ((C m).P.info? 89).map (fun t => (t.size, t.bytes)) = some (3, 40) := by kernel_rfl
theorem fa89_0 {i o : Nat} : fadO (C m) 89 (P i o) 0 σ = .val (P i (o + 0)) := by kernel_rfl
theorem fa89_1 {i o : Nat} : fadO (C m) 89 (P i o) 1 σ = .val (P i (o + 1)) := by kernel_rfl
theorem fa89_2 {i o : Nat} : fadO (C m) 89 (P i o) 2 σ = .val (P i (o + 2)) := by kernel_rfl
theorem ag90 : Go.Run.isAgg (C m) 90 = some true := by kernel_rfl
theorem sz90 : size (C m) 90 = some 7 := by kernel_rfl
theorem in90 : ((C m).P.info? 90).map (fun t => (t.size, t.bytes)) = some (7, 88) := by kernel_rfl
theorem fa90_0 {i o : Nat} : fadO (C m) 90 (P i o) 0 σ = .val (P i (o + 0)) := by kernel_rfl
theorem fa90_1 {i o : Nat} : fadO (C m) 90 (P i o) 1 σ = .val (P i (o + 1)) := by kernel_rfl
theorem fa90_2 {i o : Nat} : fadO (C m) 90 (P i o) 2 σ = .val (P i (o + 2)) := by kernel_rfl
theorem fa90_3 {i o : Nat} : fadO (C m) 90 (P i o) 3 σ = .val (P i (o + 3)) := by kernel_rfl
theorem fa90_4 {i o : Nat} : fadO (C m) 90 (P i o) 4 σ = .val (P i (o + 4)) := by kernel_rfl
theorem ag91 : Go.Run.isAgg (C m) 91 = some true := by kernel_rfl
theorem sz91 : size (C m) 91 = some 7 := by kernel_rfl
theorem in91 : ((C m).P.info? 91).map (fun t => (t.size, t.bytes)) = some (7, 88) := by kernel_rfl
theorem fa91_0 {i o : Nat} : fadO (C m) 91 (P i o) 0 σ = .val (P i (o + 0)) := by kernel_rfl
theorem fa91_1 {i o : Nat} : fadO (C m) 91 (P i o) 1 σ = .val (P i (o + 1)) := by kernel_rfl
theorem fa91_2 {i o : Nat} : fadO (C m) 91 (P i o) 2 σ = .val (P i (o + 2)) := by kernel_rfl
theorem fa91_3 {i o : Nat} : fadO (C m) 91 (P i o) 3 σ = .val (P i (o + 3)) := by kernel_rfl
theorem fa91_4 {i o : Nat} : fadO (C m) 91 (P i o) 4 σ = .val (P i (o + 4)) := by kernel_rfl
theorem ag92 : Go.Run.isAgg (C m) 92 = some true := by kernel_rfl
theorem sz92 : size (C m) 92 = some 3 := by kernel_rfl
theorem in92 : ((C m).P.info? 92).map (fun t => (t.size, t.bytes)) = some (3, 40) := by kernel_rfl
theorem fa92_0 {i o : Nat} : fadO (C m) 92 (P i o) 0 σ = .val (P i (o + 0)) := by kernel_rfl
theorem fa92_1 {i o : Nat} : fadO (C m) 92 (P i o) 1 σ = .val (P i (o + 1)) := by kernel_rfl
theorem fa92_2 {i o : Nat} : fadO (C m) 92 (P i o) 2 σ = .val (P i (o + 2)) := by kernel_rfl
theorem un93 : und (C m) 93 = some (.slice 176) := by kernel_rfl
theorem ag93 : Go.Run.isAgg (C m) 93 = some false := by kernel_rfl
theorem sz93 : size (C m) 93 = some 1 := by kernel_rfl
theorem in93 : ((C m).P.info? 93).map (fun t => (t.size, t.bytes)) = some (1, 24) := by kernel_rfl
theorem ag94 : Go.Run.isAgg (C m) 94 = some true := by kernel_rfl
theorem sz94 : size (C m) 94 = some 5 := by kernel_rfl
theorem in94 : ((C m).P.info? 94).map (fun t => (t.size, t.bytes)) = some (5, 72) := by kernel_rfl
theorem fa94_0 {i o : Nat} : fadO (C m) 94 (P i o) 0 σ = .val (P i (o + 0)) := by kernel_rfl
theorem fa94_1 {i o : Nat} : fadO (C m) 94 (P i o) 1 σ = .val (P i (o + 1)) := by kernel_rfl
theorem fa94_2 {i o : Nat} : fadO (C m) 94 (P i o) 2 σ = .val (P i (o + 4)) := by kernel_rfl
theorem ag95 : Go.Run.isAgg (C m) 95 = some true := by kernel_rfl
theorem sz95 : size (C m) 95 = some 5 := by kernel_rfl
theorem in95 : ((C m).P.info? 95).map (fun t => (t.size, t.bytes)) = some (5, 72) := by kernel_rfl
theorem fa95_0 {i o : Nat} : fadO (C m) 95 (P i o) 0 σ = .val (P i (o + 0)) := by kernel_rfl
theorem fa95_1 {i o : Nat} : fadO (C m) 95 (P i o) 1 σ = .val (P i (o + 1)) := by kernel_rfl
theorem fa95_2 {i o : Nat} : fadO (C m) 95 (P i o) 2 σ = .val (P i (o + 4)) := by kernel_rfl
theorem un96 : und (C m) 96 = some (.slice 259) := by kernel_rfl
theorem ag96 : Go.Run.isAgg (C m) 96 = some false := by kernel_rfl
theorem sz96 : size (C m) 96 = some 1 := by kernel_rfl
theorem in96 : ((C m).P.info? 96).map (fun t => (t.size, t.bytes)) = some (1, 24) := by kernel_rfl
theorem ag97 : Go.Run.isAgg (C m) 97 = some true := by kernel_rfl
theorem sz97 : size (C m) 97 = some 3 := by kernel_rfl
theorem in97 : ((C m).P.info? 97).map (fun t => (t.size, t.bytes)) = some (3, 40) := by kernel_rfl
theorem fa97_0 {i o : Nat} : fadO (C m) 97 (P i o) 0 σ = .val (P i (o + 0)) := by kernel_rfl
theorem fa97_1 {i o : Nat} : fadO (C m) 97 (P i o) 1 σ = .val (P i (o + 1)) := by kernel_rfl
theorem fa97_2 {i o : Nat} : fadO (C m) 97 (P i o) 2 σ = .val (P i (o + 2)) := by kernel_rfl
theorem ag98 : Go.Run.isAgg (C m) 98 = some true := by kernel_rfl
theorem sz98 : size (C m) 98 = some 3 := by kernel_rfl
theorem in98 : ((C m).P.info? 98).map (fun t => (t.size, t.bytes)) = some (3, 40) := by kernel_rfl
theorem fa98_0 {i o : Nat} : fadO (C m) 98 (P i o) 0 σ = .val (P i (o + 0)) := by kernel_rfl
theorem fa98_1 {i o : Nat} : fadO (C m) 98 (P i o) 1 σ = .val (P i (o + 1)) := by kernel_rfl
theorem fa98_2 {i o : Nat} : fadO (C m) 98 (P i o) 2 σ = .val (P i (o + 2)) := by kernel_rfl
theorem un99 : und (C m) 99 = some (.slice 183) := by kernel_rfl
theorem ag99 : Go.Run.isAgg (C m) 99 = some false := by kernel_rfl
theorem sz99 : size (C m) 99 = some 1 := by kernel_rfl
theorem in99 : ((C m).P.info? 99).map (fun t => (t.size, t.bytes)) = some (1, 24) := by kernel_rfl
theorem ag100 : Go.Run.isAgg (C m) 100 = some true := by kernel_rfl
theorem sz100 : size (C m) 100 = some 2 := by kernel_rfl
theorem in100 : ((C m).P.info? 100).map (fun t => (t.size, t.bytes)) = some (2, 32) := by kernel_rfl
theorem fa100_0 {i o : Nat} : fadO (C m) 100 (P i o) 0 σ = .val (P i (o + 0)) := by kernel_rfl
theorem fa100_1 {i o : Nat} : fadO (C m) 100 (P i o) 1 σ = .val (P i (o + 1)) := by kernel_rfl
theorem ag101 : Go.Run.isAgg (C m) 101 = some true := by kernel_rfl
theorem sz101 : size (C m) 101 = some 2 := by kernel_rfl
theorem in101 : ((C m).P.info? 101).map (fun t => (t.size, t.bytes)) = some (2, 32) := by kernel_rfl
theorem fa101_0 {i o : Nat} : fadO (C m) 101 (P i o) 0 σ = .val (P i (o + 0)) := by kernel_rfl
theorem fa101_1 {i o : Nat} : fadO (C m) 101 (P i o) 1 σ = .val (P i (o + 1)) := by kernel_rfl
theorem ag102 : Go.Run.isAgg (C m) 102 = some true := by kernel_rfl
theorem sz102 : size (C m) 102 = some 38 := by kernel_rfl
theorem in102 : ((C m).P.info? 102).map (fun t => (t.size, t.bytes)) = some (38, 416) := by kernel_rfl
theorem fa102_0 {i o : Nat} : fadO (C m) 102 (P i o) 0 σ = .val (P i (o + 0)) := by kernel_rfl
theorem fa102_1 {i o : Nat} : fadO (C m) 102 (P i o) 1 σ = .val (P i (o + 18)) := by kernel_rfl
theorem fa102_2 {i o : Nat} : fadO (C m) 102 (P i o) 2 σ = .val (P i (o + 19)) := by kernel_rfl
theorem fa102_3 {i o : Nat} : fadO (C m) 102 (P i o) 3 σ = .val (P i (o + 20)) := by kernel_rfl
theorem fa102_4 {i o : Nat} : fadO (C m) 102 (P i o) 4 σ = .val (P i (o + 21)) := by kernel_rfl
theorem fa102_5 {i o : Nat} : fadO (C m) 102 (P i o) 5 σ = .val (P i (o + 28)) := by kernel_rfl
theorem fa102_6 {i o : Nat} : fadO (C m) 102 (P i o) 6 σ = .val (P i (o + 33)) := by kernel_rfl
theorem fa102_7 {i o : Nat} : fadO (C m) 102 (P i o) 7 σ = .val (P i (o + 36)) := by kernel_rfl
theorem ag103 : Go.Run.isAgg (C m) 103 = some true := by kernel_rfl
theorem sz103 : size (C m) 103 = some 38 := by kernel_rfl
theorem in103 : ((C m).P.info? 103).map (fun t => (t.size, t.bytes)) = some (38, 416) := by kernel_rfl
theorem fa103_0 {i o : Nat} : fadO (C m) 103 (P i o) 0 σ = .val (P i (o + 0)) := by kernel_rfl
theorem fa103_1 {i o : Nat} : fadO (C m) 103 (P i o) 1 σ = .val (P i (o + 18)) := by kernel_rfl
theorem fa103_2 {i o : Nat} : fadO (C m) 103 (P i o) 2 σ = .val (P i (o + 19)) := by kernel_rfl
theorem fa103_3 {i o : Nat} : fadO (C m) 103 (P i o) 3 σ = .val (P i (o + 20)) := by kernel_rfl
theorem fa103_4 {i o : Nat} : fadO (C m) 103 (P i o) 4 σ = .val (P i (o + 21)) := by kernel_rfl
theorem fa103_5 {i o : Nat} : fadO (C m) 103 (P i o) 5 σ = .val (P i (o + 28)) := by kernel_rfl
theorem fa103_6 {i o : Nat} : fadO (C m) 103 (P i o) 6 σ = .val (P i (o + 33)) := by kernel_rfl
theorem fa103_7 {i o : Nat} : fadO (C m) 103 (P i o) 7 σ = .val (P i (o + 36)) := by kernel_rfl
theorem ag104 : Go.Run.isAgg (C m) 104 = some false := by kernel_rfl
theorem sz104 : size (C m) 104 = some 1 := by kernel_rfl
theorem in104 : ((C m).P.info? 104).map (fun t => (t.size, t.bytes)) = some (1, 0) := by kernel_rfl
theorem ag105 : Go.Run.isAgg (C m) 105 = some false := by kernel_rfl
theorem sz105 : size (C m) 105 = some 1 := by kernel_rfl
theorem in105 : ((C m).P.info? 105).map (fun t => (t.size, t.bytes)) = some (1, 8) := by kernel_rfl
theorem ag106 : Go.Run.isAgg (C m) 106 = some false := by kernel_rfl
theorem sz106 : size (C m) 106 = some 1 := by kernel_rfl
theorem in106 : ((C m).P.info? 106).map (fun t => (t.size, t.bytes)) = some (1, 0) := by kernel_rfl
theorem ag107 : Go.Run.isAgg (C m) 107 = some false := by kernel_rfl
theorem sz107 : size (C m) 107 = some 1 := by kernel_rfl
theorem in107 : ((C m).P.info? 107).map (fun t => (t.size, t.bytes)) = some (1, 8) := by kernel_rfl
theorem ag108 : Go.Run.isAgg (C m) 108 = some false := by kernel_rfl
theorem sz108 : size (C m) 108 = some 1 := by kernel_rfl
theorem in108 : ((C m).P.info? 108).map (fun t => (t.size, t.bytes)) = some (1, 8) := by kernel_rfl
theorem un109 : und (C m) 109 = some (.map 233 4) := by kernel_rfl
theorem ag109 : Go.Run.isAgg (C m) 109 = some false := by kernel_rfl
theorem sz109 : size (C m) 109 = some 1 := by kernel_rfl
theorem in109 : ((C m).P.info? 109).map (fun t => (t.size, t.bytes)) = some (1, 8) := by kernel_rfl
theorem un110 : und (C m) 110 = some (.map 151 148) := by kernel_rfl
theorem ag110 : Go.Run.isAgg (C m) 110 = some false := by kernel_rfl
theorem sz110 : size (C m) 110 = some 1 := by kernel_rfl
theorem in110 : ((C m).P.info? 110).map (fun t => (t.size, t.bytes)) = some (1, 8) := by kernel_rfl
theorem un111 : und (C m) 111 = some (.slice 236) := by kernel_rfl
theorem ag111 : Go.Run.isAgg (C m) 111 = some false := by kernel_rfl
theorem sz111 : size (C m) 111 = some 1 := by kernel_rfl
theorem in111 : ((C m).P.info? 111).map (fun t => (t.size, t.bytes)) = some (1, 24) := by kernel_rfl
theorem ag112 : Go.Run.isAgg (C m) 112 = some true := by kernel_rfl
theorem sz112 : size (C m) 112 = some 22 := by kernel_rfl
theorem in112 : ((C m).P.info? 112).map (fun t => (t.size, t.bytes)) = some (22, 192) := by kernel_rfl
theorem fa112_0 {i o : Nat} : fadO (C m) 112 (P i o) 0 σ = .val (P i (o + 0)) := by kernel_rfl
theorem fa112_1 {i o : Nat} : fadO (C m) 112 (P i o) 1 σ = .val (P i (o + 18)) := by kernel_rfl
theorem fa112_2 {i o : Nat} : fadO (C m) 112 (P i o) 2 σ = .val (P i (o + 19)) := by kernel_rfl
theorem fa112_3 {i o : Nat} : fadO (C m) 112 (P i o) 3 σ = .val (P i (o + 20)) := by kernel_rfl
theorem fa112_4 {i o : Nat} : fadO (C m) 112 (P i o) 4 σ = .val (P i (o + 21)) := by kernel_rfl
theorem ag113 : Go.Run.isAgg (C m) 113 = some true := by kernel_rfl
theorem sz113 : size (C m) 113 = some 22 := by kernel_rfl
theorem in113 : ((C m).P.info? 113).map (fun t => (t.size, t.bytes)) = some (22, 192) := by kernel_rfl
theorem fa113_0 {i o : Nat} : fadO (C m) 113 (P i o) 0 σ = .val (P i (o + 0)) := by kernel_rfl
theorem fa113_1 {i o : Nat} : fadO (C m) 113 (P i o) 1 σ = .val (P i (o + 18)) := by kernel_rfl
theorem fa113_2 {i o : Nat} : fadO (C m) 113 (P i o) 2 σ = .val (P i (o + 19)) := by kernel_rfl
theorem fa113_3 {i o : Nat} : fadO (C m) 113 (P i o) 3 σ = .val (P i (o + 20)) := by kernel_rfl
theorem fa113_4 {i o : Nat} : fadO (C m) 113 (P i o) 4 σ = .val (P i (o + 21)) := by kernel_rfl
theorem un114 : und (C m) 114 = some (.slice 212) := by kernel_rfl
theorem ag114 : Go.Run.isAgg (C m) 114 = some false := by kernel_rfl
theorem sz114 : size (C m) 114 = some 1 := by kernel_rfl
theorem in114 : ((C m).P.info? 114).map (fun t => (t.size, t.bytes)) = some (1, 24) := by kernel_rfl
theorem ag115 : Go.Run.isAgg (C m) 115 = some true := by kernel_rfl
theorem sz115 : size (C m) 115 = some 0 := by kernel_rfl
theorem in115 : ((C m).P.info? 115).map (fun t => (t.size, t.bytes)) = some (0, 0) := by kernel_rfl
theorem ag116 : Go.Run.isAgg (C m) 116 = some true := by kernel_rfl
theorem sz116 : size (C m) 116 = some 0 := by kernel_rfl
theorem in116 : ((C m).P.info? 116).map (fun t => (t.size, t.bytes)) = some (0, 0) := by kernel_rfl
theorem ag117 : Go.Run.isAgg (C m) 117 = some true := by kernel_rfl
theorem sz117 : size (C m) 117 = some 0 := by kernel_rfl
theorem in117 : ((C m).P.info? 117).map (fun t => (t.size, t.bytes)) = some (0, 0) := by kernel_rfl
theorem ag118 : Go.Run.isAgg (C m) 118 = some true := by kernel_rfl
theorem sz118 : size (C m) 118 = some 1 := by kernel_rfl
theorem in118 : ((C m).P.info? 118).map (fun t => (t.size, t.bytes)) = some (1, 8) := by kernel_rfl
theorem fa118_2 {i o : Nat} : fadO (C m) 118 (P i o) 2 σ = .val (P i (o + 0)) := by kernel_rfl
theorem ag119 : Go.Run.isAgg (C m) 119 = some true := by kernel_rfl
theorem sz119 : size (C m) 119 = some 1 := by kernel_rfl
theorem in119 : ((C m).P.info? 119).map (fun t => (t.size, t.bytes)) = some (1, 8) := by kernel_rfl
theorem fa119_2 {i o : Nat} : fadO (C m) 119 (P i o) 2 σ = .val (P i (o + 0)) := by kernel_rfl
theorem ag120 : Go.Run.isAgg (C m) 120 = some true := by kernel_rfl
theorem sz120 : size (C m) 120 = some 44 := by kernel_rfl
theorem in120 : ((C m).P.info? 120).map (fun t => (t.size, t.bytes)) = some (44, 496) := by kernel_rfl
theorem fa120_0 {i o : Nat} : fadO (C m) 120 (P i o) 0 σ = .val (P i (o + 0)) := by kernel_rfl
theorem fa120_1 {i o : Nat} : fadO (C m) 120 (P i o) 1 σ = .val (P i (o + 1)) := by kernel_rfl
theorem fa120_2 {i o : Nat} : fadO (C m) 120 (P i o) 2 σ = .val (P i (o + 2)) := by kernel_rfl
theorem fa120_3 {i o : Nat} : fadO (C m) 120 (P i o) 3 σ = .val (P i (o + 3)) := by kernel_rfl
theorem fa120_4 {i o : Nat} : fadO (C m) 120 (P i o) 4 σ = .val (P i (o + 41)) := by kernel_rfl
theorem fa120_5 {i o : Nat} : fadO (C m) 120 (P i o) 5 σ = .val (P i (o + 42)) := by kernel_rfl
theorem fa120_6 {i o : Nat} : fadO (C m) 120 (P i o) 6 σ = .val (P i (o + 43)) := by kernel_rfl
theorem ag121 : Go.Run.isAgg (C m) 121 = some true := by kernel_rfl
theorem sz121 : size (C m) 121 = some 44 := by kernel_rfl
theorem in121 : ((C m).P.info? 121).map (fun t => (t.size, t.bytes)) = some (44, 496) := by kernel_rfl
theorem fa121_0 {i o : Nat} : fadO (C m) 121 (P i o) 0 σ = .val (P i (o + 0)) := by kernel_rfl
theorem fa121_1 {i o : Nat} : fadO (C m) 121 (P i o) 1 σ = .val (P i (o + 1)) := by kernel_rfl
theorem fa121_2 {i o : Nat} : fadO (C m) 121 (P i o) 2 σ = .val (P i (o + 2)) := by kernel_rfl
theorem fa121_3 {i o : Nat} : fadO (C m) 121 (P i o) 3 σ = .val (P i (o + 3)) := by kernel_rfl
theorem fa121_4 {i o : Nat} : fadO (C m) 121 (P i o) 4 σ = .val (P i (o + 41)) := by kernel_rfl
theorem fa121_5 {i o : Nat} : fadO (C m) 121 (P i o) 5 σ = .val (P i (o + 42)) := by kernel_rfl
theorem fa121_6 {i o : Nat} : fadO (C m) 121 (P i o) 6 σ = .val (P i (o + 43)) := by kernel_rfl
theorem ag122 : Go.Run.isAgg (C m) 122 = some false := by kernel_rfl
theorem sz122 : size (C m) 122 = some 1 := by kernel_rfl
theorem in122 : ((C m).P.info? 122).map (fun t => (t.size, t.bytes)) = some (1, 8) := by kernel_rfl
theorem ag123 : Go.Run.isAgg (C m) 123 = some false := by kernel_rfl
theorem sz123 : size (C m) 123 = some 1 := by kernel_rfl
theorem in123 : ((C m).P.info? 123).map (fun t => (t.size, t.bytes)) = some (1, 8) := by kernel_rfl
theorem ag124 : Go.Run.isAgg (C m) 124 = some false := by kernel_rfl
theorem sz124 : size (C m) 124 = some 1 := by kernel_rfl
theorem in124 : ((C m).P.info? 124).map (fun t => (t.size, t.bytes)) = some (1, 8) := by kernel_rfl
theorem ag125 : Go.Run.isAgg (C m) 125 = some false := by kernel_rfl
theorem sz125 : size (C m) 125 = some 1 := by kernel_rfl
theorem in125 : ((C m).P.info? 125).map (fun t => (t.size, t.bytes)) = some (1, 8) := by kernel_rfl
theorem ag126 : Go.Run.isAgg (C m) 126 = some false := by kernel_rfl
theorem sz126 : size (C m) 126 = some 1 := by kernel_rfl
theorem in126 : ((C m).P.info? 126).map (fun t => (t.size, t.bytes)) = some (1, 8) := by kernel_rfl
theorem ag127 : Go.Run.isAgg (C m) 127 = some false := by kernel_rfl
theorem sz127 : size (C m) 127 = some 1 := by kernel_rfl
theorem in127 : ((C m).P.info? 127).map (fun t => (t.size, t.bytes)) = some (1, 8) := by kernel_rfl
theorem ag128 : Go.Run.isAgg (C m) 128 = some false := by kernel_rfl
theorem sz128 : size (C m) 128 = some 1 := by kernel_rfl
theorem in128 : ((C m).P.info? 128).map (fun t => (t.size, t.bytes)) = some (1, 8) := by kernel_rfl
theorem ag129 : Go.Run.isAgg (C m) 129 = some false := by kernel_rfl
theorem sz129 : size (C m) 129 = some 1 := by kernel_rfl
theorem in129 : ((C m).P.info? 129).map (fun t => (t.size, t.bytes)) = some (1, 8) := by kernel_rfl
theorem ag130 : Go.Run.isAgg (C m) 130 = some false := by kernel_rfl
theorem sz130 : size (C m) 130 = some 1 := by kernel_rfl
theorem in130 : ((C m).P.info? 130).map (fun t => (t.size, t.bytes)) = some (1, 8) := by kernel_rfl
theorem ag131 : Go.Run.isAgg (C m) 131 = some false := by kernel_rfl
theorem sz131 : size (C m) 131 = some 1 := by kernel_rfl
theorem in131 : ((C m).P.info? 131).map (fun t => (t.size, t.bytes)) = some (1, 8) := by kernel_rfl
theorem ag132 : Go.Run.isAgg (C m) 132 = some false := by kernel_rfl
theorem sz132 : size (C m) 132 = some 1 := by kernel_rfl
theorem in132 : ((C m).P.info? 132).map (fun t => (t.size, t.bytes)) = some (1, 8) := by kernel_rfl
theorem un133 : und (C m) 133 = some (.slice 5) := by kernel_rfl
theorem ag133 : Go.Run.isAgg (C m) 133 = some false := by kernel_rfl
theorem sz133 : size (C m) 133 = some 1 := by kernel_rfl
theorem in133 : ((C m).P.info? 133).map (fun t => (t.size, t.bytes)) = some (1, 24) := by kernel_rfl
theorem un134 : und (C m) 134 = some (.slice 138) := by kernel_rfl
theorem ag134 : Go.Run.isAgg (C m) 134 = some false := by kernel_rfl
theorem sz134 : size (C m) 134 = some 1 := by kernel_rfl
theorem in134 : ((C m).P.info? 134).map (fun t => (t.size, t.bytes)) = some (1, 24) := by kernel_rfl
theorem ag135 : Go.Run.isAgg (C m) 135 = some true := by kernel_rfl
theorem sz135 : size (C m) 135 = some 2 := by kernel_rfl
theorem in135 : ((C m).P.info? 135).map (fun t => (t.size, t.bytes)) = some (2, 32) := by kernel_rfl
theorem fa135_0 {i o : Nat} : fadO (C m) 135 (P i o) 0 σ = .val (P i (o + 0)) := by kernel_rfl
theorem fa135_1 {i o : Nat} : fadO (C m) 135 (P i o) 1 σ = .val (P i (o + 1)) := by kernel_rfl
theorem ag136 : Go.Run.isAgg (C m) 136 = some true := by kernel_rfl
theorem sz136 : size (C m) 136 = some 2 := by kernel_rfl
theorem in136 : ((C m).P.info? 136).map (fun t => (t.size, t.bytes)) = some (2, 32) := by kernel_rfl
theorem fa136_0 {i o : Nat} : fadO (C m) 136 (P i o) 0 σ = .val (P i (o + 0)) := by kernel_rfl
theorem fa136_1 {i o : Nat} : fadO (C m) 136 (P i o) 1 σ = .val (P i (o + 1)) := by kernel_rfl
theorem ag137 : Go.Run.isAgg (C m) 137 = some true := by kernel_rfl
theorem sz137 : size (C m) 137 = some 3 := by kernel_rfl
theorem in137 : ((C m).P.info? 137).map (fun t => (t.size, t.bytes)) = some (3, 32) := by kernel_rfl
theorem fa137_0 {i o : Nat} : fadO (C m) 137 (P i o) 0 σ = .val (P i (o + 0)) := by kernel_rfl
theorem fa137_1 {i o : Nat} : fadO (C m) 137 (P i o) 1 σ = .val (P i (o + 1)) := by kernel_rfl
theorem fa137_2 {i o : Nat} : fadO (C m) 137 (P i o) 2 σ = .val (P i (o + 2)) := by kernel_rfl
theorem ag138 : Go.Run.isAgg (C m) 138 = some true := by kernel_rfl
theorem sz138 : size (C m) 138 = some 3 := by kernel_rfl
theorem in138 : ((C m).P.info? 138).map (fun t => (t.size, t.bytes)) = some (3, 32) := by kernel_rfl
theorem fa138_0 {i o : Nat} : fadO (C m) 138 (P i o) 0 σ = .val (P i (o + 0)) := by kernel_rfl
theorem fa138_1 {i o : Nat} : fadO (C m) 138 (P i o) 1 σ = .val (P i (o + 1)) := by kernel_rfl
theorem fa138_2 {i o : Nat} : fadO (C m) 138 (P i o) 2 σ = .val (P i (o + 2)) := by kernel_rfl
theorem ag139 : Go.Run.isAgg (C m) 139 = some false := by kernel_rfl
theorem sz139 : size (C m) 139 = some 1 := by kernel_rfl
theorem in139 : ((C m).P.info? 139).map (fun t => (t.size, t.bytes)) = some (1, 8) := by kernel_rfl
theorem ag140 : Go.Run.isAgg (C m) 140 = some false := by kernel_rfl
theorem sz140 : size (C m) 140 = some 1 := by kernel_rfl
theorem in140 : ((C m).P.info? 140).map (fun t => (t.size, t.bytes)) = some (1, 8) := by kernel_rfl
theorem un141 : und (C m) 141 = some (.slice 143) := by kernel_rfl
theorem ag141 : Go.Run.isAgg (C m) 141 = some false := by kernel_rfl
theorem sz141 : size (C m) 141 = some 1 := by kernel_rfl
theorem in141 : ((C m).P.info? 141).map (fun t => (t.size, t.bytes)) = some (1, 24) := by kernel_rfl
theorem ag142 : Go.Run.isAgg (C m) 142 = some true := by kernel_rfl
theorem sz142 : size (C m) 142 = some 4 := by kernel_rfl
theorem in142 : ((C m).P.info? 142).map (fun t => (t.size, t.bytes)) = some (4, 40) := by kernel_rfl
theorem fa142_0 {i o : Nat} : fadO (C m) 142 (P i o) 0 σ = .val (P i (o + 0)) := by kernel_rfl
theorem fa142_1 {i o : Nat} : fadO (C m) 142 (P i o) 1 σ = .val (P i (o + 1)) := by kernel_rfl
theorem fa142_2 {i o : Nat} : fadO (C m) 142 (P i o) 2 σ = .val (P i (o + 2)) := by kernel_rfl
theorem fa142_3 {i o : Nat} : fadO (C m) 142 (P i o) 3 σ = .val (P i (o + 3)) := by kernel_rfl
theorem ag143 : Go.Run.isAgg (C m) 143 = some true := by kernel_rfl
theorem sz143 : size (C m) 143 = some 4 := by kernel_rfl
theorem in143 : ((C m).P.info? 143).map (fun t => (t.size, t.bytes)) = some (4, 40) := by kernel_rfl
theorem fa143_0 {i o : Nat} : fadO (C m) 143 (P i o) 0 σ = .val (P i (o + 0)) := by kernel_rfl
theorem fa143_1 {i o : Nat} : fadO (C m) 143 (P i o) 1 σ = .val (P i (o + 1)) := by kernel_rfl
theorem fa143_2 {i o : Nat} : fadO (C m) 143 (P i o) 2 σ = .val (P i (o + 2)) := by kernel_rfl
theorem fa143_3 {i o : Nat} : fadO (C m) 143 (P i o) 3 σ = .val (P i (o + 3)) := by kernel_rfl
theorem ag144 : Go.Run.isAgg (C m) 144 = some false := by kernel_rfl
theorem sz144 : size (C m) 144 = some 1 := by kernel_rfl
theorem in144 : ((C m).P.info? 144).map (fun t => (t.size, t.bytes)) = some (1, 8) := by kernel_rfl
theorem ag145 : Go.Run.isAgg (C m) 145 = some false := by kernel_rfl
theorem sz145 : size (C m) 145 = some 1 := by kernel_rfl
theorem in145 : ((C m).P.info? 145).map (fun t => (t.size, t.bytes)) = some (1, 8) := by kernel_rfl
theorem ag146 : Go.Run.isAgg (C m) 146 = some true := by kernel_rfl
theorem sz146 : size (C m) 146 = some 5 := by kernel_rfl
theorem in146 : ((C m).P.info? 146).map (fun t => (t.size, t.bytes)) = some (5, 48) := by kernel_rfl
theorem fa146_0 {i o : Nat} : fadO (C m) 146 (P i o) 0 σ = .val (P i (o + 0)) := by kernel_rfl
theorem fa146_1 {i o : Nat} : fadO (C m) 146 (P i o) 1 σ = .val (P i (o + 1)) := by kernel_rfl
theorem fa146_2 {i o : Nat} : fadO (C m) 146 (P i o) 2 σ = .val (P i (o + 2)) := by kernel_rfl
theorem fa146_3 {i o : Nat} : fadO (C m) 146 (P i o) 3 σ = .val (P i (o + 3)) := by kernel_rfl
theorem fa146_4 {i o : Nat} : fadO (C m) 146 (P i o) 4 σ = .val (P i (o + 4)) := by kernel_rfl
theorem ag147 : Go.Run.isAgg (C m) 147 = some true := by kernel_rfl
theorem sz147 : size (C m) 147 = some 5 := by kernel_rfl
theorem in147 : ((C m).P.info? 147).map (fun t => (t.size, t.bytes)) = some (5, 48) := by kernel_rfl
theorem fa147_0 {i o : Nat} : fadO (C m) 147 (P i o) 0 σ = .val (P i (o + 0)) := by kernel_rfl
theorem fa147_1 {i o : Nat} : fadO (C m) 147 (P i o) 1 σ = .val (P i (o + 1)) := by kernel_rfl
theorem fa147_2 {i o : Nat} : fadO (C m) 147 (P i o) 2 σ = .val (P i (o + 2)) := by kernel_rfl
theorem fa147_3 {i o : Nat} : fadO (C m) 147 (P i o) 3 σ = .val (P i (o + 3)) := by kernel_rfl
theorem fa147_4 {i o : Nat} : fadO (C m) 147 (P i o) 4 σ = .val (P i (o + 4)) := by kernel_rfl
theorem un148 : und (C m) 148 = some (.pointer 164) := by kernel_rfl
theorem ag148 : Go.Run.isAgg (C m) 148 = some false := by kernel_rfl
theorem sz148 : size (C m) 148 = some 1 := by kernel_rfl
theorem in148 : ((C m).P.info? 148).map (fun t => (t.size, t.bytes)) = some (1, 8) := by kernel_rfl
theorem ag149 : Go.Run.isAgg (C m) 149 = some false := by kernel_rfl
theorem sz149 : size (C m) 149 = some 1 := by kernel_rfl
theorem in149 : ((C m).P.info? 149).map (fun t => (t.size, t.bytes)) = some (1, 0) := by kernel_rfl
theorem ag150 : Go.Run.isAgg (C m) 150 = some true := by kernel_rfl
theorem sz150 : size (C m) 150 = some 2 := by kernel_rfl
theorem in150 : ((C m).P.info? 150).map (fun t => (t.size, t.bytes)) = some (2, 16) := by kernel_rfl
theorem fa150_0 {i o : Nat} : fadO (C m) 150 (P i o) 0 σ = .val (P i (o + 0)) := by kernel_rfl
theorem fa150_1 {i o : Nat} : fadO (C m) 150 (P i o) 1 σ = .val (P i (o + 1)) := by kernel_rfl
theorem ag151 : Go.Run.isAgg (C m) 151 = some true := by kernel_rfl
theorem sz151 : size (C m) 151 = some 2 := by kernel_rfl
theorem in151 : ((C m).P.info? 151).map (fun t => (t.size, t.bytes)) = some (2, 16) := by kernel_rfl
theorem fa151_0 {i o : Nat} : fadO (C m) 151 (P i o) 0 σ = .val (P i (o + 0)) := by kernel_rfl
theorem fa151_1 {i o : Nat} : fadO (C m) 151 (P i o) 1 σ = .val (P i (o + 1)) := by kernel_rfl
theorem un152 : und (C m) 152 = some (.map 3 9) := by kernel_rfl
theorem ag152 : Go.Run.isAgg (C m) 152 = some false := by kernel_rfl
theorem sz152 : size (C m) 152 = some 1 := by kernel_rfl
theorem in152 : ((C m).P.info? 152).map (fun t => (t.size, t.bytes)) = some (1, 8) := by kernel_rfl
theorem ag153 : Go.Run.isAgg (C m) 153 = some true := by kernel_rfl
theorem sz153 : size (C m) 153 = some 0 := by kernel_rfl
theorem in153 : ((C m).P.info? 153).map (fun t => (t.size, t.bytes)) = some (0, 0) := by kernel_rfl
theorem un154 : und (C m) 154 = some (.int .u32) := by kernel_rfl
theorem ag154 : Go.Run.isAgg (C m) 154 = some false := by kernel_rfl
theorem sz154 : size (C m) 154 = some 1 := by kernel_rfl
theorem in154 : ((C m).P.info? 154).map (fun t => (t.size, t.bytes)) = some (1, 4) := by kernel_rfl
theorem ag155 : Go.Run.isAgg (C m) 155 = some true := by kernel_rfl
theorem sz155 : size (C m) 155 = some 1 := by kernel_rfl
theorem in155 : ((C m).P.info? 155).map (fun t => (t.size, t.bytes)) = some (1, 4) := by kernel_rfl
theorem fa155_1 {i o : Nat} : fadO (C m) 155 (P i o) 1 σ = .val (P i (o + 0)) := by kernel_rfl
theorem ag156 : Go.Run.isAgg (C m) 156 = some true := by kernel_rfl
theorem sz156 : size (C m) 156 = some 1 := by kernel_rfl
theorem in156 : ((C m).P.info? 156).map (fun t => (t.size, t.bytes)) = some (1, 4) := by kernel_rfl
theorem fa156_1 {i o : Nat} : fadO (C m) 156 (P i o) 1 σ = .val (P i (o + 0)) := by kernel_rfl
theorem ag157 : Go.Run.isAgg (C m) 157 = some true := by kernel_rfl
theorem sz157 : size (C m) 157 = some 2 := by kernel_rfl
theorem in157 : ((C m).P.info? 157).map (fun t => (t.size, t.bytes)) = some (2, 8) := by kernel_rfl
theorem fa157_0 {i o : Nat} : fadO (C m) 157 (P i o) 0 σ = .val (P i (o + 0)) := by kernel_rfl
theorem fa157_1 {i o : Nat} : fadO (C m) 157 (P i o) 1 σ = .val (P i (o + 1)) := by kernel_rfl
theorem ag158 : Go.Run.isAgg (C m) 158 = some true := by kernel_rfl
theorem sz158 : size (C m) 158 = some 2 := by kernel_rfl
theorem in158 : ((C m).P.info? 158).map (fun t => (t.size, t.bytes)) = some (2, 8) := by kernel_rfl
theorem fa158_0 {i o : Nat} : fadO (C m) 158 (P i o) 0 σ = .val (P i (o + 0)) := by kernel_rfl
theorem fa158_1 {i o : Nat} : fadO (C m) 158 (P i o) 1 σ = .val (P i (o + 1)) := by kernel_rfl
theorem ag159 : Go.Run.isAgg (C m) 159 = some true := by kernel_rfl
theorem sz159 : size (C m) 159 = some 2 := by kernel_rfl
theorem in159 : ((C m).P.info? 159).map (fun t => (t.size, t.bytes)) = some (2, 8) := by kernel_rfl
theorem fa159_1 {i o : Nat} : fadO (C m) 159 (P i o) 1 σ = .val (P i (o + 0)) := by kernel_rfl
theorem ag160 : Go.Run.isAgg (C m) 160 = some true := by kernel_rfl
theorem sz160 : size (C m) 160 = some 2 := by kernel_rfl
theorem in160 : ((C m).P.info? 160).map (fun t => (t.size, t.bytes)) = some (2, 8) := by kernel_rfl
theorem fa160_1 {i o : Nat} : fadO (C m) 160 (P i o) 1 σ = .val (P i (o + 0)) := by kernel_rfl
theorem ag161 : Go.Run.isAgg (C m) 161 = some true := by kernel_rfl
theorem sz161 : size (C m) 161 = some 3 := by kernel_rfl
theorem in161 : ((C m).P.info? 161).map (fun t => (t.size, t.bytes)) = some (3, 12) := by kernel_rfl
theorem fa161_1 {i o : Nat} : fadO (C m) 161 (P i o) 1 σ = .val (P i (o + 0)) := by kernel_rfl
theorem fa161_2 {i o : Nat} : fadO (C m) 161 (P i o) 2 σ = .val (P i (o + 1)) := by kernel_rfl
theorem ag162 : Go.Run.isAgg (C m) 162 = some true := by kernel_rfl
theorem sz162 : size (C m) 162 = some 3 := by kernel_rfl
theorem in162 : ((C m).P.info? 162).map (fun t => (t.size, t.bytes)) = some (3, 12) := by kernel_rfl
theorem fa162_1 {i o : Nat} : fadO (C m) 162 (P i o) 1 σ = .val (P i (o + 0)) := by kernel_rfl
theorem fa162_2 {i o : Nat} : fadO (C m) 162 (P i o) 2 σ = .val (P i (o + 1)) := by kernel_rfl
theorem ag163 : Go.Run.isAgg (C m) 163 = some true := by kernel_rfl
theorem sz163 : size (C m) 163 = some 44 := by kernel_rfl
theorem in163 : ((C m).P.info? 163).map (fun t => (t.size, t.bytes)) = some (44, 456) := by kernel_rfl
theorem fa163_0 {i o : Nat} : fadO (C m) 163 (P i o) 0 σ = .val (P i (o + 0)) := by kernel_rfl
theorem fa163_1 {i o : Nat} : fadO (C m) 163 (P i o) 1 σ = .val (P i (o + 1)) := by kernel_rfl
theorem fa163_2 {i o : Nat} : fadO (C m) 163 (P i o) 2 σ = .val (P i (o + 2)) := by kernel_rfl
theorem fa163_3 {i o : Nat} : fadO (C m) 163 (P i o) 3 σ = .val (P i (o + 5)) := by kernel_rfl
theorem fa163_4 {i o : Nat} : fadO (C m) 163 (P i o) 4 σ = .val (P i (o + 43)) := by kernel_rfl
theorem ag164 : Go.Run.isAgg (C m) 164 = some true := by kernel_rfl
theorem sz164 : size (C m) 164 = some 44 := by kernel_rfl
theorem in164 : ((C m).P.info? 164).map (fun t => (t.size, t.bytes)) = some (44, 456) := by kernel_rfl
theorem fa164_0 {i o : Nat} : fadO (C m) 164 (P i o) 0 σ = .val (P i (o + 0)) := by kernel_rfl
theorem fa164_1 {i o : Nat} : fadO (C m) 164 (P i o) 1 σ = .val (P i (o + 1)) := by kernel_rfl
theorem fa164_2 {i o : Nat} : fadO (C m) 164 (P i o) 2 σ = .val (P i (o + 2)) := by kernel_rfl
theorem fa164_3 {i o : Nat} : fadO (C m) 164 (P i o) 3 σ = .val (P i (o + 5)) := by kernel_rfl
theorem fa164_4 {i o : Nat} : fadO (C m) 164 (P i o) 4 σ = .val (P i (o + 43)) := by kernel_rfl
theorem ag165 : Go.Run.isAgg (C m) 165 = some false := by kernel_rfl
theorem sz165 : size (C m) 165 = some 1 := by kernel_rfl
theorem in165 : ((C m).P.info? 165).map (fun t => (t.size, t.bytes)) = some (1, 8) := by kernel_rfl
theorem ag166 : Go.Run.isAgg (C m) 166 = some false := by kernel_rfl
theorem sz166 : size (C m) 166 = some 1 := by kernel_rfl
theorem in166 : ((C m).P.info? 166).map (fun t => (t.size, t.bytes)) = some (1, 8) := by kernel_rfl
theorem un167 : und (C m) 167 = some (.pointer 172) := by kernel_rfl
theorem ag167 : Go.Run.isAgg (C m) 167 = some false := by kernel_rfl
theorem sz167 : size (C m) 167 = some 1 := by kernel_rfl
theorem in167 : ((C m).P.info? 167).map (fun t => (t.size, t.bytes)) = some (1, 8) := by kernel_rfl
theorem un168 : und (C m) 168 = some (.pointer 170) := by kernel_rfl
theorem ag168 : Go.Run.isAgg (C m) 168 = some false := by kernel_rfl
theorem sz168 : size (C m) 168 = some 1 := by kernel_rfl
theorem in168 : ((C m).P.info? 168).map (fun t => (t.size, t.bytes)) = some (1, 8) := by kernel_rfl
theorem ag169 : Go.Run.isAgg (C m) 169 = some true := by kernel_rfl
theorem sz169 : size (C m) 169 = some 2 := by kernel_rfl
theorem in169 : ((C m).P.info? 169).map (fun t => (t.size, t.bytes)) = some (2, 32) := by kernel_rfl
theorem fa169_0 {i o : Nat} : fadO (C m) 169 (P i o) 0 σ = .val (P i (o + 0)) := by kernel_rfl
theorem fa169_1 {i o : Nat} : fadO (C m) 169 (P i o) 1 σ = .val (P i (o + 1)) := by kernel_rfl
theorem ag170 : Go.Run.isAgg (C m) 170 = some true := by kernel_rfl
theorem sz170 : size (C m) 170 = some 2 := by kernel_rfl
theorem in170 : ((C m).P.info? 170).map (fun t => (t.size, t.bytes)) = some (2, 32) := by kernel_rfl
theorem fa170_0 {i o : Nat} : fadO (C m) 170 (P i o) 0 σ = .val (P i (o + 0)) := by kernel_rfl
theorem fa170_1 {i o : Nat} : fadO (C m) 170 (P i o) 1 σ = .val (P i (o + 1)) := by kernel_rfl
theorem ag171 : Go.Run.isAgg (C m) 171 = some true := by kernel_rfl
theorem sz171 : size (C m) 171 = some 2 := by kernel_rfl
theorem in171 : ((C m).P.info? 171).map (fun t => (t.size, t.bytes)) = some (2, 32) := by kernel_rfl
theorem fa171_0 {i o : Nat} : fadO (C m) 171 (P i o) 0 σ = .val (P i (o + 0)) := by kernel_rfl
theorem ag172 : Go.Run.isAgg (C m) 172 = some true := by kernel_rfl
theorem sz172 : size (C m) 172 = some 2 := by kernel_rfl
theorem in172 : ((C m).P.info? 172).map (fun t => (t.size, t.bytes)) = some (2, 32) := by kernel_rfl
theorem fa172_0 {i o : Nat} : fadO (C m) 172 (P i o) 0 σ = .val (P i (o + 0)) := by kernel_rfl
theorem ag173 : Go.Run.isAgg (C m) 173 = some false := by kernel_rfl
theorem sz173 : size (C m) 173 = some 1 := by kernel_rfl
theorem in173 : ((C m).P.info? 173).map (fun t => (t.size, t.bytes)) = some (1, 8) := by kernel_rfl
theorem ag174 : Go.Run.isAgg (C m) 174 = some false := by kernel_rfl
theorem sz174 : size (C m) 174 = some 1 := by kernel_rfl
theorem in174 : ((C m).P.info? 174).map (fun t => (t.size, t.bytes)) = some (1, 8) := by kernel_rfl
theorem ag175 : Go.Run.isAgg (C m) 175 = some false := by kernel_rfl
theorem sz175 : size (C m) 175 = some 1 := by kernel_rfl
theorem in175 : ((C m).P.info? 175).map (fun t => (t.size, t.bytes)) = some (1, 8) := by kernel_rfl
theorem un176 : und (C m) 176 = some (.slice 177) := by kernel_rfl
theorem ag176 : Go.Run.isAgg (C m) 176 = some false := by kernel_rfl
theorem sz176 : size (C m) 176 = some 1 := by kernel_rfl
theorem in176 : ((C m).P.info? 176).map (fun t => (t.size, t.bytes)) = some (1, 24) := by kernel_rfl
theorem ag177 : Go.Run.isAgg (C m) 177 = some true := by kernel_rfl
theorem sz177 : size (C m) 177 = some 4 := by kernel_rfl
theorem in177 : ((C m).P.info? 177).map (fun t => (t.size, t.bytes)) = some (4, 40) := by kernel_rfl
theorem fa177_0 {i o : Nat} : fadO (C m) 177 (P i o) 0 σ = .val (P i (o + 0)) := by kernel_rfl
theorem fa177_1 {i o : Nat} : fadO (C m) 177 (P i o) 1 σ = .val (P i (o + 1)) := by kernel_rfl
theorem fa177_2 {i o : Nat} : fadO (C m) 177 (P i o) 2 σ = .val (P i (o + 2)) := by kernel_rfl
theorem fa177_3 {i o : Nat} : fadO (C m) 177 (P i o) 3 σ = .val (P i (o + 3)) := by kernel_rfl
theorem ag178 : Go.Run.isAgg (C m) 178 = some false := by kernel_rfl
theorem sz178 : size (C m) 178 = some 1 := by kernel_rfl
theorem in178 : ((C m).P.info? 178).map (fun t => (t.size, t.bytes)) = some (1, 16) := by kernel_rfl
theorem ag179 : Go.Run.isAgg (C m) 179 = some false := by kernel_rfl
theorem sz179 : size (C m) 179 = some 1 := by kernel_rfl
theorem in179 : ((C m).P.info? 179).map (fun t => (t.size, t.bytes)) = some (1, 16) := by kernel_rfl
theorem ag180 : Go.Run.isAgg (C m) 180 = some false := by kernel_rfl
theorem sz180 : size (C m) 180 = some 1 := by kernel_rfl
theorem in180 : ((C m).P.info? 180).map (fun t => (t.size, t.bytes)) = some (1, 0) := by kernel_rfl
theorem ag181 : Go.Run.isAgg (C m) 181 = some false := by kernel_rfl
theorem sz181 : size (C m) 181 = some 1 := by kernel_rfl
theorem in181 : ((C m).P.info? 181).map (fun t => (t.size, t.bytes)) = some (1, 8) := by kernel_rfl
theorem ag182 : Go.Run.isAgg (C m) 182 = some false := by kernel_rfl
theorem sz182 : size (C m) 182 = some 1 := by kernel_rfl
theorem in182 : ((C m).P.info? 182).map (fun t => (t.size, t.bytes)) = some (1, 8) := by kernel_rfl
theorem un183 : und (C m) 183 = some (.slice 188) := by kernel_rfl
theorem ag183 : Go.Run.isAgg (C m) 183 = some false := by kernel_rfl
theorem sz183 : size (C m) 183 = some 1 := by kernel_rfl
theorem in183 : ((C m).P.info? 183).map (fun t => (t.size, t.bytes)) = some (1, 24) := by kernel_rfl
theorem un184 : und (C m) 184 = some (.slice 63) := by kernel_rfl
theorem ag184 : Go.Run.isAgg (C m) 184 = some false := by kernel_rfl
theorem sz184 : size (C m) 184 = some 1 := by kernel_rfl
theorem in184 : ((C m).P.info? 184).map (fun t => (t.size, t.bytes)) = some (1, 24) := by kernel_rfl
theorem ag185 : Go.Run.isAgg (C m) 185 = some true := by kernel_rfl
theorem sz185 : size (C m) 185 = some 2 := by kernel_rfl
theorem in185 : ((C m).P.info? 185).map (fun t => (t.size, t.bytes)) = some (2, 32) := by kernel_rfl
theorem fa185_0 {i o : Nat} : fadO (C m) 185 (P i o) 0 σ = .val (P i (o + 0)) := by kernel_rfl
theorem fa185_1 {i o : Nat} : fadO (C m) 185 (P i o) 1 σ = .val (P i (o + 1)) := by kernel_rfl
theorem ag186 : Go.Run.isAgg (C m) 186 = some true := by kernel_rfl
theorem sz186 : size (C m) 186 = some 2 := by kernel_rfl
theorem in186 : ((C m).P.info? 186).map (fun t => (t.size, t.bytes)) = some (2, 32) := by kernel_rfl
theorem fa186_0 {i o : Nat} : fadO (C m) 186 (P i o) 0 σ = .val (P i (o + 0)) := by kernel_rfl
theorem fa186_1 {i o : Nat} : fadO (C m) 186 (P i o) 1 σ = .val (P i (o + 1)) := by kernel_rfl
theorem ag187 : Go.Run.isAgg (C m) 187 = some true := by kernel_rfl
theorem sz187 : size (C m) 187 = some 4 := by kernel_rfl
theorem in187 : ((C m).P.info? 187).map (fun t => (t.size, t.bytes)) = some (4, 56) := by kernel_rfl
theorem fa187_0 {i o : Nat} : fadO (C m) 187 (P i o) 0 σ = .val (P i (o + 0)) := by kernel_rfl
theorem fa187_1 {i o : Nat} : fadO (C m) 187 (P i o) 1 σ = .val (P i (o + 2)) := by kernel_rfl
theorem fa187_2 {i o : Nat} : fadO (C m) 187 (P i o) 2 σ = .val (P i (o + 3)) := by kernel_rfl
theorem ag188 : Go.Run.isAgg (C m) 188 = some true := by kernel_rfl
theorem sz188 : size (C m) 188 = some 4 := by kernel_rfl
theorem in188 : ((C m).P.info? 188).map (fun t => (t.size, t.bytes)) = some (4, 56) := by kernel_rfl
theorem fa188_0 {i o : Nat} : fadO (C m) 188 (P i o) 0 σ = .val (P i (o + 0)) := by kernel_rfl
theorem fa188_1 {i o : Nat} : fadO (C m) 188 (P i o) 1 σ = .val (P i (o + 2)) := by kernel_rfl
theorem fa188_2 {i o : Nat} : fadO (C m) 188 (P i o) 2 σ = .val (P i (o + 3)) := by kernel_rfl
theorem ag189 : Go.Run.isAgg (C m) 189 = some false := by kernel_rfl
theorem sz189 : size (C m) 189 = some 1 := by kernel_rfl
theorem in189 : ((C m).P.info? 189).map (fun t => (t.size, t.bytes)) = some (1, 8) := by kernel_rfl
theorem ag190 : Go.Run.isAgg (C m) 190 = some false := by kernel_rfl
theorem sz190 : size (C m) 190 = some 1 := by kernel_rfl
theorem in190 : ((C m).P.info? 190).map (fun t => (t.size, t.bytes)) = some (1, 0) := by kernel_rfl
theorem ag191 : Go.Run.isAgg (C m) 191 = some false := by kernel_rfl
theorem sz191 : size (C m) 191 = some 1 := by kernel_rfl
theorem in191 : ((C m).P.info? 191).map (fun t => (t.size, t.bytes)) = some (1, 8) := by kernel_rfl
theorem ag192 : Go.Run.isAgg (C m) 192 = some false := by kernel_rfl
theorem sz192 : size (C m) 192 = some 1 := by kernel_rfl
theorem in192 : ((C m).P.info? 192).map (fun t => (t.size, t.bytes)) = some (1, 8) := by kernel_rfl
theorem ag193 : Go.Run.isAgg (C m) 193 = some false := by kernel_rfl
theorem sz193 : size (C m) 193 = some 1 := by kernel_rfl
theorem in193 : ((C m).P.info? 193).map (fun t => (t.size, t.bytes)) = some (1, 0) := by kernel_rfl
theorem ag194 : Go.Run.isAgg (C m) 194 = some false := by kernel_rfl
theorem sz194 : size (C m) 194 = some 1 := by kernel_rfl
theorem in194 : ((C m).P.info? 194).map (fun t => (t.size, t.bytes)) = some (1, 8) := by kernel_rfl
theorem ag195 : Go.Run.isAgg (C m) 195 = some false := by kernel_rfl
theorem sz195 : size (C m) 195 = some 1 := by kernel_rfl
theorem in195 : ((C m).P.info? 195).map (fun t => (t.size, t.bytes)) = some (1, 0) := by kernel_rfl
theorem ag196 : Go.Run.isAgg (C m) 196 = some false := by kernel_rfl
theorem sz196 : size (C m) 196 = some 1 := by kernel_rfl
theorem in196 : ((C m).P.info? 196).map (fun t => (t.size, t.bytes)) = some (1, 8) := by kernel_rfl
theorem ag197 : Go.Run.isAgg (C m) 197 = some false := by kernel_rfl
theorem sz197 : size (C m) 197 = some 1 := by kernel_rfl
theorem in197 : ((C m).P.info? 197).map (fun t => (t.size, t.bytes)) = some (1, 0) := by kernel_rfl
theorem ag198 : Go.Run.isAgg (C m) 198 = some false := by kernel_rfl
theorem sz198 : size (C m) 198 = some 1 := by kernel_rfl
theorem in198 : ((C m).P.info? 198).map (fun t => (t.size, t.bytes)) = some (1, 8) := by kernel_rfl
theorem ag199 : Go.Run.isAgg (C m) 199 = some false := by kernel_rfl
theorem sz199 : size (C m) 199 = some 1 := by kernel_rfl
theorem in199 : ((C m).P.info? 199).map (fun t => (t.size, t.bytes)) = some (1, 8) := by kernel_rfl
theorem ag200 : Go.Run.isAgg (C m) 200 = some false := by kernel_rfl
theorem sz200 : size (C m) 200 = some 1 := by kernel_rfl
theorem in200 : ((C m).P.info? 200).map (fun t => (t.size, t.bytes)) = some (1, 8) := by kernel_rfl
theorem ag201 : Go.Run.isAgg (C m) 201 = some false := by kernel_rfl
theorem sz201 : size (C m) 201 = some 1 := by kernel_rfl
theorem in201 : ((C m).P.info? 201).map (fun t => (t.size, t.bytes)) = some (1, 8) := by kernel_rfl
theorem ag202 : Go.Run.isAgg (C m) 202 = some true := by kernel_rfl
theorem sz202 : size (C m) 202 = some 2 := by kernel_rfl
theorem in202 : ((C m).P.info? 202).map (fun t => (t.size, t.bytes)) = some (2, 32) := by kernel_rfl
theorem fa202_0 {i o : Nat} : fadO (C m) 202 (P i o) 0 σ = .val (P i (o + 0)) := by kernel_rfl
theorem fa202_1 {i o : Nat} : fadO (C m) 202 (P i o) 1 σ = .val (P i (o + 1)) := by kernel_rfl
theorem ag203 : Go.Run.isAgg (C m) 203 = some true := by kernel_rfl
theorem sz203 : size (C m) 203 = some 2 := by kernel_rfl
theorem in203 : ((C m).P.info? 203).map (fun t => (t.size, t.bytes)) = some (2, 32) := by kernel_rfl
theorem fa203_0 {i o : Nat} : fadO (C m) 203 (P i o) 0 σ = .val (P i (o + 0)) := by kernel_rfl
theorem fa203_1 {i o : Nat} : fadO (C m) 203 (P i o) 1 σ = .val (P i (o + 1)) := by kernel_rfl
theorem un204 : und (C m) 204 = some (.slice 243) := by kernel_rfl
theorem ag204 : Go.Run.isAgg (C m) 204 = some false := by kernel_rfl
theorem sz204 : size (C m) 204 = some 1 := by kernel_rfl
theorem in204 : ((C m).P.info? 204).map (fun t => (t.size, t.bytes)) = some (1, 24) := by kernel_rfl
theorem ag205 : Go.Run.isAgg (C m) 205 = some true := by kernel_rfl
theorem sz205 : size (C m) 205 = some 3 := by kernel_rfl
theorem in205 : ((C m).P.info? 205).map (fun t => (t.size, t.bytes)) = some (3, 56) := by kernel_rfl
theorem fa205_0 {i o : Nat} : fadO (C m) 205 (P i o) 0 σ = .val (P i (o + 0)) := by kernel_rfl
theorem fa205_1 {i o : Nat} : fadO (C m) 205 (P i o) 1 σ = .val (P i (o + 2)) := by kernel_rfl
theorem ag206 : Go.Run.isAgg (C m) 206 = some true := by kernel_rfl
theorem sz206 : size (C m) 206 = some 3 := by kernel_rfl
theorem in206 : ((C m).P.info? 206).map (fun t => (t.size, t.bytes)) = some (3, 56) := by kernel_rfl
theorem fa206_0 {i o : Nat} : fadO (C m) 206 (P i o) 0 σ = .val (P i (o + 0)) := by kernel_rfl
theorem fa206_1 {i o : Nat} : fadO (C m) 206 (P i o) 1 σ = .val (P i (o + 2)) := by kernel_rfl
theorem ag207 : Go.Run.isAgg (C m) 207 = some false := by kernel_rfl
theorem sz207 : size (C m) 207 = some 1 := by kernel_rfl
theorem in207 : ((C m).P.info? 207).map (fun t => (t.size, t.bytes)) = some (1, 8) := by kernel_rfl
theorem ag208 : Go.Run.isAgg (C m) 208 = some false := by kernel_rfl
theorem sz208 : size (C m) 208 = some 1 := by kernel_rfl
theorem in208 : ((C m).P.info? 208).map (fun t => (t.size, t.bytes)) = some (1, 8) := by kernel_rfl
theorem ag209 : Go.Run.isAgg (C m) 209 = some false := by kernel_rfl
theorem sz209 : size (C m) 209 = some 1 := by kernel_rfl
theorem in209 : ((C m).P.info? 209).map (fun t => (t.size, t.bytes)) = some (1, 8) := by kernel_rfl
theorem ag210 : Go.Run.isAgg (C m) 210 = some false := by kernel_rfl
theorem sz210 : size (C m) 210 = some 1 := by kernel_rfl
theorem in210 : ((C m).P.info? 210).map (fun t => (t.size, t.bytes)) = some (1, 8) := by kernel_rfl
theorem ag211 : Go.Run.isAgg (C m) 211 = some false := by kernel_rfl
theorem sz211 : size (C m) 211 = some 1 := by kernel_rfl
theorem in211 : ((C m).P.info? 211).map (fun t => (t.size, t.bytes)) = some (1, 8) := by kernel_rfl
theorem ag212 : Go.Run.isAgg (C m) 212 = some true := by kernel_rfl
theorem sz212 : size (C m) 212 = some 5 := by kernel_rfl
theorem in212 : ((C m).P.info? 212).map (fun t => (t.size, t.bytes)) = some (5, 48) := by kernel_rfl
theorem fa212_0 {i o : Nat} : fadO (C m) 212 (P i o) 0 σ = .val (P i (o + 0)) := by kernel_rfl
theorem fa212_1 {i o : Nat} : fadO (C m) 212 (P i o) 1 σ = .val (P i (o + 1)) := by kernel_rfl
theorem fa212_2 {i o : Nat} : fadO (C m) 212 (P i o) 2 σ = .val (P i (o + 2)) := by kernel_rfl
theorem fa212_3 {i o : Nat} : fadO (C m) 212 (P i o) 3 σ = .val (P i (o + 3)) := by kernel_rfl
theorem fa212_4 {i o : Nat} : fadO (C m) 212 (P i o) 4 σ = .val (P i (o + 4)) := by kernel_rfl
theorem ag213 : Go.Run.isAgg (C m) 213 = some false := by kernel_rfl
theorem sz213 : size (C m) 213 = some 1 := by kernel_rfl
theorem in213 : ((C m).P.info? 213).map (fun t => (t.size, t.bytes)) = some (1, 0) := by kernel_rfl
theorem ag214 : Go.Run.isAgg (C m) 214 = some false := by kernel_rfl
theorem sz214 : size (C m) 214 = some 1 := by kernel_rfl
theorem in214 : ((C m).P.info? 214).map (fun t => (t.size, t.bytes)) = some (1, 8) := by kernel_rfl
theorem ag215 : Go.Run.isAgg (C m) 215 = some false := by kernel_rfl
theorem sz215 : size (C m) 215 = some 1 := by kernel_rfl
theorem in215 : ((C m).P.info? 215).map (fun t => (t.size, t.bytes)) = some (1, 8) := by kernel_rfl
theorem un216 : und (C m) 216 = some (.slice 223) := by kernel_rfl
theorem ag216 : Go.Run.isAgg (C m) 216 = some false := by kernel_rfl
theorem sz216 : size (C m) 216 = some 1 := by kernel_rfl
theorem in216 : ((C m).P.info? 216).map (fun t => (t.size, t.bytes)) = some (1, 24) := by kernel_rfl
theorem ag217 : Go.Run.isAgg (C m) 217 = some true := by kernel_rfl
theorem sz217 : size (C m) 217 = some 4 := by kernel_rfl
theorem in217 : ((C m).P.info? 217).map (fun t => (t.size, t.bytes)) = some (4, 48) := by kernel_rfl
theorem fa217_0 {i o : Nat} : fadO (C m) 217 (P i o) 0 σ = .val (P i (o + 0)) := by kernel_rfl
theorem fa217_1 {i o : Nat} : fadO (C m) 217 (P i o) 1 σ = .val (P i (o + 1)) := by kernel_rfl
theorem fa217_2 {i o : Nat} : fadO (C m) 217 (P i o) 2 σ = .val (P i (o + 2)) := by kernel_rfl
theorem fa217_3 {i o : Nat} : fadO (C m) 217 (P i o) 3 σ = .val (P i (o + 3)) := by kernel_rfl
theorem ag218 : Go.Run.isAgg (C m) 218 = some true := by kernel_rfl
theorem sz218 : size (C m) 218 = some 4 := by kernel_rfl
theorem in218 : ((C m).P.info? 218).map (fun t => (t.size, t.bytes)) = some (4, 48) := by kernel_rfl
theorem fa218_0 {i o : Nat} : fadO (C m) 218 (P i o) 0 σ = .val (P i (o + 0)) := by kernel_rfl
theorem fa218_1 {i o : Nat} : fadO (C m) 218 (P i o) 1 σ = .val (P i (o + 1)) := by kernel_rfl
theorem fa218_2 {i o : Nat} : fadO (C m) 218 (P i o) 2 σ = .val (P i (o + 2)) := by kernel_rfl
theorem fa218_3 {i o : Nat} : fadO (C m) 218 (P i o) 3 σ = .val (P i (o + 3)) := by kernel_rfl
theorem ag219 : Go.Run.isAgg (C m) 219 = some false := by kernel_rfl
theorem sz219 : size (C m) 219 = some 1 := by kernel_rfl
theorem in219 : ((C m).P.info? 219).map (fun t => (t.size, t.bytes)) = some (1, 0) := by kernel_rfl
theorem ag220 : Go.Run.isAgg (C m) 220 = some false := by kernel_rfl
theorem sz220 : size (C m) 220 = some 1 := by kernel_rfl
theorem in220 : ((C m).P.info? 220).map (fun t => (t.size, t.bytes)) = some (1, 8) := by kernel_rfl
theorem un221 : und (C m) 221 = some (.slice 226) := by kernel_rfl
theorem ag221 : Go.Run.isAgg (C m) 221 = some false := by kernel_rfl
theorem sz221 : size (C m) 221 = some 1 := by kernel_rfl
theorem in221 : ((C m).P.info? 221).map (fun t => (t.size, t.bytes)) = some (1, 24) := by kernel_rfl
theorem ag222 : Go.Run.isAgg (C m) 222 = some true := by kernel_rfl
theorem sz222 : size (C m) 222 = some 3 := by kernel_rfl
theorem in222 : ((C m).P.info? 222).map (fun t => (t.size, t.bytes)) = some (3, 48) := by kernel_rfl
theorem fa222_0 {i o : Nat} : fadO (C m) 222 (P i o) 0 σ = .val (P i (o + 0)) := by kernel_rfl
theorem fa222_1 {i o : Nat} : fadO (C m) 222 (P i o) 1 σ = .val (P i (o + 1)) := by kernel_rfl
theorem fa222_2 {i o : Nat} : fadO (C m) 222 (P i o) 2 σ = .val (P i (o + 2)) := by kernel_rfl
theorem ag223 : Go.Run.isAgg (C m) 223 = some true := by kernel_rfl
theorem sz223 : size (C m) 223 = some 3 := by kernel_rfl
theorem in223 : ((C m).P.info? 223).map (fun t => (t.size, t.bytes)) = some (3, 48) := by kernel_rfl
theorem fa223_0 {i o : Nat} : fadO (C m) 223 (P i o) 0 σ = .val (P i (o + 0)) := by kernel_rfl
theorem fa223_1 {i o : Nat} : fadO (C m) 223 (P i o) 1 σ = .val (P i (o + 1)) := by kernel_rfl
theorem fa223_2 {i o : Nat} : fadO (C m) 223 (P i o) 2 σ = .val (P i (o + 2)) := by kernel_rfl
theorem un224 : und (C m) 224 = some (.slice 229) := by kernel_rfl
theorem ag224 : Go.Run.isAgg (C m) 224 = some false := by kernel_rfl
theorem sz224 : size (C m) 224 = some 1 := by kernel_rfl
theorem in224 : ((C m).P.info? 224).map (fun t => (t.size, t.bytes)) = some (1, 24) := by kernel_rfl
theorem ag225 : Go.Run.isAgg (C m) 225 = some true := by kernel_rfl
theorem sz225 : size (C m) 225 = some 2 := by kernel_rfl
theorem in225 : ((C m).P.info? 225).map (fun t => (t.size, t.bytes)) = some (2, 32) := by kernel_rfl
theorem fa225_0 {i o : Nat} : fadO (C m) 225 (P i o) 0 σ = .val (P i (o + 0)) := by kernel_rfl
theorem fa225_1 {i o : Nat} : fadO (C m) 225 (P i o) 1 σ = .val (P i (o + 1)) := by kernel_rfl
theorem ag226 : Go.Run.isAgg (C m) 226 = some true := by kernel_rfl
theorem sz226 : size (C m) 226 = some 2 := by kernel_rfl
theorem in226 : ((C m).P.info? 226).map (fun t => (t.size, t.bytes)) = some (2, 32) := by kernel_rfl
theorem fa226_0 {i o : Nat} : fadO (C m) 226 (P i o) 0 σ = .val (P i (o + 0)) := by kernel_rfl
theorem fa226_1 {i o : Nat} : fadO (C m) 226 (P i o) 1 σ = .val (P i (o + 1)) := by kernel_rfl
theorem ag227 : Go.Run.isAgg (C m) 227 = some false := by kernel_rfl
theorem sz227 : size (C m) 227 = some 1 := by kernel_rfl
theorem in227 : ((C m).P.info? 227).map (fun t => (t.size, t.bytes)) = some (1, 8) := by kernel_rfl
theorem ag228 : Go.Run.isAgg (C m) 228 = some true := by kernel_rfl
theorem sz228 : size (C m) 228 = some 3 := by kernel_rfl
theorem in228 : ((C m).P.info? 228).map (fun t => (t.size, t.bytes)) = some (3, 24) := by kernel_rfl
theorem fa228_0 {i o : Nat} : fadO (C m) 228 (P i o) 0 σ = .val (P i (o + 0)) := by kernel_rfl
theorem fa228_1 {i o : Nat} : fadO (C m) 228 (P i o) 1 σ = .val (P i (o + 1)) := by kernel_rfl
theorem fa228_2 {i o : Nat} : fadO (C m) 228 (P i o) 2 σ = .val (P i (o + 2)) := by kernel_rfl
theorem ag229 : Go.Run.isAgg (C m) 229 = some true := by kernel_rfl
theorem sz229 : size (C m) 229 = some 3 := by kernel_rfl
theorem in229 : ((C m).P.info? 229).map (fun t => (t.size, t.bytes)) = some (3, 24) := by kernel_rfl
theorem fa229_0 {i o : Nat} : fadO (C m) 229 (P i o) 0 σ = .val (P i (o + 0)) := by kernel_rfl
theorem fa229_1 {i o : Nat} : fadO (C m) 229 (P i o) 1 σ = .val (P i (o + 1)) := by kernel_rfl
theorem fa229_2 {i o : Nat} : fadO (C m) 229 (P i o) 2 σ = .val (P i (o + 2)) := by kernel_rfl
theorem ag230 : Go.Run.isAgg (C m) 230 = some false := by kernel_rfl
theorem sz230 : size (C m) 230 = some 1 := by kernel_rfl
theorem in230 : ((C m).P.info? 230).map (fun t => (t.size, t.bytes)) = some (1, 8) := by kernel_rfl
theorem ag231 : Go.Run.isAgg (C m) 231 = some false := by kernel_rfl
theorem sz231 : size (C m) 231 = some 1 := by kernel_rfl
theorem in231 : ((C m).P.info? 231).map (fun t => (t.size, t.bytes)) = some (1, 8) := by kernel_rfl
theorem ag232 : Go.Run.isAgg (C m) 232 = some true := by kernel_rfl
theorem sz232 : size (C m) 232 = some 2 := by kernel_rfl
theorem in232 : ((C m).P.info? 232).map (fun t => (t.size, t.bytes)) = some (2, 16) := by kernel_rfl
theorem fa232_0 {i o : Nat} : fadO (C m) 232 (P i o) 0 σ = .val (P i (o + 0)) := by kernel_rfl
theorem fa232_1 {i o : Nat} : fadO (C m) 232 (P i o) 1 σ = .val (P i (o + 1)) := by kernel_rfl
theorem ag233 : Go.Run.isAgg (C m) 233 = some true := by kernel_rfl
theorem sz233 : size (C m) 233 = some 2 := by kernel_rfl
theorem in233 : ((C m).P.info? 233).map (fun t => (t.size, t.bytes)) = some (2, 16) := by kernel_rfl
theorem fa233_0 {i o : Nat} : fadO (C m) 233 (P i o) 0 σ = .val (P i (o + 0)) := by kernel_rfl
theorem fa233_1 {i o : Nat} : fadO (C m) 233 (P i o) 1 σ = .val (P i (o + 1)) := by kernel_rfl
theorem ag234 : Go.Run.isAgg (C m) 234 = some false := by kernel_rfl
theorem sz234 : size (C m) 234 = some 1 := by kernel_rfl
theorem in234 : ((C m).P.info? 234).map (fun t => (t.size, t.bytes)) = some (1, 8) := by kernel_rfl
theorem ag235 : Go.Run.isAgg (C m) 235 = some true := by kernel_rfl
theorem sz235 : size (C m) 235 = some 3 := by kernel_rfl
theorem in235 : ((C m).P.info? 235).map (fun t => (t.size, t.bytes)) = some (3, 32) := by kernel_rfl
theorem fa235_0 {i o : Nat} : fadO (C m) 235 (P i o) 0 σ = .val (P i (o + 0)) := by kernel_rfl
theorem fa235_1 {i o : Nat} : fadO (C m) 235 (P i o) 1 σ = .val (P i (o + 2)) := by kernel_rfl
theorem ag236 : Go.Run.isAgg (C m) 236 = some true := by kernel_rfl
theorem sz236 : size (C m) 236 = some 3 := by kernel_rfl
theorem in236 : ((C m).P.info? 236).map (fun t => (t.size, t.bytes)) = some (3, 32) := by kernel_rfl
theorem fa236_0 {i o : Nat} : fadO (C m) 236 (P i o) 0 σ = .val (P i (o + 0)) := by kernel_rfl
theorem fa236_1 {i o : Nat} : fadO (C m) 236 (P i o) 1 σ = .val (P i (o + 2)) := by kernel_rfl
theorem ag237 : Go.Run.isAgg (C m) 237 = some false := by kernel_rfl
theorem sz237 : size (C m) 237 = some 1 := by kernel_rfl
theorem in237 : ((C m).P.info? 237).map (fun t => (t.size, t.bytes)) = some (1, 8) := by kernel_rfl
theorem un238 : und (C m) 238 = some (.pointer 119) := by kernel_rfl
theorem ag238 : Go.Run.isAgg (C m) 238 = some false := by kernel_rfl
theorem sz238 : size (C m) 238 = some 1 := by kernel_rfl
theorem in238 : ((C m).P.info? 238).map (fun t => (t.size, t.bytes)) = some (1, 8) := by kernel_rfl
theorem ag239 : Go.Run.isAgg (C m) 239 = some false := by kernel_rfl
theorem sz239 : size (C m) 239 = some 1 := by kernel_rfl
theorem in239 : ((C m).P.info? 239).map (fun t => (t.size, t.bytes)) = some (1, 8) := by kernel_rfl
theorem un240 : und (C m) 240 = some (.pointer 2) := by kernel_rfl
theorem ag240 : Go.Run.isAgg (C m) 240 = some false := by kernel_rfl
theorem sz240 : size (C m) 240 = some 1 := by kernel_rfl
theorem in240 : ((C m).P.info? 240).map (fun t => (t.size, t.bytes)) = some (1, 8) := by kernel_rfl
theorem ag241 : Go.Run.isAgg (C m) 241 = some false := by kernel_rfl
theorem sz241 : size (C m) 241 = some 1 := by kernel_rfl
theorem in241 : ((C m).P.info? 241).map (fun t => (t.size, t.bytes)) = some (1, 8) := by kernel_rfl
theorem ag242 : Go.Run.isAgg (C m) 242 = some true := by kernel_rfl
theorem sz242 : size (C m) 242 = some 2 := by kernel_rfl
theorem in242 : ((C m).P.info? 242).map (fun t => (t.size, t.bytes)) = some (2, 24) := by kernel_rfl
theorem fa242_0 {i o : Nat} : fadO (C m) 242 (P i o) 0 σ = .val (P i (o + 0)) := by kernel_rfl
theorem fa242_1 {i o : Nat} : fadO (C m) 242 (P i o) 1 σ = .val (P i (o + 1)) := by kernel_rfl
theorem ag243 : Go.Run.isAgg (C m) 243 = some true := by kernel_rfl
theorem sz243 : size (C m) 243 = some 2 := by kernel_rfl
theorem in243 : ((C m).P.info? 243).map (fun t => (t.size, t.bytes)) = some (2, 24) := by kernel_rfl
theorem fa243_0 {i o : Nat} : fadO (C m) 243 (P i o) 0 σ = .val (P i (o + 0)) := by kernel_rfl
theorem fa243_1 {i o : Nat} : fadO (C m) 243 (P i o) 1 σ = .val (P i (o + 1)) := by kernel_rfl
theorem un244 : und (C m) 244 = some (.slice 247) := by kernel_rfl
theorem ag244 : Go.Run.isAgg (C m) 244 = some false := by kernel_rfl
theorem sz244 : size (C m) 244 = some 1 := by kernel_rfl
theorem in244 : ((C m).P.info? 244).map (fun t => (t.size, t.bytes)) = some (1, 24) := by kernel_rfl
theorem ag245 : Go.Run.isAgg (C m) 245 = some true := by kernel_rfl
theorem sz245 : size (C m) 245 = some 2 := by kernel_rfl
theorem in245 : ((C m).P.info? 245).map (fun t => (t.size, t.bytes)) = some (2, 32) := by kernel_rfl
theorem fa245_0 {i o : Nat} : fadO (C m) 245 (P i o) 0 σ = .val (P i (o + 0)) := by kernel_rfl
theorem fa245_1 {i o : Nat} : fadO (C m) 245 (P i o) 1 σ = .val (P i (o + 1)) := by kernel_rfl
theorem ag246 : Go.Run.isAgg (C m) 246 = some true := by kernel_rfl
theorem sz246 : size (C m) 246 = some 4 := by kernel_rfl
theorem in246 : ((C m).P.info? 246).map (fun t => (t.size, t.bytes)) = some (4, 56) := by kernel_rfl
theorem fa246_0 {i o : Nat} : fadO (C m) 246 (P i o) 0 σ = .val (P i (o + 0)) := by kernel_rfl
theorem fa246_1 {i o : Nat} : fadO (C m) 246 (P i o) 1 σ = .val (P i (o + 2)) := by kernel_rfl
theorem fa246_2 {i o : Nat} : fadO (C m) 246 (P i o) 2 σ = .val (P i (o + 3)) := by kernel_rfl
theorem ag247 : Go.Run.isAgg (C m) 247 = some true := by kernel_rfl
theorem sz247 : size (C m) 247 = some 4 := by kernel_rfl
theorem in247 : ((C m).P.info? 247).map (fun t => (t.size, t.bytes)) = some (4, 56) := by kernel_rfl
theorem fa247_0 {i o : Nat} : fadO (C m) 247 (P i o) 0 σ = .val (P i (o + 0)) := by kernel_rfl
theorem fa247_1 {i o : Nat} : fadO (C m) 247 (P i o) 1 σ = .val (P i (o + 2)) := by kernel_rfl
theorem fa247_2 {i o : Nat} : fadO (C m) 247 (P i o) 2 σ = .val (P i (o + 3)) := by kernel_rfl
theorem ag248 : Go.Run.isAgg (C m) 248 = some false := by kernel_rfl
theorem sz248 : size (C m) 248 = some 1 := by kernel_rfl
theorem in248 : ((C m).P.info? 248).map (fun t => (t.size, t.bytes)) = some (1, 8) := by kernel_rfl
theorem ag249 : Go.Run.isAgg (C m) 249 = some false := by kernel_rfl
theorem sz249 : size (C m) 249 = some 1 := by kernel_rfl
theorem in249 : ((C m).P.info? 249).map (fun t => (t.size, t.bytes)) = some (1, 8) := by kernel_rfl
theorem ag250 : Go.Run.isAgg (C m) 250 = some false := by kernel_rfl
theorem sz250 : size (C m) 250 = some 1 := by kernel_rfl
theorem in250 : ((C m).P.info? 250).map (fun t => (t.size, t.bytes)) = some (1, 8) := by kernel_rfl
theorem un251 : und (C m) 251 = some (.slice 254) := by kernel_rfl
theorem ag251 : Go.Run.isAgg (C m) 251 = some false := by kernel_rfl
theorem sz251 : size (C m) 251 = some 1 := by kernel_rfl
theorem in251 : ((C m).P.info? 251).map (fun t => (t.size, t.bytes)) = some (1, 24) := by kernel_rfl
theorem ag252 : Go.Run.isAgg (C m) 252 = some true := by kernel_rfl
theorem sz252 : size (C m) 252 = some 2 := by kernel_rfl
theorem in252 : ((C m).P.info? 252).map (fun t => (t.size, t.bytes)) = some (2, 32) := by kernel_rfl
theorem fa252_0 {i o : Nat} : fadO (C m) 252 (P i o) 0 σ = .val (P i (o + 0)) := by kernel_rfl
theorem fa252_1 {i o : Nat} : fadO (C m) 252 (P i o) 1 σ = .val (P i (o + 1)) := by kernel_rfl
theorem ag253 : Go.Run.isAgg (C m) 253 = some true := by kernel_rfl
theorem sz253 : size (C m) 253 = some 2 := by kernel_rfl
theorem in253 : ((C m).P.info? 253).map (fun t => (t.size, t.bytes)) = some (2, 32) := by kernel_rfl
theorem fa253_0 {i o : Nat} : fadO (C m) 253 (P i o) 0 σ = .val (P i (o + 0)) := by kernel_rfl
theorem fa253_1 {i o : Nat} : fadO (C m) 253 (P i o) 1 σ = .val (P i (o + 1)) := by kernel_rfl
theorem ag254 : Go.Run.isAgg (C m) 254 = some true := by kernel_rfl
theorem sz254 : size (C m) 254 = some 3 := by kernel_rfl
theorem in254 : ((C m).P.info? 254).map (fun t => (t.size, t.bytes)) = some (3, 32) := by kernel_rfl
theorem fa254_0 {i o : Nat} : fadO (C m) 254 (P i o) 0 σ = .val (P i (o + 0)) := by kernel_rfl
theorem fa254_1 {i o : Nat} : fadO (C m) 254 (P i o) 1 σ = .val (P i (o + 1)) := by kernel_rfl
theorem fa254_2 {i o : Nat} : fadO (C m) 254 (P i o) 2 σ = .val (P i (o + 2)) := by kernel_rfl
theorem ag255 : Go.Run.isAgg (C m) 255 = some false := by kernel_rfl
theorem sz255 : size (C m) 255 = some 1 := by kernel_rfl
theorem in255 : ((C m).P.info? 255).map (fun t => (t.size, t.bytes)) = some (1, 8) := by kernel_rfl
theorem ag256 : Go.Run.isAgg (C m) 256 = some true := by kernel_rfl
theorem sz256 : size (C m) 256 = some 2 := by kernel_rfl
theorem in256 : ((C m).P.info? 256).map (fun t => (t.size, t.bytes)) = some (2, 32) := by kernel_rfl
theorem fa256_0 {i o : Nat} : fadO (C m) 256 (P i o) 0 σ = .val (P i (o + 0)) := by kernel_rfl
theorem fa256_1 {i o : Nat} : fadO (C m) 256 (P i o) 1 σ = .val (P i (o + 1)) := by kernel_rfl
theorem un257 : und (C m) 257 = some (.slice 260) := by kernel_rfl
theorem ag257 : Go.Run.isAgg (C m) 257 = some false := by kernel_rfl
theorem sz257 : size (C m) 257 = some 1 := by kernel_rfl
theorem in257 : ((C m).P.info? 257).map (fun t => (t.size, t.bytes)) = some (1, 24) := by kernel_rfl
theorem ag258 : Go.Run.isAgg (C m) 258 = some true := by kernel_rfl
theorem sz258 : size (C m) 258 = some 3 := by kernel_rfl
theorem in258 : ((C m).P.info? 258).map (fun t => (t.size, t.bytes)) = some (3, 56) := by kernel_rfl
theorem fa258_0 {i o : Nat} : fadO (C m) 258 (P i o) 0 σ = .val (P i (o + 0)) := by kernel_rfl
theorem fa258_1 {i o : Nat} : fadO (C m) 258 (P i o) 1 σ = .val (P i (o + 2)) := by kernel_rfl
theorem ag259 : Go.Run.isAgg (C m) 259 = some true := by kernel_rfl
theorem sz259 : size (C m) 259 = some 3 := by kernel_rfl
theorem in259 : ((C m).P.info? 259).map (fun t => (t.size, t.bytes)) = some (3, 56) := by kernel_rfl
theorem fa259_0 {i o : Nat} : fadO (C m) 259 (P i o) 0 σ = .val (P i (o + 0)) := by kernel_rfl
theorem fa259_1 {i o : Nat} : fadO (C m) 259 (P i o) 1 σ = .val (P i (o + 2)) := by kernel_rfl
theorem ag260 : Go.Run.isAgg (C m) 260 = some true := by kernel_rfl
theorem sz260 : size (C m) 260 = some 2 := by kernel_rfl
theorem in260 : ((C m).P.info? 260).map (fun t => (t.size, t.bytes)) = some (2, 24) := by kernel_rfl
theorem fa260_0 {i o : Nat} : fadO (C m) 260 (P i o) 0 σ = .val (P i (o + 0)) := by kernel_rfl
theorem fa260_1 {i o : Nat} : fadO (C m) 260 (P i o) 1 σ = .val (P i (o + 1)) := by kernel_rfl
theorem ag261 : Go.Run.isAgg (C m) 261 = some false := by kernel_rfl
theorem sz261 : size (C m) 261 = some 1 := by kernel_rfl
theorem in261 : ((C m).P.info? 261).map (fun t => (t.size, t.bytes)) = some (1, 8) := by kernel_rfl
theorem un262 : und (C m) 262 = some (.pointer 5) := by kernel_rfl
theorem ag262 : Go.Run.isAgg (C m) 262 = some false := by kernel_rfl
theorem sz262 : size (C m) 262 = some 1 := by kernel_rfl
theorem in262 : ((C m).P.info? 262).map (fun t => (t.size, t.bytes)) = some (1, 8) := by kernel_rfl
theorem ag263 : Go.Run.isAgg (C m) 263 = some false := by kernel_rfl
theorem sz263 : size (C m) 263 = some 1 := by kernel_rfl
theorem in263 : ((C m).P.info? 263).map (fun t => (t.size, t.bytes)) = some (1, 0) := by kernel_rfl
theorem ag264 : Go.Run.isAgg (C m) 264 = some false := by kernel_rfl
theorem sz264 : size (C m) 264 = some 1 := by kernel_rfl
theorem in264 : ((C m).P.info? 264).map (fun t => (t.size, t.bytes)) = some (1, 8) := by kernel_rfl
theorem ag265 : Go.Run.isAgg (C m) 265 = some false := by kernel_rfl
theorem sz265 : size (C m) 265 = some 1 := by kernel_rfl
theorem in265 : ((C m).P.info? 265).map (fun t => (t.size, t.bytes)) = some (1, 8) := by kernel_rfl
theorem ag266 : Go.Run.isAgg (C m) 266 = some false := by kernel_rfl
theorem sz266 : size (C m) 266 = some 1 := by kernel_rfl
theorem in266 : ((C m).P.info? 266).map (fun t => (t.size, t.bytes)) = some (1, 0) := by kernel_rfl
theorem ag267 : Go.Run.isAgg (C m) 267 = some false := by kernel_rfl
theorem sz267 : size (C m) 267 = some 1 := by kernel_rfl
theorem in267 : ((C m).P.info? 267).map (fun t => (t.size, t.bytes)) = some (1, 8) := by kernel_rfl
theorem ag268 : Go.Run.isAgg (C m) 268 = some false := by kernel_rfl
theorem sz268 : size (C m) 268 = some 1 := by kernel_rfl
theorem in268 : ((C m).P.info? 268).map (fun t => (t.size, t.bytes)) = some (1, 8) := by kernel_rfl
theorem ag269 : Go.Run.isAgg (C m) 269 = some false := by kernel_rfl
theorem sz269 : size (C m) 269 = some 1 := by kernel_rfl
theorem in269 : ((C m).P.info? 269).map (fun t => (t.size, t.bytes)) = some (1, 0) := by kernel_rfl
theorem ag270 : Go.Run.isAgg (C m) 270 = some false := by kernel_rfl
theorem sz270 : size (C m) 270 = some 1 := by kernel_rfl
theorem in270 : ((C m).P.info? 270).map (fun t => (t.size, t.bytes)) = some (1, 8) := by kernel_rfl
theorem ag271 : Go.Run.isAgg (C m) 271 = some false := by kernel_rfl
theorem sz271 : size (C m) 271 = some 1 := by kernel_rfl
theorem in271 : ((C m).P.info? 271).map (fun t => (t.size, t.bytes)) = some (1, 0) := by kernel_rfl
theorem ag272 : Go.Run.isAgg (C m) 272 = some false := by kernel_rfl
theorem sz272 : size (C m) 272 = some 1 := by kernel_rfl
theorem in272 : ((C m).P.info? 272).map (fun t => (t.size, t.bytes)) = some (1, 8) := by kernel_rfl
theorem ag273 : Go.Run.isAgg (C m) 273 = some false := by kernel_rfl
theorem sz273 : size (C m) 273 = some 1 := by kernel_rfl
theorem in273 : ((C m).P.info? 273).map (fun t => (t.size, t.bytes)) = some (1, 8) := by kernel_rfl
theorem ag274 : Go.Run.isAgg (C m) 274 = some false := by kernel_rfl
theorem sz274 : size (C m) 274 = some 1 := by kernel_rfl
theorem in274 : ((C m).P.info? 274).map (fun t => (t.size, t.bytes)) = some (1, 8) := by kernel_rfl
theorem ag275 : Go.Run.isAgg (C m) 275 = some true := by kernel_rfl
theorem sz275 : size (C m) 275 = some 5 := by kernel_rfl
theorem in275 : ((C m).P.info? 275).map (fun t => (t.size, t.bytes)) = some (5, 56) := by kernel_rfl
theorem fa275_0 {i o : Nat} : fadO (C m) 275 (P i o) 0 σ = .val (P i (o + 0)) := by kernel_rfl
theorem fa275_1 {i o : Nat} : fadO (C m) 275 (P i o) 1 σ = .val (P i (o + 1)) := by kernel_rfl
theorem fa275_2 {i o : Nat} : fadO (C m) 275 (P i o) 2 σ = .val (P i (o + 2)) := by kernel_rfl
theorem fa275_3 {i o : Nat} : fadO (C m) 275 (P i o) 3 σ = .val (P i (o + 3)) := by kernel_rfl
theorem fa275_4 {i o : Nat} : fadO (C m) 275 (P i o) 4 σ = .val (P i (o + 4)) := by kernel_rfl
theorem ag276 : Go.Run.isAgg (C m) 276 = some true := by kernel_rfl
theorem sz276 : size (C m) 276 = some 5 := by kernel_rfl
theorem in276 : ((C m).P.info? 276).map (fun t => (t.size, t.bytes)) = some (5, 56) := by kernel_rfl
theorem fa276_0 {i o : Nat} : fadO (C m) 276 (P i o) 0 σ = .val (P i (o + 0)) := by kernel_rfl
theorem fa276_1 {i o : Nat} : fadO (C m) 276 (P i o) 1 σ = .val (P i (o + 1)) := by kernel_rfl
theorem fa276_2 {i o : Nat} : fadO (C m) 276 (P i o) 2 σ = .val (P i (o + 2)) := by kernel_rfl
theorem fa276_3 {i o : Nat} : fadO (C m) 276 (P i o) 3 σ = .val (P i (o + 3)) := by kernel_rfl
theorem fa276_4 {i o : Nat} : fadO (C m) 276 (P i o) 4 σ = .val (P i (o + 4)) := by kernel_rfl
theorem ag277 : Go.Run.isAgg (C m) 277 = some false := by kernel_rfl
theorem sz277 : size (C m) 277 = some 1 := by kernel_rfl
theorem in277 : ((C m).P.info? 277).map (fun t => (t.size, t.bytes)) = some (1, 0) := by kernel_rfl
theorem ag278 : Go.Run.isAgg (C m) 278 = some false := by kernel_rfl
theorem sz278 : size (C m) 278 = some 1 := by kernel_rfl
theorem in278 : ((C m).P.info? 278).map (fun t => (t.size, t.bytes)) = some (1, 8) := by kernel_rfl
theorem ag279 : Go.Run.isAgg (C m) 279 = some false := by kernel_rfl
theorem sz279 : size (C m) 279 = some 1 := by kernel_rfl
theorem in279 : ((C m).P.info? 279).map (fun t => (t.size, t.bytes)) = some (1, 8) := by kernel_rfl
theorem ag280 : Go.Run.isAgg (C m) 280 = some false := by kernel_rfl
theorem sz280 : size (C m) 280 = some 1 := by kernel_rfl
theorem in280 : ((C m).P.info? 280).map (fun t => (t.size, t.bytes)) = some (1, 8) := by kernel_rfl
theorem ag281 : Go.Run.isAgg (C m) 281 = some false := by kernel_rfl
theorem sz281 : size (C m) 281 = some 1 := by kernel_rfl
theorem in281 : ((C m).P.info? 281).map (fun t => (t.size, t.bytes)) = some (1, 8) := by kernel_rfl
theorem ag282 : Go.Run.isAgg (C m) 282 = some false := by kernel_rfl
theorem sz282 : size (C m) 282 = some 1 := by kernel_rfl
theorem in282 : ((C m).P.info? 282).map (fun t => (t.size, t.bytes)) = some (1, 8) := by kernel_rfl
theorem ag283 : Go.Run.isAgg (C m) 283 = some false := by kernel_rfl
theorem sz283 : size (C m) 283 = some 1 := by kernel_rfl
theorem in283 : ((C m).P.info? 283).map (fun t => (t.size, t.bytes)) = some (1, 8) := by kernel_rfl
theorem ag284 : Go.Run.isAgg (C m) 284 = some false := by kernel_rfl
theorem sz284 : size (C m) 284 = some 1 := by kernel_rfl
theorem in284 : ((C m).P.info? 284).map (fun t => (t.size, t.bytes)) = some (1, 8) := by kernel_rfl
theorem ag285 : Go.Run.isAgg (C m) 285 = some false := by kernel_rfl
theorem sz285 : size (C m) 285 = some 1 := by kernel_rfl
theorem in285 : ((C m).P.info? 285).map (fun t => (t.size, t.bytes)) = some (1, 8) := by kernel_rfl
theorem un286 : und (C m) 286 = some (.pointer 288) := by kernel_rfl
theorem ag286 : Go.Run.isAgg (C m) 286 = some false := by kernel_rfl
theorem sz286 : size (C m) 286 = some 1 := by kernel_rfl
theorem in286 : ((C m).P.info? 286).map (fun t => (t.size, t.bytes)) = some (1, 8) := by kernel_rfl
theorem ag287 : Go.Run.isAgg (C m) 287 = some true := by kernel_rfl
theorem sz287 : size (C m) 287 = some 2 := by kernel_rfl
theorem in287 : ((C m).P.info? 287).map (fun t => (t.size, t.bytes)) = some (2, 24) := by kernel_rfl
theorem fa287_0 {i o : Nat} : fadO (C m) 287 (P i o) 0 σ = .val (P i (o + 0)) := by kernel_rfl
theorem fa287_1 {i o : Nat} : fadO (C m) 287 (P i o) 1 σ = .val (P i (o + 1)) := by kernel_rfl
theorem ag288 : Go.Run.isAgg (C m) 288 = some true := by kernel_rfl
theorem sz288 : size (C m) 288 = some 2 := by kernel_rfl
theorem in288 : ((C m).P.info? 288).map (fun t => (t.size, t.bytes)) = some (2, 24) := by kernel_rfl
theorem fa288_0 {i o : Nat} : fadO (C m) 288 (P i o) 0 σ = .val (P i (o + 0)) := by kernel_rfl
theorem fa288_1 {i o : Nat} : fadO (C m) 288 (P i o) 1 σ = .val (P i (o + 1)) := by kernel_rfl
theorem ag289 : Go.Run.isAgg (C m) 289 = some false := by kernel_rfl
theorem sz289 : size (C m) 289 = some 1 := by kernel_rfl
theorem in289 : ((C m).P.info? 289).map (fun t => (t.size, t.bytes)) = some (1, 8) := by kernel_rfl
theorem ag290 : Go.Run.isAgg (C m) 290 = some false := by kernel_rfl
theorem sz290 : size (C m) 290 = some 1 := by kernel_rfl
theorem in290 : ((C m).P.info? 290).map (fun t => (t.size, t.bytes)) = some (1, 8) := by kernel_rfl
theorem ag291 : Go.Run.isAgg (C m) 291 = some false := by kernel_rfl
theorem sz291 : size (C m) 291 = some 1 := by kernel_rfl
theorem in291 : ((C m).P.info? 291).map (fun t => (t.size, t.bytes)) = some (1, 8) := by kernel_rfl
theorem un292 : und (C m) 292 = some (.slice 37) := by kernel_rfl
theorem ag292 : Go.Run.isAgg (C m) 292 = some false := by kernel_rfl
theorem sz292 : size (C m) 292 = some 1 := by kernel_rfl
theorem in292 : ((C m).P.info? 292).map (fun t => (t.size, t.bytes)) = some (1, 24) := by kernel_rfl
theorem ag293 : Go.Run.isAgg (C m) 293 = some false := by kernel_rfl
theorem sz293 : size (C m) 293 = some 1 := by kernel_rfl
theorem in293 : ((C m).P.info? 293).map (fun t => (t.size, t.bytes)) = some (1, 0) := by kernel_rfl
theorem ag294 : Go.Run.isAgg (C m) 294 = some false := by kernel_rfl
theorem sz294 : size (C m) 294 = some 1 := by kernel_rfl
theorem in294 : ((C m).P.info? 294).map (fun t => (t.size, t.bytes)) = some (1, 8) := by kernel_rfl
theorem ag295 : Go.Run.isAgg (C m) 295 = some false := by kernel_rfl
theorem sz295 : size (C m) 295 = some 1 := by kernel_rfl
theorem in295 : ((C m).P.info? 295).map (fun t => (t.size, t.bytes)) = some (1, 8) := by kernel_rfl
theorem un296 : und (C m) 296 = some (.pointer 162) := by kernel_rfl
theorem ag296 : Go.Run.isAgg (C m) 296 = some false := by kernel_rfl
theorem sz296 : size (C m) 296 = some 1 := by kernel_rfl
theorem in296 : ((C m).P.info? 296).map (fun t => (t.size, t.bytes)) = some (1, 8) := by kernel_rfl
theorem un297 : und (C m) 297 = some (.pointer 299) := by kernel_rfl
theorem ag297 : Go.Run.isAgg (C m) 297 = some false := by kernel_rfl
theorem sz297 : size (C m) 297 = some 1 := by kernel_rfl
theorem in297 : ((C m).P.info? 297).map (fun t => (t.size, t.bytes)) = some (1, 8) := by kernel_rfl
theorem ag298 : Go.Run.isAgg (C m) 298 = some true := by kernel_rfl
theorem sz298 : size (C m) 298 = some 2 := by kernel_rfl
theorem in298 : ((C m).P.info? 298).map (fun t => (t.size, t.bytes)) = some (2, 24) := by kernel_rfl
theorem fa298_0 {i o : Nat} : fadO (C m) 298 (P i o) 0 σ = .val (P i (o + 0)) := by kernel_rfl
theorem fa298_1 {i o : Nat} : fadO (C m) 298 (P i o) 1 σ = .val (P i (o + 1)) := by kernel_rfl
theorem ag299 : Go.Run.isAgg (C m) 299 = some true := by kernel_rfl
theorem sz299 : size (C m) 299 = some 2 := by kernel_rfl
theorem in299 : ((C m).P.info? 299).map (fun t => (t.size, t.bytes)) = some (2, 24) := by kernel_rfl
theorem fa299_0 {i o : Nat} : fadO (C m) 299 (P i o) 0 σ = .val (P i (o + 0)) := by kernel_rfl
theorem fa299_1 {i o : Nat} : fadO (C m) 299 (P i o) 1 σ = .val (P i (o + 1)) := by kernel_rfl
theorem ag300 : Go.Run.isAgg (C m) 300 = some false := by kernel_rfl
theorem sz300 : size (C m) 300 = some 1 := by kernel_rfl
theorem in300 : ((C m).P.info? 300).map (fun t => (t.size, t.bytes)) = some (1, 8) := by kernel_rfl
theorem ag301 : Go.Run.isAgg (C m) 301 = some false := by kernel_rfl
theorem sz301 : size (C m) 301 = some 1 := by kernel_rfl
theorem in301 : ((C m).P.info? 301).map (fun t => (t.size, t.bytes)) = some (1, 8) := by kernel_rfl
theorem ag302 : Go.Run.isAgg (C m) 302 = some false := by kernel_rfl
theorem sz302 : size (C m) 302 = some 1 := by kernel_rfl
theorem in302 : ((C m).P.info? 302).map (fun t => (t.size, t.bytes)) = some (1, 8) := by kernel_rfl
theorem ag303 : Go.Run.isAgg (C m) 303 = some false := by kernel_rfl
theorem sz303 : size (C m) 303 = some 1 := by kernel_rfl
theorem in303 : ((C m).P.info? 303).map (fun t => (t.size, t.bytes)) = some (1, 8) := by kernel_rfl
theorem ag304 : Go.Run.isAgg (C m) 304 = some false := by kernel_rfl
theorem sz304 : size (C m) 304 = some 1 := by kernel_rfl
theorem in304 : ((C m).P.info? 304).map (fun t => (t.size, t.bytes)) = some (1, 8) := by kernel_rfl
theorem ag305 : Go.Run.isAgg (C m) 305 = some false := by kernel_rfl
theorem sz305 : size (C m) 305 = some 1 := by kernel_rfl
theorem in305 : ((C m).P.info? 305).map (fun t => (t.size, t.bytes)) = some (1, 8) := by kernel_rfl
theorem ag306 : Go.Run.isAgg (C m) 306 = some false := by kernel_rfl
theorem sz306 : size (C m) 306 = some 1 := by kernel_rfl
theorem in306 : ((C m).P.info? 306).map (fun t => (t.size, t.bytes)) = some (1, 8) := by kernel_rfl
theorem ag307 : Go.Run.isAgg (C m) 307 = some false := by kernel_rfl
theorem sz307 : size (C m) 307 = some 1 := by kernel_rfl
theorem in307 : ((C m).P.info? 307).map (fun t => (t.size, t.bytes)) = some (1, 8) := by kernel_rfl
theorem ag308 : Go.Run.isAgg (C m) 308 = some false := by kernel_rfl
theorem sz308 : size (C m) 308 = some 1 := by kernel_rfl
theorem in308 : ((C m).P.info? 308).map (fun t => (t.size, t.bytes)) = some (1, 8) := by kernel_rfl
theorem ag309 : Go.Run.isAgg (C m) 309 = some false := by kernel_rfl
theorem sz309 : size (C m) 309 = some 1 := by kernel_rfl
theorem in309 : ((C m).P.info? 309).map (fun t => (t.size, t.bytes)) = some (1, 8) := by kernel_rfl
theorem ag310 : Go.Run.isAgg (C m) 310 = some false := by kernel_rfl
theorem sz310 : size (C m) 310 = some 1 := by kernel_rfl
theorem in310 : ((C m).P.info? 310).map (fun t => (t.size, t.bytes)) = some (1, 8) := by kernel_rfl
theorem ag311 : Go.Run.isAgg (C m) 311 = some false := by kernel_rfl
theorem sz311 : size (C m) 311 = some 1 := by kernel_rfl
theorem in311 : ((C m).P.info? 311).map (fun t => (t.size, t.bytes)) = some (1, 8) := by kernel_rfl
theorem ag312 : Go.Run.isAgg (C m) 312 = some false := by kernel_rfl
theorem sz312 : size (C m) 312 = some 1 := by kernel_rfl
theorem in312 : ((C m).P.info? 312).map (fun t => (t.size, t.bytes)) = some (1, 8) := by kernel_rfl
theorem ag313 : Go.Run.isAgg (C m) 313 = some false := by kernel_rfl
theorem sz313 : size (C m) 313 = some 1 := by kernel_rfl
theorem in313 : ((C m).P.info? 313).map (fun t => (t.size, t.bytes)) = some (1, 8) := by kernel_rfl
theorem ag314 : Go.Run.isAgg (C m) 314 = some false := by kernel_rfl
theorem sz314 : size (C m) 314 = some 1 := by kernel_rfl
theorem in314 : ((C m).P.info? 314).map (fun t => (t.size, t.bytes)) = some (1, 8) := by kernel_rfl
theorem ag315 : Go.Run.isAgg (C m) 315 = some false := by kernel_rfl
theorem sz315 : size (C m) 315 = some 1 := by kernel_rfl
theorem in315 : ((C m).P.info? 315).map (fun t => (t.size, t.bytes)) = some (1, 8) := by kernel_rfl
theorem ag316 : Go.Run.isAgg (C m) 316 = some false := by kernel_rfl
theorem sz316 : size (C m) 316 = some 1 := by kernel_rfl
theorem in316 : ((C m).P.info? 316).map (fun t => (t.size, t.bytes)) = some (1, 8) := by kernel_rfl
theorem ag317 : Go.Run.isAgg (C m) 317 = some false := by kernel_rfl
theorem sz317 : size (C m) 317 = some 1 := by kernel_rfl
theorem in317 : ((C m).P.info? 317).map (fun t => (t.size, t.bytes)) = some (1, 0) := by kernel_rfl
theorem ag318 : Go.Run.isAgg (C m) 318 = some false := by kernel_rfl
theorem sz318 : size (C m) 318 = some 1 := by kernel_rfl
theorem in318 : ((C m).P.info? 318).map (fun t => (t.size, t.bytes)) = some (1, 8) := by kernel_rfl
theorem un319 : und (C m) 319 = some (.int .u64) := by kernel_rfl
theorem ag319 : Go.Run.isAgg (C m) 319 = some false := by kernel_rfl
theorem sz319 : size (C m) 319 = some 1 := by kernel_rfl
theorem in319 : ((C m).P.info? 319).map (fun t => (t.size, t.bytes)) = some (1, 8) := by kernel_rfl
theorem ag320 : Go.Run.isAgg (C m) 320 = some false := by kernel_rfl
theorem sz320 : size (C m) 320 = some 1 := by kernel_rfl
theorem in320 : ((C m).P.info? 320).map (fun t => (t.size, t.bytes)) = some (1, 8) := by kernel_rfl
theorem ag321 : Go.Run.isAgg (C m) 321 = some false := by kernel_rfl
theorem sz321 : size (C m) 321 = some 1 := by kernel_rfl
theorem in321 : ((C m).P.info? 321).map (fun t => (t.size, t.bytes)) = some (1, 0) := by kernel_rfl
theorem ag322 : Go.Run.isAgg (C m) 322 = some false := by kernel_rfl
theorem sz322 : size (C m) 322 = some 1 := by kernel_rfl
theorem in322 : ((C m).P.info? 322).map (fun t => (t.size, t.bytes)) = some (1, 8) := by kernel_rfl
theorem un323 : und (C m) 323 = some (.slice 383) := by kernel_rfl
theorem ag323 : Go.Run.isAgg (C m) 323 = some false := by kernel_rfl
theorem sz323 : size (C m) 323 = some 1 := by kernel_rfl
theorem in323 : ((C m).P.info? 323).map (fun t => (t.size, t.bytes)) = some (1, 24) := by kernel_rfl
theorem ag324 : Go.Run.isAgg (C m) 324 = some true := by kernel_rfl
theorem sz324 : size (C m) 324 = some 4 := by kernel_rfl
theorem in324 : ((C m).P.info? 324).map (fun t => (t.size, t.bytes)) = some (4, 64) := by kernel_rfl
theorem fa324_0 {i o : Nat} : fadO (C m) 324 (P i o) 0 σ = .val (P i (o + 0)) := by kernel_rfl
theorem fa324_1 {i o : Nat} : fadO (C m) 324 (P i o) 1 σ = .val (P i (o + 1)) := by kernel_rfl
theorem fa324_2 {i o : Nat} : fadO (C m) 324 (P i o) 2 σ = .val (P i (o + 2)) := by kernel_rfl
theorem fa324_3 {i o : Nat} : fadO (C m) 324 (P i o) 3 σ = .val (P i (o + 3)) := by kernel_rfl
theorem ag325 : Go.Run.isAgg (C m) 325 = some true := by kernel_rfl
theorem sz325 : size (C m) 325 = some 4 := by kernel_rfl
theorem in325 : ((C m).P.info? 325).map (fun t => (t.size, t.bytes)) = some (4, 64) := by kernel_rfl
theorem fa325_0 {i o : Nat} : fadO (C m) 325 (P i o) 0 σ = .val (P i (o + 0)) := by kernel_rfl
theorem fa325_1 {i o : Nat} : fadO (C m) 325 (P i o) 1 σ = .val (P i (o + 1)) := by kernel_rfl
theorem fa325_2 {i o : Nat} : fadO (C m) 325 (P i o) 2 σ = .val (P i (o + 2)) := by kernel_rfl
theorem fa325_3 {i o : Nat} : fadO (C m) 325 (P i o) 3 σ = .val (P i (o + 3)) := by kernel_rfl
theorem ag326 : Go.Run.isAgg (C m) 326 = some false := by kernel_rfl
theorem sz326 : size (C m) 326 = some 1 := by kernel_rfl
theorem in326 : ((C m).P.info? 326).map (fun t => (t.size, t.bytes)) = some (1, 0) := by kernel_rfl
theorem ag327 : Go.Run.isAgg (C m) 327 = some false := by kernel_rfl
theorem sz327 : size (C m) 327 = some 1 := by kernel_rfl
theorem in327 : ((C m).P.info? 327).map (fun t => (t.size, t.bytes)) = some (1, 8) := by kernel_rfl
theorem ag328 : Go.Run.isAgg (C m) 328 = some false := by kernel_rfl
theorem sz328 : size (C m) 328 = some 1 := by kernel_rfl
theorem in328 : ((C m).P.info? 328).map (fun t => (t.size, t.bytes)) = some (1, 0) := by kernel_rfl
theorem ag329 : Go.Run.isAgg (C m) 329 = some false := by kernel_rfl
theorem sz329 : size (C m) 329 = some 1 := by kernel_rfl
theorem in329 : ((C m).P.info? 329).map (fun t => (t.size, t.bytes)) = some (1, 8) := by kernel_rfl
theorem ag330 : Go.Run.isAgg (C m) 330 = some false := by kernel_rfl
theorem sz330 : size (C m) 330 = some 1 := by kernel_rfl
theorem in330 : ((C m).P.info? 330).map (fun t => (t.size, t.bytes)) = some (1, 0) := by kernel_rfl
theorem ag331 : Go.Run.isAgg (C m) 331 = some false := by kernel_rfl
theorem sz331 : size (C m) 331 = some 1 := by kernel_rfl
theorem in331 : ((C m).P.info? 331).map (fun t => (t.size, t.bytes)) = some (1, 8) := by kernel_rfl
theorem ag332 : Go.Run.isAgg (C m) 332 = some false := by kernel_rfl
theorem sz332 : size (C m) 332 = some 1 := by kernel_rfl
theorem in332 : ((C m).P.info? 332).map (fun t => (t.size, t.bytes)) = some (1, 8) := by kernel_rfl
theorem ag333 : Go.Run.isAgg (C m) 333 = some false := by kernel_rfl
theorem sz333 : size (C m) 333 = some 1 := by kernel_rfl
theorem in333 : ((C m).P.info? 333).map (fun t => (t.size, t.bytes)) = some (1, 8) := by kernel_rfl
theorem ag334 : Go.Run.isAgg (C m) 334 = some false := by kernel_rfl
theorem sz334 : size (C m) 334 = some 1 := by kernel_rfl
theorem in334 : ((C m).P.info? 334).map (fun t => (t.size, t.bytes)) = some (1, 8) := by kernel_rfl
theorem ag335 : Go.Run.isAgg (C m) 335 = some false := by kernel_rfl
theorem sz335 : size (C m) 335 = some 1 := by kernel_rfl
theorem in335 : ((C m).P.info? 335).map (fun t => (t.size, t.bytes)) = some (1, 0) := by kernel_rfl
theorem ag336 : Go.Run.isAgg (C m) 336 = some false := by kernel_rfl
theorem sz336 : size (C m) 336 = some 1 := by kernel_rfl
theorem in336 : ((C m).P.info? 336).map (fun t => (t.size, t.bytes)) = some (1, 8) := by kernel_rfl
theorem ag337 : Go.Run.isAgg (C m) 337 = some false := by kernel_rfl
theorem sz337 : size (C m) 337 = some 1 := by kernel_rfl
theorem in337 : ((C m).P.info? 337).map (fun t => (t.size, t.bytes)) = some (1, 8) := by kernel_rfl
theorem ag338 : Go.Run.isAgg (C m) 338 = some false := by kernel_rfl
theorem sz338 : size (C m) 338 = some 1 := by kernel_rfl
theorem in338 : ((C m).P.info? 338).map (fun t => (t.size, t.bytes)) = some (1, 8) := by kernel_rfl
theorem ag339 : Go.Run.isAgg (C m) 339 = some false := by kernel_rfl
theorem sz339 : size (C m) 339 = some 1 := by kernel_rfl
theorem in339 : ((C m).P.info? 339).map (fun t => (t.size, t.bytes)) = some (1, 8) := by kernel_rfl
theorem ag340 : Go.Run.isAgg (C m) 340 = some false := by kernel_rfl
theorem sz340 : size (C m) 340 = some 1 := by kernel_rfl
theorem in340 : ((C m).P.info? 340).map (fun t => (t.size, t.bytes)) = some (1, 8) := by kernel_rfl
theorem ag341 : Go.Run.isAgg (C m) 341 = some false := by kernel_rfl
theorem sz341 : size (C m) 341 = some 1 := by kernel_rfl
theorem in341 : ((C m).P.info? 341).map (fun t => (t.size, t.bytes)) = some (1, 8) := by kernel_rfl
theorem ag342 : Go.Run.isAgg (C m) 342 = some false := by kernel_rfl
theorem sz342 : size (C m) 342 = some 1 := by kernel_rfl
theorem in342 : ((C m).P.info? 342).map (fun t => (t.size, t.bytes)) = some (1, 8) := by kernel_rfl
theorem ag343 : Go.Run.isAgg (C m) 343 = some false := by kernel_rfl
theorem sz343 : size (C m) 343 = some 1 := by kernel_rfl
theorem in343 : ((C m).P.info? 343).map (fun t => (t.size, t.bytes)) = some (1, 8) := by kernel_rfl
theorem ag344 : Go.Run.isAgg (C m) 344 = some false := by kernel_rfl
theorem sz344 : size (C m) 344 = some 1 := by kernel_rfl
theorem in344 : ((C m).P.info? 344).map (fun t => (t.size, t.bytes)) = some (1, 8) := by kernel_rfl
theorem ag345 : Go.Run.isAgg (C m) 345 = some false := by kernel_rfl
theorem sz345 : size (C m) 345 = some 1 := by kernel_rfl
theorem in345 : ((C m).P.info? 345).map (fun t => (t.size, t.bytes)) = some (1, 8) := by kernel_rfl
theorem un346 : und (C m) 346 = some (.pointer 405) := by kernel_rfl
theorem ag346 : Go.Run.isAgg (C m) 346 = some false := by kernel_rfl
theorem sz346 : size (C m) 346 = some 1 := by kernel_rfl
theorem in346 : ((C m).P.info? 346).map (fun t => (t.size, t.bytes)) = some (1, 8) := by kernel_rfl
theorem ag347 : Go.Run.isAgg (C m) 347 = some false := by kernel_rfl
theorem sz347 : size (C m) 347 = some 1 := by kernel_rfl
theorem in347 : ((C m).P.info? 347).map (fun t => (t.size, t.bytes)) = some (1, 8) := by kernel_rfl
theorem ag348 : Go.Run.isAgg (C m) 348 = some false := by kernel_rfl
theorem sz348 : size (C m) 348 = some 1 := by kernel_rfl
theorem in348 : ((C m).P.info? 348).map (fun t => (t.size, t.bytes)) = some (1, 8) := by kernel_rfl
theorem ag349 : Go.Run.isAgg (C m) 349 = some false := by kernel_rfl
theorem sz349 : size (C m) 349 = some 1 := by kernel_rfl
theorem in349 : ((C m).P.info? 349).map (fun t => (t.size, t.bytes)) = some (1, 8) := by kernel_rfl
theorem ag350 : Go.Run.isAgg (C m) 350 = some false := by kernel_rfl
theorem sz350 : size (C m) 350 = some 1 := by kernel_rfl
theorem in350 : ((C m).P.info? 350).map (fun t => (t.size, t.bytes)) = some (1, 8) := by kernel_rfl
theorem ag351 : Go.Run.isAgg (C m) 351 = some false := by kernel_rfl
theorem sz351 : size (C m) 351 = some 1 := by kernel_rfl
theorem in351 : ((C m).P.info? 351).map (fun t => (t.size, t.bytes)) = some (1, 8) := by kernel_rfl
theorem ag352 : Go.Run.isAgg (C m) 352 = some false := by kernel_rfl
theorem sz352 : size (C m) 352 = some 1 := by kernel_rfl
theorem in352 : ((C m).P.info? 352).map (fun t => (t.size, t.bytes)) = some (1, 8) := by kernel_rfl
theorem ag353 : Go.Run.isAgg (C m) 353 = some false := by kernel_rfl
theorem sz353 : size (C m) 353 = some 1 := by kernel_rfl
theorem in353 : ((C m).P.info? 353).map (fun t => (t.size, t.bytes)) = some (1, 8) := by kernel_rfl
theorem ag354 : Go.Run.isAgg (C m) 354 = some false := by kernel_rfl
theorem sz354 : size (C m) 354 = some 1 := by kernel_rfl
theorem in354 : ((C m).P.info? 354).map (fun t => (t.size, t.bytes)) = some (1, 8) := by kernel_rfl
theorem ag355 : Go.Run.isAgg (C m) 355 = some false := by kernel_rfl
theorem sz355 : size (C m) 355 = some 1 := by kernel_rfl
theorem in355 : ((C m).P.info? 355).map (fun t => (t.size, t.bytes)) = some (1, 8) := by kernel_rfl
theorem ag356 : Go.Run.isAgg (C m) 356 = some false := by kernel_rfl
theorem sz356 : size (C m) 356 = some 1 := by kernel_rfl
theorem in356 : ((C m).P.info? 356).map (fun t => (t.size, t.bytes)) = some (1, 8) := by kernel_rfl
theorem ag357 : Go.Run.isAgg (C m) 357 = some false := by kernel_rfl
theorem sz357 : size (C m) 357 = some 1 := by kernel_rfl
theorem in357 : ((C m).P.info? 357).map (fun t => (t.size, t.bytes)) = some (1, 0) := by kernel_rfl
theorem ag358 : Go.Run.isAgg (C m) 358 = some false := by kernel_rfl
theorem sz358 : size (C m) 358 = some 1 := by kernel_rfl
theorem in358 : ((C m).P.info? 358).map (fun t => (t.size, t.bytes)) = some (1, 8) := by kernel_rfl
theorem ag359 : Go.Run.isAgg (C m) 359 = some false := by kernel_rfl
theorem sz359 : size (C m) 359 = some 1 := by kernel_rfl
theorem in359 : ((C m).P.info? 359).map (fun t => (t.size, t.bytes)) = some (1, 8) := by kernel_rfl
theorem ag360 : Go.Run.isAgg (C m) 360 = some false := by kernel_rfl
theorem sz360 : size (C m) 360 = some 1 := by kernel_rfl
theorem in360 : ((C m).P.info? 360).map (fun t => (t.size, t.bytes)) = some (1, 8) := by kernel_rfl
theorem un361 : und (C m) 361 = some (.pointer 156) := by kernel_rfl
theorem ag361 : Go.Run.isAgg (C m) 361 = some false := by kernel_rfl
theorem sz361 : size (C m) 361 = some 1 := by kernel_rfl
theorem in361 : ((C m).P.info? 361).map (fun t => (t.size, t.bytes)) = some (1, 8) := by kernel_rfl
theorem ag362 : Go.Run.isAgg (C m) 362 = some false := by kernel_rfl
theorem sz362 : size (C m) 362 = some 1 := by kernel_rfl
theorem in362 : ((C m).P.info? 362).map (fun t => (t.size, t.bytes)) = some (1, 8) := by kernel_rfl
theorem un363 : und (C m) 363 = some (.pointer 154) := by kernel_rfl
theorem ag363 : Go.Run.isAgg (C m) 363 = some false := by kernel_rfl
theorem sz363 : size (C m) 363 = some 1 := by kernel_rfl
theorem in363 : ((C m).P.info? 363).map (fun t => (t.size, t.bytes)) = some (1, 8) := by kernel_rfl
theorem un364 : und (C m) 364 = some (.pointer 253) := by kernel_rfl
theorem ag364 : Go.Run.isAgg (C m) 364 = some false := by kernel_rfl
theorem sz364 : size (C m) 364 = some 1 := by kernel_rfl
theorem in364 : ((C m).P.info? 364).map (fun t => (t.size, t.bytes)) = some (1, 8) := by kernel_rfl
theorem ag365 : Go.Run.isAgg (C m) 365 = some false := by kernel_rfl
theorem sz365 : size (C m) 365 = some 1 := by kernel_rfl
theorem in365 : ((C m).P.info? 365).map (fun t => (t.size, t.bytes)) = some (1, 0) := by kernel_rfl
theorem ag366 : Go.Run.isAgg (C m) 366 = some false := by kernel_rfl
theorem sz366 : size (C m) 366 = some 1 := by kernel_rfl
theorem in366 : ((C m).P.info? 366).map (fun t => (t.size, t.bytes)) = some (1, 8) := by kernel_rfl
theorem un367 : und (C m) 367 = some (.pointer 259) := by kernel_rfl
theorem ag367 : Go.Run.isAgg (C m) 367 = some false := by kernel_rfl
theorem sz367 : size (C m) 367 = some 1 := by kernel_rfl
theorem in367 : ((C m).P.info? 367).map (fun t => (t.size, t.bytes)) = some (1, 8) := by kernel_rfl
theorem ag368 : Go.Run.isAgg (C m) 368 = some false := by kernel_rfl
theorem sz368 : size (C m) 368 = some 1 := by kernel_rfl
theorem in368 : ((C m).P.info? 368).map (fun t => (t.size, t.bytes)) = some (1, 8) := by kernel_rfl
theorem ag369 : Go.Run.isAgg (C m) 369 = some false := by kernel_rfl
theorem sz369 : size (C m) 369 = some 1 := by kernel_rfl
theorem in369 : ((C m).P.info? 369).map (fun t => (t.size, t.bytes)) = some (1, 8) := by kernel_rfl
theorem ag370 : Go.Run.isAgg (C m) 370 = some false := by kernel_rfl
theorem sz370 : size (C m) 370 = some 1 := by kernel_rfl
theorem in370 : ((C m).P.info? 370).map (fun t => (t.size, t.bytes)) = some (1, 8) := by kernel_rfl
theorem ag371 : Go.Run.isAgg (C m) 371 = some false := by kernel_rfl
theorem sz371 : size (C m) 371 = some 1 := by kernel_rfl
theorem in371 : ((C m).P.info? 371).map (fun t => (t.size, t.bytes)) = some (1, 8) := by kernel_rfl
theorem ag372 : Go.Run.isAgg (C m) 372 = some false := by kernel_rfl
theorem sz372 : size (C m) 372 = some 1 := by kernel_rfl
theorem in372 : ((C m).P.info? 372).map (fun t => (t.size, t.bytes)) = some (1, 8) := by kernel_rfl
theorem ag373 : Go.Run.isAgg (C m) 373 = some false := by kernel_rfl
theorem sz373 : size (C m) 373 = some 1 := by kernel_rfl
theorem in373 : ((C m).P.info? 373).map (fun t => (t.size, t.bytes)) = some (1, 8) := by kernel_rfl
theorem ag374 : Go.Run.isAgg (C m) 374 = some false := by kernel_rfl
theorem sz374 : size (C m) 374 = some 1 := by kernel_rfl
theorem in374 : ((C m).P.info? 374).map (fun t => (t.size, t.bytes)) = some (1, 8) := by kernel_rfl
theorem ag375 : Go.Run.isAgg (C m) 375 = some false := by kernel_rfl
theorem sz375 : size (C m) 375 = some 1 := by kernel_rfl
theorem in375 : ((C m).P.info? 375).map (fun t => (t.size, t.bytes)) = some (1, 8) := by kernel_rfl
theorem ag376 : Go.Run.isAgg (C m) 376 = some false := by kernel_rfl
theorem sz376 : size (C m) 376 = some 1 := by kernel_rfl
theorem in376 : ((C m).P.info? 376).map (fun t => (t.size, t.bytes)) = some (1, 8) := by kernel_rfl
theorem ag377 : Go.Run.isAgg (C m) 377 = some false := by kernel_rfl
theorem sz377 : size (C m) 377 = some 1 := by kernel_rfl
theorem in377 : ((C m).P.info? 377).map (fun t => (t.size, t.bytes)) = some (1, 8) := by kernel_rfl
theorem ag378 : Go.Run.isAgg (C m) 378 = some false := by kernel_rfl
theorem sz378 : size (C m) 378 = some 1 := by kernel_rfl
theorem in378 : ((C m).P.info? 378).map (fun t => (t.size, t.bytes)) = some (1, 8) := by kernel_rfl
theorem ag379 : Go.Run.isAgg (C m) 379 = some false := by kernel_rfl
theorem sz379 : size (C m) 379 = some 1 := by kernel_rfl
theorem in379 : ((C m).P.info? 379).map (fun t => (t.size, t.bytes)) = some (1, 8) := by kernel_rfl
theorem ag380 : Go.Run.isAgg (C m) 380 = some false := by kernel_rfl
theorem sz380 : size (C m) 380 = some 1 := by kernel_rfl
theorem in380 : ((C m).P.info? 380).map (fun t => (t.size, t.bytes)) = some (1, 0) := by kernel_rfl
theorem ag381 : Go.Run.isAgg (C m) 381 = some false := by kernel_rfl
theorem sz381 : size (C m) 381 = some 1 := by kernel_rfl
theorem in381 : ((C m).P.info? 381).map (fun t => (t.size, t.bytes)) = some (1, 8) := by kernel_rfl
theorem ag382 : Go.Run.isAgg (C m) 382 = some true := by kernel_rfl
theorem sz382 : size (C m) 382 = some 2 := by kernel_rfl
theorem in382 : ((C m).P.info? 382).map (fun t => (t.size, t.bytes)) = some (2, 16) := by kernel_rfl
theorem fa382_0 {i o : Nat} : fadO (C m) 382 (P i o) 0 σ = .val (P i (o + 0)) := by kernel_rfl
theorem fa382_1 {i o : Nat} : fadO (C m) 382 (P i o) 1 σ = .val (P i (o + 1)) := by kernel_rfl
theorem ag383 : Go.Run.isAgg (C m) 383 = some true := by kernel_rfl
theorem sz383 : size (C m) 383 = some 2 := by kernel_rfl
theorem in383 : ((C m).P.info? 383).map (fun t => (t.size, t.bytes)) = some (2, 16) := by kernel_rfl
theorem fa383_0 {i o : Nat} : fadO (C m) 383 (P i o) 0 σ = .val (P i (o + 0)) := by kernel_rfl
theorem fa383_1 {i o : Nat} : fadO (C m) 383 (P i o) 1 σ = .val (P i (o + 1)) := by kernel_rfl
theorem ag384 : Go.Run.isAgg (C m) 384 = some true := by kernel_rfl
theorem sz384 : size (C m) 384 = some 9 := by kernel_rfl
theorem in384 : ((C m).P.info? 384).map (fun t => (t.size, t.bytes)) = some (9, 96) := by kernel_rfl
theorem fa384_0 {i o : Nat} : fadO (C m) 384 (P i o) 0 σ = .val (P i (o + 0)) := by kernel_rfl
theorem fa384_1 {i o : Nat} : fadO (C m) 384 (P i o) 1 σ = .val (P i (o + 1)) := by kernel_rfl
theorem fa384_2 {i o : Nat} : fadO (C m) 384 (P i o) 2 σ = .val (P i (o + 2)) := by kernel_rfl
theorem fa384_3 {i o : Nat} : fadO (C m) 384 (P i o) 3 σ = .val (P i (o + 3)) := by kernel_rfl
theorem fa384_4 {i o : Nat} : fadO (C m) 384 (P i o) 4 σ = .val (P i (o + 4)) := by kernel_rfl
theorem fa384_5 {i o : Nat} : fadO (C m) 384 (P i o) 5 σ = .val (P i (o + 5)) := by kernel_rfl
theorem fa384_6 {i o : Nat} : fadO (C m) 384 (P i o) 6 σ = .val (P i (o + 6)) := by kernel_rfl
theorem fa384_7 {i o : Nat} : fadO (C m) 384 (P i o) 7 σ = .val (P i (o + 7)) := by kernel_rfl
theorem fa384_8 {i o : Nat} : fadO (C m) 384 (P i o) 8 σ = .val (P i (o + 8)) := by kernel_rfl
theorem ag385 : Go.Run.isAgg (C m) 385 = some true := by kernel_rfl
theorem sz385 : size (C m) 385 = some 9 := by kernel_rfl
theorem in385 : ((C m).P.info? 385).map (fun t => (t.size, t.bytes)) = some (9, 96) := by kernel_rfl
theorem fa385_0 {i o : Nat} : fadO (C m) 385 (P i o) 0 σ = .val (P i (o + 0)) := by kernel_rfl
theorem fa385_1 {i o : Nat} : fadO (C m) 385 (P i o) 1 σ = .val (P i (o + 1)) := by kernel_rfl
theorem fa385_2 {i o : Nat} : fadO (C m) 385 (P i o) 2 σ = .val (P i (o + 2)) := by kernel_rfl
theorem fa385_3 {i o : Nat} : fadO (C m) 385 (P i o) 3 σ = .val (P i (o + 3)) := by kernel_rfl
theorem fa385_4 {i o : Nat} : fadO (C m) 385 (P i o) 4 σ = .val (P i (o + 4)) := by kernel_rfl
theorem fa385_5 {i o : Nat} : fadO (C m) 385 (P i o) 5 σ = .val (P i (o + 5)) := by kernel_rfl
theorem fa385_6 {i o : Nat} : fadO (C m) 385 (P i o) 6 σ = .val (P i (o + 6)) := by kernel_rfl
theorem fa385_7 {i o : Nat} : fadO (C m) 385 (P i o) 7 σ = .val (P i (o + 7)) := by kernel_rfl
theorem fa385_8 {i o : Nat} : fadO (C m) 385 (P i o) 8 σ = .val (P i (o + 8)) := by kernel_rfl
theorem ag386 : Go.Run.isAgg (C m) 386 = some false := by kernel_rfl
theorem sz386 : size (C m) 386 = some 1 := by kernel_rfl
theorem in386 : ((C m).P.info? 386).map (fun t => (t.size, t.bytes)) = some (1, 0) := by kernel_rfl
theorem ag387 : Go.Run.isAgg (C m) 387 = some false := by kernel_rfl
theorem sz387 : size (C m) 387 = some 1 := by kernel_rfl
theorem in387 : ((C m).P.info? 387).map (fun t => (t.size, t.bytes)) = some (1, 8) := by kernel_rfl
theorem un388 : und (C m) 388 = some (.slice 433) := by kernel_rfl
theorem ag388 : Go.Run.isAgg (C m) 388 = some false := by kernel_rfl
theorem sz388 : size (C m) 388 = some 1 := by kernel_rfl
theorem in388 : ((C m).P.info? 388).map (fun t => (t.size, t.bytes)) = some (1, 24) := by kernel_rfl
theorem ag389 : Go.Run.isAgg (C m) 389 = some true := by kernel_rfl
theorem sz389 : size (C m) 389 = some 7 := by kernel_rfl
theorem in389 : ((C m).P.info? 389).map (fun t => (t.size, t.bytes)) = some (7, 88) := by kernel_rfl
theorem fa389_0 {i o : Nat} : fadO (C m) 389 (P i o) 0 σ = .val (P i (o + 0)) := by kernel_rfl
theorem fa389_1 {i o : Nat} : fadO (C m) 389 (P i o) 1 σ = .val (P i (o + 1)) := by kernel_rfl
theorem fa389_2 {i o : Nat} : fadO (C m) 389 (P i o) 2 σ = .val (P i (o + 2)) := by kernel_rfl
theorem fa389_3 {i o : Nat} : fadO (C m) 389 (P i o) 3 σ = .val (P i (o + 3)) := by kernel_rfl
theorem fa389_4 {i o : Nat} : fadO (C m) 389 (P i o) 4 σ = .val (P i (o + 4)) := by kernel_rfl
theorem fa389_5 {i o : Nat} : fadO (C m) 389 (P i o) 5 σ = .val (P i (o + 5)) := by kernel_rfl
theorem fa389_6 {i o : Nat} : fadO (C m) 389 (P i o) 6 σ = .val (P i (o + 6)) := by kernel_rfl
theorem ag390 : Go.Run.isAgg (C m) 390 = some true := by kernel_rfl
theorem sz390 : size (C m) 390 = some 7 := by kernel_rfl
theorem in390 : ((C m).P.info? 390).map (fun t => (t.size, t.bytes)) = some (7, 88) := by kernel_rfl
theorem fa390_0 {i o : Nat} : fadO (C m) 390 (P i o) 0 σ = .val (P i (o + 0)) := by kernel_rfl
theorem fa390_1 {i o : Nat} : fadO (C m) 390 (P i o) 1 σ = .val (P i (o + 1)) := by kernel_rfl
theorem fa390_2 {i o : Nat} : fadO (C m) 390 (P i o) 2 σ = .val (P i (o + 2)) := by kernel_rfl
theorem fa390_3 {i o : Nat} : fadO (C m) 390 (P i o) 3 σ = .val (P i (o + 3)) := by kernel_rfl
theorem fa390_4 {i o : Nat} : fadO (C m) 390 (P i o) 4 σ = .val (P i (o + 4)) := by kernel_rfl
theorem fa390_5 {i o : Nat} : fadO (C m) 390 (P i o) 5 σ = .val (P i (o + 5)) := by kernel_rfl
theorem fa390_6 {i o : Nat} : fadO (C m) 390 (P i o) 6 σ = .val (P i (o + 6)) := by kernel_rfl
theorem ag391 : Go.Run.isAgg (C m) 391 = some false := by kernel_rfl
theorem sz391 : size (C m) 391 = some 1 := by kernel_rfl
theorem in391 : ((C m).P.info? 391).map (fun t => (t.size, t.bytes)) = some (1, 0) := by kernel_rfl
theorem ag392 : Go.Run.isAgg (C m) 392 = some false := by kernel_rfl
theorem sz392 : size (C m) 392 = some 1 := by kernel_rfl
theorem in392 : ((C m).P.info? 392).map (fun t => (t.size, t.bytes)) = some (1, 8) := by kernel_rfl
theorem ag393 : Go.Run.isAgg (C m) 393 = some false := by kernel_rfl
theorem sz393 : size (C m) 393 = some 1 := by kernel_rfl
theorem in393 : ((C m).P.info? 393).map (fun t => (t.size, t.bytes)) = some (1, 8) := by kernel_rfl
theorem ag394 : Go.Run.isAgg (C m) 394 = some false := by kernel_rfl
theorem sz394 : size (C m) 394 = some 1 := by kernel_rfl
theorem in394 : ((C m).P.info? 394).map (fun t => (t.size, t.bytes)) = some (1, 8) := by kernel_rfl
theorem ag395 : Go.Run.isAgg (C m) 395 = some false := by kernel_rfl
theorem sz395 : size (C m) 395 = some 1 := by kernel_rfl
theorem in395 : ((C m).P.info? 395).map (fun t => (t.size, t.bytes)) = some (1, 8) := by kernel_rfl
theorem ag396 : Go.Run.isAgg (C m) 396 = some false := by kernel_rfl
theorem sz396 : size (C m) 396 = some 1 := by kernel_rfl
theorem in396 : ((C m).P.info? 396).map (fun t => (t.size, t.bytes)) = some (1, 8) := by kernel_rfl
theorem ag397 : Go.Run.isAgg (C m) 397 = some false := by kernel_rfl
theorem sz397 : size (C m) 397 = some 1 := by kernel_rfl
theorem in397 : ((C m).P.info? 397).map (fun t => (t.size, t.bytes)) = some (1, 8) := by kernel_rfl
theorem ag398 : Go.Run.isAgg (C m) 398 = some false := by kernel_rfl
theorem sz398 : size (C m) 398 = some 1 := by kernel_rfl
theorem in398 : ((C m).P.info? 398).map (fun t => (t.size, t.bytes)) = some (1, 8) := by kernel_rfl
theorem ag399 : Go.Run.isAgg (C m) 399 = some false := by kernel_rfl
theorem sz399 : size (C m) 399 = some 1 := by kernel_rfl
theorem in399 : ((C m).P.info? 399).map (fun t => (t.size, t.bytes)) = some (1, 0) := by kernel_rfl
theorem ag400 : Go.Run.isAgg (C m) 400 = some false := by kernel_rfl
theorem sz400 : size (C m) 400 = some 1 := by kernel_rfl
theorem in400 : ((C m).P.info? 400).map (fun t => (t.size, t.bytes)) = some (1, 8) := by kernel_rfl
theorem ag401 : Go.Run.isAgg (C m) 401 = some false := by kernel_rfl
theorem sz401 : size (C m) 401 = some 1 := by kernel_rfl
theorem in401 : ((C m).P.info? 401).map (fun t => (t.size, t.bytes)) = some (1, 8) := by kernel_rfl
theorem ag402 : Go.Run.isAgg (C m) 402 = some false := by kernel_rfl
theorem sz402 : size (C m) 402 = some 1 := by kernel_rfl
theorem in402 : ((C m).P.info? 402).map (fun t => (t.size, t.bytes)) = some (1, 0) := by kernel_rfl
theorem un403 : und (C m) 403 = some (.map 9 3) := by kernel_rfl
theorem ag403 : Go.Run.isAgg (C m) 403 = some false := by kernel_rfl
theorem sz403 : size (C m) 403 = some 1 := by kernel_rfl
theorem in403 : ((C m).P.info? 403).map (fun t => (t.size, t.bytes)) = some (1, 8) := by kernel_rfl
theorem ag404 : Go.Run.isAgg (C m) 404 = some true := by kernel_rfl
theorem sz404 : size (C m) 404 = some 3 := by kernel_rfl
theorem in404 : ((C m).P.info? 404).map (fun t => (t.size, t.bytes)) = some (3, 40) := by kernel_rfl
theorem fa404_0 {i o : Nat} : fadO (C m) 404 (P i o) 0 σ = .val (P i (o + 0)) := by kernel_rfl
theorem fa404_1 {i o : Nat} : fadO (C m) 404 (P i o) 1 σ = .val (P i (o + 1)) := by kernel_rfl
theorem fa404_2 {i o : Nat} : fadO (C m) 404 (P i o) 2 σ = .val (P i (o + 2)) := by kernel_rfl
theorem ag405 : Go.Run.isAgg (C m) 405 = some true := by kernel_rfl
theorem sz405 : size (C m) 405 = some 3 := by kernel_rfl
theorem in405 : ((C m).P.info? 405).map (fun t => (t.size, t.bytes)) = some (3, 40) := by kernel_rfl
theorem fa405_0 {i o : Nat} : fadO (C m) 405 (P i o) 0 σ = .val (P i (o + 0)) := by kernel_rfl
theorem fa405_1 {i o : Nat} : fadO (C m) 405 (P i o) 1 σ = .val (P i (o + 1)) := by kernel_rfl
theorem fa405_2 {i o : Nat} : fadO (C m) 405 (P i o) 2 σ = .val (P i (o + 2)) := by kernel_rfl
theorem ag406 : Go.Run.isAgg (C m) 406 = some false := by kernel_rfl
theorem sz406 : size (C m) 406 = some 1 := by kernel_rfl
theorem in406 : ((C m).P.info? 406).map (fun t => (t.size, t.bytes)) = some (1, 8) := by kernel_rfl
theorem ag407 : Go.Run.isAgg (C m) 407 = some false := by kernel_rfl
theorem sz407 : size (C m) 407 = some 1 := by kernel_rfl
theorem in407 : ((C m).P.info? 407).map (fun t => (t.size, t.bytes)) = some (1, 8) := by kernel_rfl
theorem ag408 : Go.Run.isAgg (C m) 408 = some false := by kernel_rfl
theorem sz408 : size (C m) 408 = some 1 := by kernel_rfl
theorem in408 : ((C m).P.info? 408).map (fun t => (t.size, t.bytes)) = some (1, 8) := by kernel_rfl
theorem ag409 : Go.Run.isAgg (C m) 409 = some false := by kernel_rfl
theorem sz409 : size (C m) 409 = some 1 := by kernel_rfl
theorem in409 : ((C m).P.info? 409).map (fun t => (t.size, t.bytes)) = some (1, 8) := by kernel_rfl
theorem ag410 : Go.Run.isAgg (C m) 410 = some false := by kernel_rfl
theorem sz410 : size (C m) 410 = some 1 := by kernel_rfl
theorem in410 : ((C m).P.info? 410).map (fun t => (t.size, t.bytes)) = some (1, 8) := by kernel_rfl
theorem ag411 : Go.Run.isAgg (C m) 411 = some false := by kernel_rfl
theorem sz411 : size (C m) 411 = some 1 := by kernel_rfl
theorem in411 : ((C m).P.info? 411).map (fun t => (t.size, t.bytes)) = some (1, 8) := by kernel_rfl
theorem ag412 : Go.Run.isAgg (C m) 412 = some false := by kernel_rfl
theorem sz412 : size (C m) 412 = some 1 := by kernel_rfl
theorem in412 : ((C m).P.info? 412).map (fun t => (t.size, t.bytes)) = some (1, 8) := by kernel_rfl
theorem ag413 : Go.Run.isAgg (C m) 413 = some false := by kernel_rfl
theorem sz413 : size (C m) 413 = some 1 := by kernel_rfl
theorem in413 : ((C m).P.info? 413).map (fun t => (t.size, t.bytes)) = some (1, 8) := by kernel_rfl
theorem ag414 : Go.Run.isAgg (C m) 414 = some false := by kernel_rfl
theorem sz414 : size (C m) 414 = some 1 := by kernel_rfl
theorem in414 : ((C m).P.info? 414).map (fun t => (t.size, t.bytes)) = some (1, 8) := by kernel_rfl
theorem ag415 : Go.Run.isAgg (C m) 415 = some false := by kernel_rfl
theorem sz415 : size (C m) 415 = some 1 := by kernel_rfl
theorem in415 : ((C m).P.info? 415).map (fun t => (t.size, t.bytes)) = some (1, 8) := by kernel_rfl
theorem ag416 : Go.Run.isAgg (C m) 416 = some false := by kernel_rfl
theorem sz416 : size (C m) 416 = some 1 := by kernel_rfl
theorem in416 : ((C m).P.info? 416).map (fun t => (t.size, t.bytes)) = some (1, 8) := by kernel_rfl
theorem ag417 : Go.Run.isAgg (C m) 417 = some false := by kernel_rfl
theorem sz417 : size (C m) 417 = some 1 := by kernel_rfl
theorem in417 : ((C m).P.info? 417).map (fun t => (t.size, t.bytes)) = some (1, 8) := by kernel_rfl
theorem ag418 : Go.Run.isAgg (C m) 418 = some false := by kernel_rfl
theorem sz418 : size (C m) 418 = some 1 := by kernel_rfl
theorem in418 : ((C m).P.info? 418).map (fun t => (t.size, t.bytes)) = some (1, 8) := by kernel_rfl
theorem ag419 : Go.Run.isAgg (C m) 419 = some false := by kernel_rfl
theorem sz419 : size (C m) 419 = some 1 := by kernel_rfl
theorem in419 : ((C m).P.info? 419).map (fun t => (t.size, t.bytes)) = some (1, 8) := by kernel_rfl
theorem un420 : und (C m) 420 = some (.pointer 160) := by kernel_rfl
theorem ag420 : Go.Run.isAgg (C m) 420 = some false := by kernel_rfl
theorem sz420 : size (C m) 420 = some 1 := by kernel_rfl
theorem in420 : ((C m).P.info? 420).map (fun t => (t.size, t.bytes)) = some (1, 8) := by kernel_rfl
theorem ag421 : Go.Run.isAgg (C m) 421 = some false := by kernel_rfl
theorem sz421 : size (C m) 421 = some 1 := by kernel_rfl
theorem in421 : ((C m).P.info? 421).map (fun t => (t.size, t.bytes)) = some (1, 8) := by kernel_rfl
theorem ag422 : Go.Run.isAgg (C m) 422 = some false := by kernel_rfl
theorem sz422 : size (C m) 422 = some 1 := by kernel_rfl
theorem in422 : ((C m).P.info? 422).map (fun t => (t.size, t.bytes)) = some (1, 8) := by kernel_rfl
theorem ag423 : Go.Run.isAgg (C m) 423 = some false := by kernel_rfl
theorem sz423 : size (C m) 423 = some 1 := by kernel_rfl
theorem in423 : ((C m).P.info? 423).map (fun t => (t.size, t.bytes)) = some (1, 8) := by kernel_rfl
theorem ag424 : Go.Run.isAgg (C m) 424 = some false := by kernel_rfl
theorem sz424 : size (C m) 424 = some 1 := by kernel_rfl
theorem in424 : ((C m).P.info? 424).map (fun t => (t.size, t.bytes)) = some (1, 8) := by kernel_rfl
theorem ag425 : Go.Run.isAgg (C m) 425 = some false := by kernel_rfl
theorem sz425 : size (C m) 425 = some 1 := by kernel_rfl
theorem in425 : ((C m).P.info? 425).map (fun t => (t.size, t.bytes)) = some (1, 8) := by kernel_rfl
theorem ag426 : Go.Run.isAgg (C m) 426 = some false := by kernel_rfl
theorem sz426 : size (C m) 426 = some 1 := by kernel_rfl
theorem in426 : ((C m).P.info? 426).map (fun t => (t.size, t.bytes)) = some (1, 8) := by kernel_rfl
theorem ag427 : Go.Run.isAgg (C m) 427 = some false := by kernel_rfl
theorem sz427 : size (C m) 427 = some 1 := by kernel_rfl
theorem in427 : ((C m).P.info? 427).map (fun t => (t.size, t.bytes)) = some (1, 8) := by kernel_rfl
theorem ag428 : Go.Run.isAgg (C m) 428 = some false := by kernel_rfl
theorem sz428 : size (C m) 428 = some 1 := by kernel_rfl
theorem in428 : ((C m).P.info? 428).map (fun t => (t.size, t.bytes)) = some (1, 8) := by kernel_rfl
theorem ag429 : Go.Run.isAgg (C m) 429 = some false := by kernel_rfl
theorem sz429 : size (C m) 429 = some 1 := by kernel_rfl
theorem in429 : ((C m).P.info? 429).map (fun t => (t.size, t.bytes)) = some (1, 8) := by kernel_rfl
theorem ag430 : Go.Run.isAgg (C m) 430 = some false := by kernel_rfl
theorem sz430 : size (C m) 430 = some 1 := by kernel_rfl
theorem in430 : ((C m).P.info? 430).map (fun t => (t.size, t.bytes)) = some (1, 8) := by kernel_rfl
theorem ag431 : Go.Run.isAgg (C m) 431 = some false := by kernel_rfl
theorem sz431 : size (C m) 431 = some 1 := by kernel_rfl
theorem in431 : ((C m).P.info? 431).map (fun t => (t.size, t.bytes)) = some (1, 8) := by kernel_rfl
theorem ag432 : Go.Run.isAgg (C m) 432 = some true := by kernel_rfl
theorem sz432 : size (C m) 432 = some 2 := by kernel_rfl
theorem in432 : ((C m).P.info? 432).map (fun t => (t.size, t.bytes)) = some (2, 24) := by kernel_rfl
theorem fa432_0 {i o : Nat} : fadO (C m) 432 (P i o) 0 σ = .val (P i (o + 0)) := by kernel_rfl
theorem fa432_1 {i o : Nat} : fadO (C m) 432 (P i o) 1 σ = .val (P i (o + 1)) := by kernel_rfl
theorem ag433 : Go.Run.isAgg (C m) 433 = some true := by kernel_rfl
theorem sz433 : size (C m) 433 = some 2 := by kernel_rfl
theorem in433 : ((C m).P.info? 433).map (fun t => (t.size, t.bytes)) = some (2, 24) := by kernel_rfl
theorem fa433_0 {i o : Nat} : fadO (C m) 433 (P i o) 0 σ = .val (P i (o + 0)) := by kernel_rfl
theorem fa433_1 {i o : Nat} : fadO (C m) 433 (P i o) 1 σ = .val (P i (o + 1)) := by kernel_rfl
theorem ag434 : Go.Run.isAgg (C m) 434 = some false := by kernel_rfl
theorem sz434 : size (C m) 434 = some 1 := by kernel_rfl
theorem in434 : ((C m).P.info? 434).map (fun t => (t.size, t.bytes)) = some (1, 0) := by kernel_rfl
theorem ag435 : Go.Run.isAgg (C m) 435 = some false := by kernel_rfl
theorem sz435 : size (C m) 435 = some 1 := by kernel_rfl
theorem in435 : ((C m).P.info? 435).map (fun t => (t.size, t.bytes)) = some (1, 8) := by kernel_rfl
theorem ag436 : Go.Run.isAgg (C m) 436 = some false := by kernel_rfl
theorem sz436 : size (C m) 436 = some 1 := by kernel_rfl
theorem in436 : ((C m).P.info? 436).map (fun t => (t.size, t.bytes)) = some (1, 8) := by kernel_rfl
theorem ag437 : Go.Run.isAgg (C m) 437 = some false := by kernel_rfl
theorem sz437 : size (C m) 437 = some 1 := by kernel_rfl
theorem in437 : ((C m).P.info? 437).map (fun t => (t.size, t.bytes)) = some (1, 8) := by kernel_rfl
theorem ag438 : Go.Run.isAgg (C m) 438 = some false := by kernel_rfl
theorem sz438 : size (C m) 438 = some 1 := by kernel_rfl
theorem in438 : ((C m).P.info? 438).map (fun t => (t.size, t.bytes)) = some (1, 8) := by kernel_rfl
theorem ag439 : Go.Run.isAgg (C m) 439 = some false := by kernel_rfl
theorem sz439 : size (C m) 439 = some 1 := by kernel_rfl
theorem in439 : ((C m).P.info? 439).map (fun t => (t.size, t.bytes)) = some (1, 8) := by kernel_rfl
theorem ag440 : Go.Run.isAgg (C m) 440 = some false := by kernel_rfl
theorem sz440 : size (C m) 440 = some 1 := by kernel_rfl
theorem in440 : ((C m).P.info? 440).map (fun t => (t.size, t.bytes)) = some (1, 8) := by kernel_rfl
theorem ag441 : Go.Run.isAgg (C m) 441 = some false := by kernel_rfl
theorem sz441 : size (C m) 441 = some 1 := by kernel_rfl
theorem in441 : ((C m).P.info? 441).map (fun t => (t.size, t.bytes)) = some (1, 8) := by kernel_rfl
theorem ag442 : Go.Run.isAgg (C m) 442 = some false := by kernel_rfl
theorem sz442 : size (C m) 442 = some 1 := by kernel_rfl
theorem in442 : ((C m).P.info? 442).map (fun t => (t.size, t.bytes)) = some (1, 8) := by kernel_rfl
theorem ag443 : Go.Run.isAgg (C m) 443 = some false := by kernel_rfl
theorem sz443 : size (C m) 443 = some 1 := by kernel_rfl
theorem in443 : ((C m).P.info? 443).map (fun t => (t.size, t.bytes)) = some (1, 8) := by kernel_rfl
theorem ag444 : Go.Run.isAgg (C m) 444 = some false := by kernel_rfl
theorem sz444 : size (C m) 444 = some 1 := by kernel_rfl
theorem in444 : ((C m).P.info? 444).map (fun t => (t.size, t.bytes)) = some (1, 8) := by kernel_rfl
theorem ag445 : Go.Run.isAgg (C m) 445 = some false := by kernel_rfl
theorem sz445 : size (C m) 445 = some 1 := by kernel_rfl
theorem in445 : ((C m).P.info? 445).map (fun t => (t.size, t.bytes)) = some (1, 8) := by kernel_rfl
theorem ag446 : Go.Run.isAgg (C m) 446 = some false := by kernel_rfl
theorem sz446 : size (C m) 446 = some 1 := by kernel_rfl
theorem in446 : ((C m).P.info? 446).map (fun t => (t.size, t.bytes)) = some (1, 8) := by kernel_rfl
theorem ag447 : Go.Run.isAgg (C m) 447 = some false := by kernel_rfl
theorem sz447 : size (C m) 447 = some 1 := by kernel_rfl
theorem in447 : ((C m).P.info? 447).map (fun t => (t.size, t.bytes)) = some (1, 8) := by kernel_rfl
theorem un448 : und (C m) 448 = some (.array 64 5) := by kernel_rfl
theorem ag448 : Go.Run.isAgg (C m) 448 = some true := by kernel_rfl
theorem sz448 : size (C m) 448 = some 64 := by kernel_rfl
theorem in448 : ((C m).P.info? 448).map (fun t => (t.size, t.bytes)) = some (64, 64) := by kernel_rfl
theorem ag449 : Go.Run.isAgg (C m) 449 = some false := by kernel_rfl
theorem sz449 : size (C m) 449 = some 1 := by kernel_rfl
theorem in449 : ((C m).P.info? 449).map (fun t => (t.size, t.bytes)) = some (1, 8) := by kernel_rfl
theorem ag450 : Go.Run.isAgg (C m) 450 = some false := by kernel_rfl
theorem sz450 : size (C m) 450 = some 1 := by kernel_rfl
theorem in450 : ((C m).P.info? 450).map (fun t => (t.size, t.bytes)) = some (1, 8) := by kernel_rfl
theorem un451 : und (C m) 451 = some (.pointer 158) := by kernel_rfl
theorem ag451 : Go.Run.isAgg (C m) 451 = some false := by kernel_rfl
theorem sz451 : size (C m) 451 = some 1 := by kernel_rfl
theorem in451 : ((C m).P.info? 451).map (fun t => (t.size, t.bytes)) = some (1, 8) := by kernel_rfl
theorem ag452 : Go.Run.isAgg (C m) 452 = some false := by kernel_rfl
theorem sz452 : size (C m) 452 = some 1 := by kernel_rfl
theorem in452 : ((C m).P.info? 452).map (fun t => (t.size, t.bytes)) = some (1, 8) := by kernel_rfl
theorem un453 : und (C m) 453 = some (.pointer 21) := by kernel_rfl
theorem ag453 : Go.Run.isAgg (C m) 453 = some false := by kernel_rfl
theorem sz453 : size (C m) 453 = some 1 := by kernel_rfl
theorem in453 : ((C m).P.info? 453).map (fun t => (t.size, t.bytes)) = some (1, 8) := by kernel_rfl
theorem ag454 : Go.Run.isAgg (C m) 454 = some false := by kernel_rfl
theorem sz454 : size (C m) 454 = some 1 := by kernel_rfl
theorem in454 : ((C m).P.info? 454).map (fun t => (t.size, t.bytes)) = some (1, 8) := by kernel_rfl
theorem ag455 : Go.Run.isAgg (C m) 455 = some false := by kernel_rfl
theorem sz455 : size (C m) 455 = some 1 := by kernel_rfl
theorem in455 : ((C m).P.info? 455).map (fun t => (t.size, t.bytes)) = some (1, 8) := by kernel_rfl
theorem ag456 : Go.Run.isAgg (C m) 456 = some false := by kernel_rfl
theorem sz456 : size (C m) 456 = some 1 := by kernel_rfl
theorem in456 : ((C m).P.info? 456).map (fun t => (t.size, t.bytes)) = some (1, 8) := by kernel_rfl
theorem ag457 : Go.Run.isAgg (C m) 457 = some false := by kernel_rfl
theorem sz457 : size (C m) 457 = some 1 := by kernel_rfl
theorem in457 : ((C m).P.info? 457).map (fun t => (t.size, t.bytes)) = some (1, 8) := by kernel_rfl
theorem ag458 : Go.Run.isAgg (C m) 458 = some false := by kernel_rfl
theorem sz458 : size (C m) 458 = some 1 := by kernel_rfl
theorem in458 : ((C m).P.info? 458).map (fun t => (t.size, t.bytes)) = some (1, 8) := by kernel_rfl
theorem ag459 : Go.Run.isAgg (C m) 459 = some false := by kernel_rfl
theorem sz459 : size (C m) 459 = some 1 := by kernel_rfl
theorem in459 : ((C m).P.info? 459).map (fun t => (t.size, t.bytes)) = some (1, 8) := by kernel_rfl
theorem ag460 : Go.Run.isAgg (C m) 460 = some false := by kernel_rfl
theorem sz460 : size (C m) 460 = some 1 := by kernel_rfl
theorem in460 : ((C m).P.info? 460).map (fun t => (t.size, t.bytes)) = some (1, 8) := by kernel_rfl
theorem ag461 : Go.Run.isAgg (C m) 461 = some false := by kernel_rfl
theorem sz461 : size (C m) 461 = some 1 := by kernel_rfl
theorem in461 : ((C m).P.info? 461).map (fun t => (t.size, t.bytes)) = some (1, 8) := by kernel_rfl
theorem un462 : und (C m) 462 = some (.int .i64) := by kernel_rfl
theorem ag462 : Go.Run.isAgg (C m) 462 = some false := by kernel_rfl
theorem sz462 : size (C m) 462 = some 1 := by kernel_rfl
theorem in462 : ((C m).P.info? 462).map (fun t => (t.size, t.bytes)) = some (1, 8) := by kernel_rfl
theorem ag463 : Go.Run.isAgg (C m) 463 = some false := by kernel_rfl
theorem sz463 : size (C m) 463 = some 1 := by kernel_rfl
theorem in463 : ((C m).P.info? 463).map (fun t => (t.size, t.bytes)) = some (1, 0) := by kernel_rfl
theorem ag464 : Go.Run.isAgg (C m) 464 = some false := by kernel_rfl
theorem sz464 : size (C m) 464 = some 1 := by kernel_rfl
theorem in464 : ((C m).P.info? 464).map (fun t => (t.size, t.bytes)) = some (1, 8) := by kernel_rfl
theorem ag465 : Go.Run.isAgg (C m) 465 = some false := by kernel_rfl
theorem sz465 : size (C m) 465 = some 1 := by kernel_rfl
theorem in465 : ((C m).P.info? 465).map (fun t => (t.size, t.bytes)) = some (1, 8) := by kernel_rfl
theorem ag466 : Go.Run.isAgg (C m) 466 = some false := by kernel_rfl
theorem sz466 : size (C m) 466 = some 1 := by kernel_rfl
theorem in466 : ((C m).P.info? 466).map (fun t => (t.size, t.bytes)) = some (1, 8) := by kernel_rfl
theorem ag467 : Go.Run.isAgg (C m) 467 = some false := by kernel_rfl
theorem sz467 : size (C m) 467 = some 1 := by kernel_rfl
theorem in467 : ((C m).P.info? 467).map (fun t => (t.size, t.bytes)) = some (1, 8) := by kernel_rfl
theorem ag468 : Go.Run.isAgg (C m) 468 = some false := by kernel_rfl
theorem sz468 : size (C m) 468 = some 1 := by kernel_rfl
theorem in468 : ((C m).P.info? 468).map (fun t => (t.size, t.bytes)) = some (1, 8) := by kernel_rfl
theorem ag469 : Go.Run.isAgg (C m) 469 = some false := by kernel_rfl
theorem sz469 : size (C m) 469 = some 1 := by kernel_rfl
theorem in469 : ((C m).P.info? 469).map (fun t => (t.size, t.bytes)) = some (1, 8) := by kernel_rfl
theorem ag470 : Go.Run.isAgg (C m) 470 = some false := by kernel_rfl
theorem sz470 : size (C m) 470 = some 1 := by kernel_rfl
theorem in470 : ((C m).P.info? 470).map (fun t => (t.size, t.bytes)) = some (1, 8) := by kernel_rfl
theorem ag471 : Go.Run.isAgg (C m) 471 = some false := by kernel_rfl
theorem sz471 : size (C m) 471 = some 1 := by kernel_rfl
theorem in471 : ((C m).P.info? 471).map (fun t => (t.size, t.bytes)) = some (1, 8) := by kernel_rfl
theorem ag472 : Go.Run.isAgg (C m) 472 = some false := by kernel_rfl
theorem sz472 : size (C m) 472 = some 1 := by kernel_rfl
theorem in472 : ((C m).P.info? 472).map (fun t => (t.size, t.bytes)) = some (1, 8) := by kernel_rfl
theorem ag473 : Go.Run.isAgg (C m) 473 = some false := by kernel_rfl
theorem sz473 : size (C m) 473 = some 1 := by kernel_rfl
theorem in473 : ((C m).P.info? 473).map (fun t => (t.size, t.bytes)) = some (1, 8) := by kernel_rfl
theorem ag474 : Go.Run.isAgg (C m) 474 = some false := by kernel_rfl
theorem sz474 : size (C m) 474 = some 1 := by kernel_rfl
theorem in474 : ((C m).P.info? 474).map (fun t => (t.size, t.bytes)) = some (1, 8) := by kernel_rfl
theorem ag475 : Go.Run.isAgg (C m) 475 = some false := by kernel_rfl
theorem sz475 : size (C m) 475 = some 1 := by kernel_rfl
theorem in475 : ((C m).P.info? 475).map (fun t => (t.size, t.bytes)) = some (1, 8) := by kernel_rfl
theorem un476 : und (C m) 476 = some (.int .u64) := by kernel_rfl
theorem ag476 : Go.Run.isAgg (C m) 476 = some false := by kernel_rfl
theorem sz476 : size (C m) 476 = some 1 := by kernel_rfl
theorem in476 : ((C m).P.info? 476).map (fun t => (t.size, t.bytes)) = some (1, 8) := by kernel_rfl
theorem ag477 : Go.Run.isAgg (C m) 477 = some false := by kernel_rfl
theorem sz477 : size (C m) 477 = some 1 := by kernel_rfl
theorem in477 : ((C m).P.info? 477).map (fun t => (t.size, t.bytes)) = some (1, 8) := by kernel_rfl
theorem ag478 : Go.Run.isAgg (C m) 478 = some false := by kernel_rfl
theorem sz478 : size (C m) 478 = some 1 := by kernel_rfl
theorem in478 : ((C m).P.info? 478).map (fun t => (t.size, t.bytes)) = some (1, 8) := by kernel_rfl
theorem ag479 : Go.Run.isAgg (C m) 479 = some false := by kernel_rfl
theorem sz479 : size (C m) 479 = some 1 := by kernel_rfl
theorem in479 : ((C m).P.info? 479).map (fun t => (t.size, t.bytes)) = some (1, 8) := by kernel_rfl
theorem un480 : und (C m) 480 = some (.pointer 3) := by kernel_rfl
theorem ag480 : Go.Run.isAgg (C m) 480 = some false := by kernel_rfl
theorem sz480 : size (C m) 480 = some 1 := by kernel_rfl
theorem in480 : ((C m).P.info? 480).map (fun t => (t.size, t.bytes)) = some (1, 8) := by kernel_rfl
theorem ag481 : Go.Run.isAgg (C m) 481 = some false := by kernel_rfl
theorem sz481 : size (C m) 481 = some 1 := by kernel_rfl
theorem in481 : ((C m).P.info? 481).map (fun t => (t.size, t.bytes)) = some (1, 8) := by kernel_rfl
theorem ag482 : Go.Run.isAgg (C m) 482 = some false := by kernel_rfl
theorem sz482 : size (C m) 482 = some 1 := by kernel_rfl
theorem in482 : ((C m).P.info? 482).map (fun t => (t.size, t.bytes)) = some (1, 8) := by kernel_rfl
theorem ag483 : Go.Run.isAgg (C m) 483 = some false := by kernel_rfl
theorem sz483 : size (C m) 483 = some 1 := by kernel_rfl
theorem in483 : ((C m).P.info? 483).map (fun t => (t.size, t.bytes)) = some (1, 8) := by kernel_rfl
theorem un484 : und (C m) 484 = some (.pointer 476) := by kernel_rfl
theorem ag484 : Go.Run.isAgg (C m) 484 = some false := by kernel_rfl
theorem sz484 : size (C m) 484 = some 1 := by kernel_rfl
theorem in484 : ((C m).P.info? 484).map (fun t => (t.size, t.bytes)) = some (1, 8) := by kernel_rfl
theorem ag485 : Go.Run.isAgg (C m) 485 = some false := by kernel_rfl
theorem sz485 : size (C m) 485 = some 1 := by kernel_rfl
theorem in485 : ((C m).P.info? 485).map (fun t => (t.size, t.bytes)) = some (1, 8) := by kernel_rfl
theorem ag486 : Go.Run.isAgg (C m) 486 = some false := by kernel_rfl
theorem sz486 : size (C m) 486 = some 1 := by kernel_rfl
theorem in486 : ((C m).P.info? 486).map (fun t => (t.size, t.bytes)) = some (1, 8) := by kernel_rfl
theorem ag487 : Go.Run.isAgg (C m) 487 = some true := by kernel_rfl
theorem sz487 : size (C m) 487 = some 4 := by kernel_rfl
theorem in487 : ((C m).P.info? 487).map (fun t => (t.size, t.bytes)) = some (4, 40) := by kernel_rfl
theorem fa487_0 {i o : Nat} : fadO (C m) 487 (P i o) 0 σ = .val (P i (o + 0)) := by kernel_rfl
theorem fa487_1 {i o : Nat} : fadO (C m) 487 (P i o) 1 σ = .val (P i (o + 1)) := by kernel_rfl
theorem fa487_2 {i o : Nat} : fadO (C m) 487 (P i o) 2 σ = .val (P i (o + 2)) := by kernel_rfl
theorem fa487_3 {i o : Nat} : fadO (C m) 487 (P i o) 3 σ = .val (P i (o + 3)) := by kernel_rfl
theorem ag488 : Go.Run.isAgg (C m) 488 = some true := by kernel_rfl
theorem sz488 : size (C m) 488 = some 4 := by kernel_rfl
theorem in488 : ((C m).P.info? 488).map (fun t => (t.size, t.bytes)) = some (4, 40) := by kernel_rfl
theorem fa488_0 {i o : Nat} : fadO (C m) 488 (P i o) 0 σ = .val (P i (o + 0)) := by kernel_rfl
theorem fa488_1 {i o : Nat} : fadO (C m) 488 (P i o) 1 σ = .val (P i (o + 1)) := by kernel_rfl
theorem fa488_2 {i o : Nat} : fadO (C m) 488 (P i o) 2 σ = .val (P i (o + 2)) := by kernel_rfl
theorem fa488_3 {i o : Nat} : fadO (C m) 488 (P i o) 3 σ = .val (P i (o + 3)) := by kernel_rfl
theorem un489 : und (C m) 489 = some (.array 0 16) := by kernel_rfl
theorem ag489 : Go.Run.isAgg (C m) 489 = some true := by kernel_rfl
theorem sz489 : size (C m) 489 = some 0 := by kernel_rfl
theorem in489 : ((C m).P.info? 489).map (fun t => (t.size, t.bytes)) = some (0, 0) := by kernel_rfl
theorem ag490 : Go.Run.isAgg (C m) 490 = some true := by kernel_rfl
theorem sz490 : size (C m) 490 = some 0 := by kernel_rfl
theorem in490 : ((C m).P.info? 490).map (fun t => (t.size, t.bytes)) = some (0, 0) := by kernel_rfl
theorem ag491 : Go.Run.isAgg (C m) 491 = some true := by kernel_rfl
theorem sz491 : size (C m) 491 = some 0 := by kernel_rfl
theorem in491 : ((C m).P.info? 491).map (fun t => (t.size, t.bytes)) = some (0, 0) := by kernel_rfl
theorem un492 : und (C m) 492 = some (.int .u8) := by kernel_rfl
theorem ag492 : Go.Run.isAgg (C m) 492 = some false := by kernel_rfl
theorem sz492 : size (C m) 492 = some 1 := by kernel_rfl
theorem in492 : ((C m).P.info? 492).map (fun t => (t.size, t.bytes)) = some (1, 1) := by kernel_rfl
theorem un493 : und (C m) 493 = some (.int .u8) := by kernel_rfl
theorem ag493 : Go.Run.isAgg (C m) 493 = some false := by kernel_rfl
theorem sz493 : size (C m) 493 = some 1 := by kernel_rfl
theorem in493 : ((C m).P.info? 493).map (fun t => (t.size, t.bytes)) = some (1, 1) := by kernel_rfl
theorem ag494 : Go.Run.isAgg (C m) 494 = some false := by kernel_rfl
theorem sz494 : size (C m) 494 = some 1 := by kernel_rfl
theorem in494 : ((C m).P.info? 494).map (fun t => (t.size, t.bytes)) = some (1, 8) := by kernel_rfl
theorem un495 : und (C m) 495 = some (.int .i32) := by kernel_rfl
theorem ag495 : Go.Run.isAgg (C m) 495 = some false := by kernel_rfl
theorem sz495 : size (C m) 495 = some 1 := by kernel_rfl
theorem in495 : ((C m).P.info? 495).map (fun t => (t.size, t.bytes)) = some (1, 4) := by kernel_rfl
theorem un496 : und (C m) 496 = some (.int .i32) := by kernel_rfl
theorem ag496 : Go.Run.isAgg (C m) 496 = some false := by kernel_rfl
theorem sz496 : size (C m) 496 = some 1 := by kernel_rfl
theorem in496 : ((C m).P.info? 496).map (fun t => (t.size, t.bytes)) = some (1, 4) := by kernel_rfl
theorem ag497 : Go.Run.isAgg (C m) 497 = some true := by kernel_rfl
theorem sz497 : size (C m) 497 = some 11 := by kernel_rfl
theorem in497 : ((C m).P.info? 497).map (fun t => (t.size, t.bytes)) = some (11, 48) := by kernel_rfl
theorem fa497_0 {i o : Nat} : fadO (C m) 497 (P i o) 0 σ = .val (P i (o + 0)) := by kernel_rfl
theorem fa497_1 {i o : Nat} : fadO (C m) 497 (P i o) 1 σ = .val (P i (o + 1)) := by kernel_rfl
theorem fa497_2 {i o : Nat} : fadO (C m) 497 (P i o) 2 σ = .val (P i (o + 2)) := by kernel_rfl
theorem fa497_3 {i o : Nat} : fadO (C m) 497 (P i o) 3 σ = .val (P i (o + 3)) := by kernel_rfl
theorem fa497_4 {i o : Nat} : fadO (C m) 497 (P i o) 4 σ = .val (P i (o + 4)) := by kernel_rfl
theorem fa497_5 {i o : Nat} : fadO (C m) 497 (P i o) 5 σ = .val (P i (o + 5)) := by kernel_rfl
theorem fa497_6 {i o : Nat} : fadO (C m) 497 (P i o) 6 σ = .val (P i (o + 6)) := by kernel_rfl
theorem fa497_7 {i o : Nat} : fadO (C m) 497 (P i o) 7 σ = .val (P i (o + 7)) := by kernel_rfl
theorem fa497_8 {i o : Nat} : fadO (C m) 497 (P i o) 8 σ = .val (P i (o + 8)) := by kernel_rfl
theorem fa497_9 {i o : Nat} : fadO (C m) 497 (P i o) 9 σ = .val (P i (o + 9)) := by kernel_rfl
theorem fa497_10 {i o : Nat} : fadO (C m) 497 (P i o) 10 σ = .val (P i (o + 10)) := by kernel_rfl
theorem ag498 : Go.Run.isAgg (C m) 498 = some true := by kernel_rfl
theorem sz498 : size (C m) 498 = some 11 := by kernel_rfl
theorem in498 : ((C m).P.info? 498).map (fun t => (t.size, t.bytes)) = some (11, 48) := by kernel_rfl
theorem fa498_0 {i o : Nat} : fadO (C m) 498 (P i o) 0 σ = .val (P i (o + 0)) := by kernel_rfl
theorem fa498_1 {i o : Nat} : fadO (C m) 498 (P i o) 1 σ = .val (P i (o + 1)) := by kernel_rfl
theorem fa498_2 {i o : Nat} : fadO (C m) 498 (P i o) 2 σ = .val (P i (o + 2)) := by kernel_rfl
theorem fa498_3 {i o : Nat} : fadO (C m) 498 (P i o) 3 σ = .val (P i (o + 3)) := by kernel_rfl
theorem fa498_4 {i o : Nat} : fadO (C m) 498 (P i o) 4 σ = .val (P i (o + 4)) := by kernel_rfl
theorem fa498_5 {i o : Nat} : fadO (C m) 498 (P i o) 5 σ = .val (P i (o + 5)) := by kernel_rfl
theorem fa498_6 {i o : Nat} : fadO (C m) 498 (P i o) 6 σ = .val (P i (o + 6)) := by kernel_rfl
theorem fa498_7 {i o : Nat} : fadO (C m) 498 (P i o) 7 σ = .val (P i (o + 7)) := by kernel_rfl
theorem fa498_8 {i o : Nat} : fadO (C m) 498 (P i o) 8 σ = .val (P i (o + 8)) := by kernel_rfl
theorem fa498_9 {i o : Nat} : fadO (C m) 498 (P i o) 9 σ = .val (P i (o + 9)) := by kernel_rfl
theorem fa498_10 {i o : Nat} : fadO (C m) 498 (P i o) 10 σ = .val (P i (o + 10)) := by kernel_rfl
theorem ag499 : Go.Run.isAgg (C m) 499 = some true := by kernel_rfl
theorem sz499 : size (C m) 499 = some 2 := by kernel_rfl
theorem in499 : ((C m).P.info? 499).map (fun t => (t.size, t.bytes)) = some (2, 16) := by kernel_rfl
theorem fa499_0 {i o : Nat} : fadO (C m) 499 (P i o) 0 σ = .val (P i (o + 0)) := by kernel_rfl
theorem fa499_1 {i o : Nat} : fadO (C m) 499 (P i o) 1 σ = .val (P i (o + 1)) := by kernel_rfl
theorem ag500 : Go.Run.isAgg (C m) 500 = some true := by kernel_rfl
theorem sz500 : size (C m) 500 = some 2 := by kernel_rfl
theorem in500 : ((C m).P.info? 500).map (fun t => (t.size, t.bytes)) = some (2, 16) := by kernel_rfl
theorem fa500_0 {i o : Nat} : fadO (C m) 500 (P i o) 0 σ = .val (P i (o + 0)) := by kernel_rfl
theorem fa500_1 {i o : Nat} : fadO (C m) 500 (P i o) 1 σ = .val (P i (o + 1)) := by kernel_rfl
theorem ag501 : Go.Run.isAgg (C m) 501 = some true := by kernel_rfl
theorem sz501 : size (C m) 501 = some 3 := by kernel_rfl
theorem in501 : ((C m).P.info? 501).map (fun t => (t.size, t.bytes)) = some (3, 32) := by kernel_rfl
theorem fa501_0 {i o : Nat} : fadO (C m) 501 (P i o) 0 σ = .val (P i (o + 0)) := by kernel_rfl
theorem fa501_1 {i o : Nat} : fadO (C m) 501 (P i o) 1 σ = .val (P i (o + 2)) := by kernel_rfl
theorem ag502 : Go.Run.isAgg (C m) 502 = some true := by kernel_rfl
theorem sz502 : size (C m) 502 = some 3 := by kernel_rfl
theorem in502 : ((C m).P.info? 502).map (fun t => (t.size, t.bytes)) = some (3, 32) := by kernel_rfl
theorem fa502_0 {i o : Nat} : fadO (C m) 502 (P i o) 0 σ = .val (P i (o + 0)) := by kernel_rfl
theorem fa502_1 {i o : Nat} : fadO (C m) 502 (P i o) 1 σ = .val (P i (o + 2)) := by kernel_rfl
end Ty
end Go.Proofs.YtnoieleoklpciaaGreatDoor
