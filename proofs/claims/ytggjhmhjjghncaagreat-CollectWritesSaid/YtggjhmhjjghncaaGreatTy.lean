/- Facts on the program's types. -/
import Derived.Test.YtggjhmhjjghncaaGreatCx
namespace Go.Proofs.YtggjhmhjjghncaaGreat
open Go.Run Go
set_option maxRecDepth 100000
namespace Ty
variable {m : Nat} {σ : St}
theorem ag0 : Go.Run.isAgg (C m) 0 = some false := by kernel_rfl
theorem sz0 : size (C m) 0 = some 1 := by kernel_rfl
theorem in0 : ((C m).P.info? 0).map (fun t => (t.size, t.bytes)) = some (1, 0) := by kernel_rfl
theorem ag1 : Go.Run.isAgg (C m) 1 = some false := by kernel_rfl
theorem sz1 : size (C m) 1 = some 1 := by kernel_rfl
theorem in1 : ((C m).P.info? 1).map (fun t => (t.size, t.bytes)) = some (1, 8) := by kernel_rfl
theorem un2 : und (C m) 2 = some (.int .i64) := by kernel_rfl
theorem ag2 : Go.Run.isAgg (C m) 2 = some false := by kernel_rfl
theorem sz2 : size (C m) 2 = some 1 := by kernel_rfl
theorem in2 : ((C m).P.info? 2).map (fun t => (t.size, t.bytes)) = some (1, 8) := by kernel_rfl
theorem un3 : und (C m) 3 = some (.int .i64) := by kernel_rfl
theorem ag3 : Go.Run.isAgg (C m) 3 = some false := by kernel_rfl
theorem sz3 : size (C m) 3 = some 1 := by kernel_rfl
theorem in3 : ((C m).P.info? 3).map (fun t => (t.size, t.bytes)) = some (1, 8) := by kernel_rfl
theorem un4 : und (C m) 4 = some .bool := by kernel_rfl
theorem ag4 : Go.Run.isAgg (C m) 4 = some false := by kernel_rfl
theorem sz4 : size (C m) 4 = some 1 := by kernel_rfl
theorem in4 : ((C m).P.info? 4).map (fun t => (t.size, t.bytes)) = some (1, 1) := by kernel_rfl
theorem un5 : und (C m) 5 = some (.int .u8) := by kernel_rfl
theorem ag5 : Go.Run.isAgg (C m) 5 = some false := by kernel_rfl
theorem sz5 : size (C m) 5 = some 1 := by kernel_rfl
theorem in5 : ((C m).P.info? 5).map (fun t => (t.size, t.bytes)) = some (1, 1) := by kernel_rfl
theorem un6 : und (C m) 6 = some (.int .u8) := by kernel_rfl
theorem ag6 : Go.Run.isAgg (C m) 6 = some false := by kernel_rfl
theorem sz6 : size (C m) 6 = some 1 := by kernel_rfl
theorem in6 : ((C m).P.info? 6).map (fun t => (t.size, t.bytes)) = some (1, 1) := by kernel_rfl
theorem ag7 : Go.Run.isAgg (C m) 7 = some true := by kernel_rfl
theorem sz7 : size (C m) 7 = some 4 := by kernel_rfl
theorem in7 : ((C m).P.info? 7).map (fun t => (t.size, t.bytes)) = some (4, 24) := by kernel_rfl
theorem fa7_0 {i o : Nat} : fadO (C m) 7 (P i o) 0 σ = .val (P i (o + 0)) := by kernel_rfl
theorem fa7_1 {i o : Nat} : fadO (C m) 7 (P i o) 1 σ = .val (P i (o + 1)) := by kernel_rfl
theorem fa7_2 {i o : Nat} : fadO (C m) 7 (P i o) 2 σ = .val (P i (o + 2)) := by kernel_rfl
theorem fa7_3 {i o : Nat} : fadO (C m) 7 (P i o) 3 σ = .val (P i (o + 3)) := by kernel_rfl
theorem ag8 : Go.Run.isAgg (C m) 8 = some true := by kernel_rfl
theorem sz8 : size (C m) 8 = some 4 := by kernel_rfl
theorem in8 : ((C m).P.info? 8).map (fun t => (t.size, t.bytes)) = some (4, 24) := by kernel_rfl
theorem fa8_0 {i o : Nat} : fadO (C m) 8 (P i o) 0 σ = .val (P i (o + 0)) := by kernel_rfl
theorem fa8_1 {i o : Nat} : fadO (C m) 8 (P i o) 1 σ = .val (P i (o + 1)) := by kernel_rfl
theorem fa8_2 {i o : Nat} : fadO (C m) 8 (P i o) 2 σ = .val (P i (o + 2)) := by kernel_rfl
theorem fa8_3 {i o : Nat} : fadO (C m) 8 (P i o) 3 σ = .val (P i (o + 3)) := by kernel_rfl
theorem un9 : und (C m) 9 = some .string := by kernel_rfl
theorem ag9 : Go.Run.isAgg (C m) 9 = some false := by kernel_rfl
theorem sz9 : size (C m) 9 = some 1 := by kernel_rfl
theorem in9 : ((C m).P.info? 9).map (fun t => (t.size, t.bytes)) = some (1, 16) := by kernel_rfl
theorem un10 : und (C m) 10 = some .string := by kernel_rfl
theorem ag10 : Go.Run.isAgg (C m) 10 = some false := by kernel_rfl
theorem sz10 : size (C m) 10 = some 1 := by kernel_rfl
theorem in10 : ((C m).P.info? 10).map (fun t => (t.size, t.bytes)) = some (1, 16) := by kernel_rfl
theorem un11 : und (C m) 11 = some .string := by kernel_rfl
theorem ag11 : Go.Run.isAgg (C m) 11 = some false := by kernel_rfl
theorem sz11 : size (C m) 11 = some 1 := by kernel_rfl
theorem in11 : ((C m).P.info? 11).map (fun t => (t.size, t.bytes)) = some (1, 16) := by kernel_rfl
theorem un12 : und (C m) 12 = some (.int .u64) := by kernel_rfl
theorem ag12 : Go.Run.isAgg (C m) 12 = some false := by kernel_rfl
theorem sz12 : size (C m) 12 = some 1 := by kernel_rfl
theorem in12 : ((C m).P.info? 12).map (fun t => (t.size, t.bytes)) = some (1, 8) := by kernel_rfl
theorem ag13 : Go.Run.isAgg (C m) 13 = some true := by kernel_rfl
theorem sz13 : size (C m) 13 = some 2 := by kernel_rfl
theorem in13 : ((C m).P.info? 13).map (fun t => (t.size, t.bytes)) = some (2, 24) := by kernel_rfl
theorem fa13_0 {i o : Nat} : fadO (C m) 13 (P i o) 0 σ = .val (P i (o + 0)) := by kernel_rfl
theorem fa13_1 {i o : Nat} : fadO (C m) 13 (P i o) 1 σ = .val (P i (o + 1)) := by kernel_rfl
theorem ag14 : Go.Run.isAgg (C m) 14 = some true := by kernel_rfl
theorem sz14 : size (C m) 14 = some 2 := by kernel_rfl
theorem in14 : ((C m).P.info? 14).map (fun t => (t.size, t.bytes)) = some (2, 24) := by kernel_rfl
theorem fa14_0 {i o : Nat} : fadO (C m) 14 (P i o) 0 σ = .val (P i (o + 0)) := by kernel_rfl
theorem fa14_1 {i o : Nat} : fadO (C m) 14 (P i o) 1 σ = .val (P i (o + 1)) := by kernel_rfl
theorem un15 : und (C m) 15 = some (.pointer 302) := by kernel_rfl
theorem ag15 : Go.Run.isAgg (C m) 15 = some false := by kernel_rfl
theorem sz15 : size (C m) 15 = some 1 := by kernel_rfl
theorem in15 : ((C m).P.info? 15).map (fun t => (t.size, t.bytes)) = some (1, 8) := by kernel_rfl
theorem un16 : und (C m) 16 = some (.pointer 305) := by kernel_rfl
theorem ag16 : Go.Run.isAgg (C m) 16 = some false := by kernel_rfl
theorem sz16 : size (C m) 16 = some 1 := by kernel_rfl
theorem in16 : ((C m).P.info? 16).map (fun t => (t.size, t.bytes)) = some (1, 8) := by kernel_rfl
theorem un17 : und (C m) 17 = some (.pointer 312) := by kernel_rfl
theorem ag17 : Go.Run.isAgg (C m) 17 = some false := by kernel_rfl
theorem sz17 : size (C m) 17 = some 1 := by kernel_rfl
theorem in17 : ((C m).P.info? 17).map (fun t => (t.size, t.bytes)) = some (1, 8) := by kernel_rfl
theorem ag18 : Go.Run.isAgg (C m) 18 = some true := by kernel_rfl
theorem sz18 : size (C m) 18 = some 1 := by kernel_rfl
theorem in18 : ((C m).P.info? 18).map (fun t => (t.size, t.bytes)) = some (1, 8) := by kernel_rfl
theorem fa18_0 {i o : Nat} : fadO (C m) 18 (P i o) 0 σ = .val (P i (o + 0)) := by kernel_rfl
theorem ag19 : Go.Run.isAgg (C m) 19 = some true := by kernel_rfl
theorem sz19 : size (C m) 19 = some 1 := by kernel_rfl
theorem in19 : ((C m).P.info? 19).map (fun t => (t.size, t.bytes)) = some (1, 8) := by kernel_rfl
theorem fa19_0 {i o : Nat} : fadO (C m) 19 (P i o) 0 σ = .val (P i (o + 0)) := by kernel_rfl
theorem ag20 : Go.Run.isAgg (C m) 20 = some false := by kernel_rfl
theorem sz20 : size (C m) 20 = some 1 := by kernel_rfl
theorem in20 : ((C m).P.info? 20).map (fun t => (t.size, t.bytes)) = some (1, 16) := by kernel_rfl
theorem un21 : und (C m) 21 = some (.int .i32) := by kernel_rfl
theorem ag21 : Go.Run.isAgg (C m) 21 = some false := by kernel_rfl
theorem sz21 : size (C m) 21 = some 1 := by kernel_rfl
theorem in21 : ((C m).P.info? 21).map (fun t => (t.size, t.bytes)) = some (1, 4) := by kernel_rfl
theorem ag22 : Go.Run.isAgg (C m) 22 = some true := by kernel_rfl
theorem sz22 : size (C m) 22 = some 5 := by kernel_rfl
theorem in22 : ((C m).P.info? 22).map (fun t => (t.size, t.bytes)) = some (5, 48) := by kernel_rfl
theorem fa22_0 {i o : Nat} : fadO (C m) 22 (P i o) 0 σ = .val (P i (o + 0)) := by kernel_rfl
theorem fa22_1 {i o : Nat} : fadO (C m) 22 (P i o) 1 σ = .val (P i (o + 1)) := by kernel_rfl
theorem fa22_2 {i o : Nat} : fadO (C m) 22 (P i o) 2 σ = .val (P i (o + 2)) := by kernel_rfl
theorem fa22_3 {i o : Nat} : fadO (C m) 22 (P i o) 3 σ = .val (P i (o + 3)) := by kernel_rfl
theorem fa22_4 {i o : Nat} : fadO (C m) 22 (P i o) 4 σ = .val (P i (o + 4)) := by kernel_rfl
theorem ag23 : Go.Run.isAgg (C m) 23 = some true := by kernel_rfl
theorem sz23 : size (C m) 23 = some 5 := by kernel_rfl
theorem in23 : ((C m).P.info? 23).map (fun t => (t.size, t.bytes)) = some (5, 48) := by kernel_rfl
theorem fa23_0 {i o : Nat} : fadO (C m) 23 (P i o) 0 σ = .val (P i (o + 0)) := by kernel_rfl
theorem fa23_1 {i o : Nat} : fadO (C m) 23 (P i o) 1 σ = .val (P i (o + 1)) := by kernel_rfl
theorem fa23_2 {i o : Nat} : fadO (C m) 23 (P i o) 2 σ = .val (P i (o + 2)) := by kernel_rfl
theorem fa23_3 {i o : Nat} : fadO (C m) 23 (P i o) 3 σ = .val (P i (o + 3)) := by kernel_rfl
theorem fa23_4 {i o : Nat} : fadO (C m) 23 (P i o) 4 σ = .val (P i (o + 4)) := by kernel_rfl
theorem ag24 : Go.Run.isAgg (C m) 24 = some false := by kernel_rfl
theorem sz24 : size (C m) 24 = some 1 := by kernel_rfl
theorem in24 : ((C m).P.info? 24).map (fun t => (t.size, t.bytes)) = some (1, 8) := by kernel_rfl
theorem un25 : und (C m) 25 = some (.int .i64) := by kernel_rfl
theorem ag25 : Go.Run.isAgg (C m) 25 = some false := by kernel_rfl
theorem sz25 : size (C m) 25 = some 1 := by kernel_rfl
theorem in25 : ((C m).P.info? 25).map (fun t => (t.size, t.bytes)) = some (1, 8) := by kernel_rfl
theorem ag26 : Go.Run.isAgg (C m) 26 = some false := by kernel_rfl
theorem sz26 : size (C m) 26 = some 1 := by kernel_rfl
theorem in26 : ((C m).P.info? 26).map (fun t => (t.size, t.bytes)) = some (1, 0) := by kernel_rfl
theorem ag27 : Go.Run.isAgg (C m) 27 = some false := by kernel_rfl
theorem sz27 : size (C m) 27 = some 1 := by kernel_rfl
theorem in27 : ((C m).P.info? 27).map (fun t => (t.size, t.bytes)) = some (1, 8) := by kernel_rfl
theorem ag28 : Go.Run.isAgg (C m) 28 = some false := by kernel_rfl
theorem sz28 : size (C m) 28 = some 1 := by kernel_rfl
theorem in28 : ((C m).P.info? 28).map (fun t => (t.size, t.bytes)) = some (1, 8) := by kernel_rfl
theorem ag29 : Go.Run.isAgg (C m) 29 = some false := by kernel_rfl
theorem sz29 : size (C m) 29 = some 1 := by kernel_rfl
theorem in29 : ((C m).P.info? 29).map (fun t => (t.size, t.bytes)) = some (1, 0) := by kernel_rfl
theorem ag30 : Go.Run.isAgg (C m) 30 = some false := by kernel_rfl
theorem sz30 : size (C m) 30 = some 1 := by kernel_rfl
theorem in30 : ((C m).P.info? 30).map (fun t => (t.size, t.bytes)) = some (1, 8) := by kernel_rfl
theorem ag31 : Go.Run.isAgg (C m) 31 = some false := by kernel_rfl
theorem sz31 : size (C m) 31 = some 1 := by kernel_rfl
theorem in31 : ((C m).P.info? 31).map (fun t => (t.size, t.bytes)) = some (1, 8) := by kernel_rfl
theorem ag32 : Go.Run.isAgg (C m) 32 = some true := by kernel_rfl
theorem sz32 : size (C m) 32 = some 5 := by kernel_rfl
theorem in32 : ((C m).P.info? 32).map (fun t => (t.size, t.bytes)) = some (5, 48) := by kernel_rfl
theorem fa32_0 {i o : Nat} : fadO (C m) 32 (P i o) 0 σ = .val (P i (o + 0)) := by kernel_rfl
theorem fa32_1 {i o : Nat} : fadO (C m) 32 (P i o) 1 σ = .val (P i (o + 1)) := by kernel_rfl
theorem fa32_2 {i o : Nat} : fadO (C m) 32 (P i o) 2 σ = .val (P i (o + 2)) := by kernel_rfl
theorem fa32_3 {i o : Nat} : fadO (C m) 32 (P i o) 3 σ = .val (P i (o + 3)) := by kernel_rfl
theorem fa32_4 {i o : Nat} : fadO (C m) 32 (P i o) 4 σ = .val (P i (o + 4)) := by kernel_rfl
theorem un33 : und (C m) 33 = some (.slice 41) := by kernel_rfl
theorem ag33 : Go.Run.isAgg (C m) 33 = some false := by kernel_rfl
theorem sz33 : size (C m) 33 = some 1 := by kernel_rfl
theorem in33 : ((C m).P.info? 33).map (fun t => (t.size, t.bytes)) = some (1, 24) := by kernel_rfl
theorem ag34 : Go.Run.isAgg (C m) 34 = some true := by kernel_rfl
theorem sz34 : size (C m) 34 = some 2 := by kernel_rfl
theorem in34 : ((C m).P.info? 34).map (fun t => (t.size, t.bytes)) = some (2, 32) := by kernel_rfl
theorem fa34_0 {i o : Nat} : fadO (C m) 34 (P i o) 0 σ = .val (P i (o + 0)) := by kernel_rfl
theorem fa34_1 {i o : Nat} : fadO (C m) 34 (P i o) 1 σ = .val (P i (o + 1)) := by kernel_rfl
theorem ag35 : Go.Run.isAgg (C m) 35 = some true := by kernel_rfl
theorem sz35 : size (C m) 35 = some 2 := by kernel_rfl
theorem in35 : ((C m).P.info? 35).map (fun t => (t.size, t.bytes)) = some (2, 32) := by kernel_rfl
theorem fa35_0 {i o : Nat} : fadO (C m) 35 (P i o) 0 σ = .val (P i (o + 0)) := by kernel_rfl
theorem fa35_1 {i o : Nat} : fadO (C m) 35 (P i o) 1 σ = .val (P i (o + 1)) := by kernel_rfl
theorem ag36 : Go.Run.isAgg (C m) 36 = some false := by kernel_rfl
theorem sz36 : size (C m) 36 = some 1 := by kernel_rfl
theorem in36 : ((C m).P.info? 36).map (fun t => (t.size, t.bytes)) = some (1, 8) := by kernel_rfl
theorem un37 : und (C m) 37 = some (.slice 42) := by kernel_rfl
theorem ag37 : Go.Run.isAgg (C m) 37 = some false := by kernel_rfl
theorem sz37 : size (C m) 37 = some 1 := by kernel_rfl
theorem in37 : ((C m).P.info? 37).map (fun t => (t.size, t.bytes)) = some (1, 24) := by kernel_rfl
theorem ag38 : Go.Run.isAgg (C m) 38 = some true := by kernel_rfl
theorem sz38 : size (C m) 38 = some 2 := by kernel_rfl
theorem in38 : ((C m).P.info? 38).map (fun t => (t.size, t.bytes)) = some (2, 32) := by kernel_rfl
theorem fa38_0 {i o : Nat} : fadO (C m) 38 (P i o) 0 σ = .val (P i (o + 0)) := by kernel_rfl
theorem fa38_1 {i o : Nat} : fadO (C m) 38 (P i o) 1 σ = .val (P i (o + 1)) := by kernel_rfl
theorem ag39 : Go.Run.isAgg (C m) 39 = some true := by kernel_rfl
theorem sz39 : size (C m) 39 = some 2 := by kernel_rfl
theorem in39 : ((C m).P.info? 39).map (fun t => (t.size, t.bytes)) = some (2, 32) := by kernel_rfl
theorem fa39_0 {i o : Nat} : fadO (C m) 39 (P i o) 0 σ = .val (P i (o + 0)) := by kernel_rfl
theorem fa39_1 {i o : Nat} : fadO (C m) 39 (P i o) 1 σ = .val (P i (o + 1)) := by kernel_rfl
theorem ag40 : Go.Run.isAgg (C m) 40 = some true := by kernel_rfl
theorem sz40 : size (C m) 40 = some 3 := by kernel_rfl
theorem in40 : ((C m).P.info? 40).map (fun t => (t.size, t.bytes)) = some (3, 24) := by kernel_rfl
theorem fa40_0 {i o : Nat} : fadO (C m) 40 (P i o) 0 σ = .val (P i (o + 0)) := by kernel_rfl
theorem fa40_1 {i o : Nat} : fadO (C m) 40 (P i o) 1 σ = .val (P i (o + 1)) := by kernel_rfl
theorem fa40_2 {i o : Nat} : fadO (C m) 40 (P i o) 2 σ = .val (P i (o + 2)) := by kernel_rfl
theorem ag41 : Go.Run.isAgg (C m) 41 = some true := by kernel_rfl
theorem sz41 : size (C m) 41 = some 3 := by kernel_rfl
theorem in41 : ((C m).P.info? 41).map (fun t => (t.size, t.bytes)) = some (3, 24) := by kernel_rfl
theorem fa41_0 {i o : Nat} : fadO (C m) 41 (P i o) 0 σ = .val (P i (o + 0)) := by kernel_rfl
theorem fa41_1 {i o : Nat} : fadO (C m) 41 (P i o) 1 σ = .val (P i (o + 1)) := by kernel_rfl
theorem fa41_2 {i o : Nat} : fadO (C m) 41 (P i o) 2 σ = .val (P i (o + 2)) := by kernel_rfl
theorem ag42 : Go.Run.isAgg (C m) 42 = some true := by kernel_rfl
theorem sz42 : size (C m) 42 = some 3 := by kernel_rfl
theorem in42 : ((C m).P.info? 42).map (fun t => (t.size, t.bytes)) = some (3, 24) := by kernel_rfl
theorem fa42_0 {i o : Nat} : fadO (C m) 42 (P i o) 0 σ = .val (P i (o + 0)) := by kernel_rfl
theorem fa42_1 {i o : Nat} : fadO (C m) 42 (P i o) 1 σ = .val (P i (o + 1)) := by kernel_rfl
theorem fa42_2 {i o : Nat} : fadO (C m) 42 (P i o) 2 σ = .val (P i (o + 2)) := by kernel_rfl
theorem ag43 : Go.Run.isAgg (C m) 43 = some false := by kernel_rfl
theorem sz43 : size (C m) 43 = some 1 := by kernel_rfl
theorem in43 : ((C m).P.info? 43).map (fun t => (t.size, t.bytes)) = some (1, 8) := by kernel_rfl
theorem ag44 : Go.Run.isAgg (C m) 44 = some false := by kernel_rfl
theorem sz44 : size (C m) 44 = some 1 := by kernel_rfl
theorem in44 : ((C m).P.info? 44).map (fun t => (t.size, t.bytes)) = some (1, 8) := by kernel_rfl
theorem ag45 : Go.Run.isAgg (C m) 45 = some false := by kernel_rfl
theorem sz45 : size (C m) 45 = some 1 := by kernel_rfl
theorem in45 : ((C m).P.info? 45).map (fun t => (t.size, t.bytes)) = some (1, 8) := by kernel_rfl
theorem un46 : und (C m) 46 = some (.int .u64) := by kernel_rfl
theorem ag46 : Go.Run.isAgg (C m) 46 = some false := by kernel_rfl
theorem sz46 : size (C m) 46 = some 1 := by kernel_rfl
theorem in46 : ((C m).P.info? 46).map (fun t => (t.size, t.bytes)) = some (1, 8) := by kernel_rfl
theorem ag47 : Go.Run.isAgg (C m) 47 = some true := by kernel_rfl
theorem sz47 : size (C m) 47 = some 18 := by kernel_rfl
theorem in47 : ((C m).P.info? 47).map (fun t => (t.size, t.bytes)) = some (18, 144) := by kernel_rfl
theorem fa47_0 {i o : Nat} : fadO (C m) 47 (P i o) 0 σ = .val (P i (o + 0)) := by kernel_rfl
theorem fa47_1 {i o : Nat} : fadO (C m) 47 (P i o) 1 σ = .val (P i (o + 1)) := by kernel_rfl
theorem fa47_2 {i o : Nat} : fadO (C m) 47 (P i o) 2 σ = .val (P i (o + 2)) := by kernel_rfl
theorem fa47_3 {i o : Nat} : fadO (C m) 47 (P i o) 3 σ = .val (P i (o + 3)) := by kernel_rfl
theorem fa47_4 {i o : Nat} : fadO (C m) 47 (P i o) 4 σ = .val (P i (o + 4)) := by kernel_rfl
theorem fa47_5 {i o : Nat} : fadO (C m) 47 (P i o) 5 σ = .val (P i (o + 5)) := by kernel_rfl
theorem fa47_6 {i o : Nat} : fadO (C m) 47 (P i o) 6 σ = .val (P i (o + 6)) := by kernel_rfl
theorem fa47_7 {i o : Nat} : fadO (C m) 47 (P i o) 7 σ = .val (P i (o + 7)) := by kernel_rfl
theorem fa47_8 {i o : Nat} : fadO (C m) 47 (P i o) 8 σ = .val (P i (o + 8)) := by kernel_rfl
theorem fa47_9 {i o : Nat} : fadO (C m) 47 (P i o) 9 σ = .val (P i (o + 9)) := by kernel_rfl
theorem fa47_10 {i o : Nat} : fadO (C m) 47 (P i o) 10 σ = .val (P i (o + 10)) := by kernel_rfl
theorem fa47_11 {i o : Nat} : fadO (C m) 47 (P i o) 11 σ = .val (P i (o + 11)) := by kernel_rfl
theorem fa47_12 {i o : Nat} : fadO (C m) 47 (P i o) 12 σ = .val (P i (o + 12)) := by kernel_rfl
theorem fa47_13 {i o : Nat} : fadO (C m) 47 (P i o) 13 σ = .val (P i (o + 13)) := by kernel_rfl
theorem fa47_14 {i o : Nat} : fadO (C m) 47 (P i o) 14 σ = .val (P i (o + 14)) := by kernel_rfl
theorem fa47_15 {i o : Nat} : fadO (C m) 47 (P i o) 15 σ = .val (P i (o + 15)) := by kernel_rfl
theorem fa47_16 {i o : Nat} : fadO (C m) 47 (P i o) 16 σ = .val (P i (o + 16)) := by kernel_rfl
theorem fa47_17 {i o : Nat} : fadO (C m) 47 (P i o) 17 σ = .val (P i (o + 17)) := by kernel_rfl
theorem ag48 : Go.Run.isAgg (C m) 48 = some true := by kernel_rfl
theorem sz48 : size (C m) 48 = some 18 := by kernel_rfl
theorem in48 : ((C m).P.info? 48).map (fun t => (t.size, t.bytes)) = some (18, 144) := by kernel_rfl
theorem fa48_0 {i o : Nat} : fadO (C m) 48 (P i o) 0 σ = .val (P i (o + 0)) := by kernel_rfl
theorem fa48_1 {i o : Nat} : fadO (C m) 48 (P i o) 1 σ = .val (P i (o + 1)) := by kernel_rfl
theorem fa48_2 {i o : Nat} : fadO (C m) 48 (P i o) 2 σ = .val (P i (o + 2)) := by kernel_rfl
theorem fa48_3 {i o : Nat} : fadO (C m) 48 (P i o) 3 σ = .val (P i (o + 3)) := by kernel_rfl
theorem fa48_4 {i o : Nat} : fadO (C m) 48 (P i o) 4 σ = .val (P i (o + 4)) := by kernel_rfl
theorem fa48_5 {i o : Nat} : fadO (C m) 48 (P i o) 5 σ = .val (P i (o + 5)) := by kernel_rfl
theorem fa48_6 {i o : Nat} : fadO (C m) 48 (P i o) 6 σ = .val (P i (o + 6)) := by kernel_rfl
theorem fa48_7 {i o : Nat} : fadO (C m) 48 (P i o) 7 σ = .val (P i (o + 7)) := by kernel_rfl
theorem fa48_8 {i o : Nat} : fadO (C m) 48 (P i o) 8 σ = .val (P i (o + 8)) := by kernel_rfl
theorem fa48_9 {i o : Nat} : fadO (C m) 48 (P i o) 9 σ = .val (P i (o + 9)) := by kernel_rfl
theorem fa48_10 {i o : Nat} : fadO (C m) 48 (P i o) 10 σ = .val (P i (o + 10)) := by kernel_rfl
theorem fa48_11 {i o : Nat} : fadO (C m) 48 (P i o) 11 σ = .val (P i (o + 11)) := by kernel_rfl
theorem fa48_12 {i o : Nat} : fadO (C m) 48 (P i o) 12 σ = .val (P i (o + 12)) := by kernel_rfl
theorem fa48_13 {i o : Nat} : fadO (C m) 48 (P i o) 13 σ = .val (P i (o + 13)) := by kernel_rfl
theorem fa48_14 {i o : Nat} : fadO (C m) 48 (P i o) 14 σ = .val (P i (o + 14)) := by kernel_rfl
theorem fa48_15 {i o : Nat} : fadO (C m) 48 (P i o) 15 σ = .val (P i (o + 15)) := by kernel_rfl
theorem fa48_16 {i o : Nat} : fadO (C m) 48 (P i o) 16 σ = .val (P i (o + 16)) := by kernel_rfl
theorem fa48_17 {i o : Nat} : fadO (C m) 48 (P i o) 17 σ = .val (P i (o + 17)) := by kernel_rfl
theorem un49 : und (C m) 49 = some (.slice 3) := by kernel_rfl
theorem ag49 : Go.Run.isAgg (C m) 49 = some false := by kernel_rfl
theorem sz49 : size (C m) 49 = some 1 := by kernel_rfl
theorem in49 : ((C m).P.info? 49).map (fun t => (t.size, t.bytes)) = some (1, 24) := by kernel_rfl
theorem un50 : und (C m) 50 = some (.slice 215) := by kernel_rfl
theorem ag50 : Go.Run.isAgg (C m) 50 = some false := by kernel_rfl
theorem sz50 : size (C m) 50 = some 1 := by kernel_rfl
theorem in50 : ((C m).P.info? 50).map (fun t => (t.size, t.bytes)) = some (1, 24) := by kernel_rfl
theorem un51 : und (C m) 51 = some (.slice 49) := by kernel_rfl
theorem ag51 : Go.Run.isAgg (C m) 51 = some false := by kernel_rfl
theorem sz51 : size (C m) 51 = some 1 := by kernel_rfl
theorem in51 : ((C m).P.info? 51).map (fun t => (t.size, t.bytes)) = some (1, 24) := by kernel_rfl
theorem ag52 : Go.Run.isAgg (C m) 52 = some true := by kernel_rfl
theorem sz52 : size (C m) 52 = some 3 := by kernel_rfl
theorem in52 : ((C m).P.info? 52).map (fun t => (t.size, t.bytes)) = some (3, 40) := by kernel_rfl
theorem fa52_0 {i o : Nat} : fadO (C m) 52 (P i o) 0 σ = .val (P i (o + 0)) := by kernel_rfl
theorem fa52_1 {i o : Nat} : fadO (C m) 52 (P i o) 1 σ = .val (P i (o + 1)) := by kernel_rfl
theorem fa52_2 {i o : Nat} : fadO (C m) 52 (P i o) 2 σ = .val (P i (o + 2)) := by kernel_rfl
theorem ag53 : Go.Run.isAgg (C m) 53 = some true := by kernel_rfl
theorem sz53 : size (C m) 53 = some 3 := by kernel_rfl
theorem in53 : ((C m).P.info? 53).map (fun t => (t.size, t.bytes)) = some (3, 40) := by kernel_rfl
theorem fa53_0 {i o : Nat} : fadO (C m) 53 (P i o) 0 σ = .val (P i (o + 0)) := by kernel_rfl
theorem fa53_1 {i o : Nat} : fadO (C m) 53 (P i o) 1 σ = .val (P i (o + 1)) := by kernel_rfl
theorem fa53_2 {i o : Nat} : fadO (C m) 53 (P i o) 2 σ = .val (P i (o + 2)) := by kernel_rfl
theorem ag54 : Go.Run.isAgg (C m) 54 = some true := by kernel_rfl
theorem sz54 : size (C m) 54 = some 7 := by kernel_rfl
theorem in54 : ((C m).P.info? 54).map (fun t => (t.size, t.bytes)) = some (7, 88) := by kernel_rfl
theorem fa54_0 {i o : Nat} : fadO (C m) 54 (P i o) 0 σ = .val (P i (o + 0)) := by kernel_rfl
theorem fa54_1 {i o : Nat} : fadO (C m) 54 (P i o) 1 σ = .val (P i (o + 1)) := by kernel_rfl
theorem fa54_2 {i o : Nat} : fadO (C m) 54 (P i o) 2 σ = .val (P i (o + 2)) := by kernel_rfl
theorem fa54_3 {i o : Nat} : fadO (C m) 54 (P i o) 3 σ = .val (P i (o + 3)) := by kernel_rfl
theorem fa54_4 {i o : Nat} : fadO (C m) 54 (P i o) 4 σ = .val (P i (o + 4)) := by kernel_rfl
theorem ag55 : Go.Run.isAgg (C m) 55 = some true := by kernel_rfl
theorem sz55 : size (C m) 55 = some 7 := by kernel_rfl
theorem in55 : ((C m).P.info? 55).map (fun t => (t.size, t.bytes)) = some (7, 88) := by kernel_rfl
theorem fa55_0 {i o : Nat} : fadO (C m) 55 (P i o) 0 σ = .val (P i (o + 0)) := by kernel_rfl
theorem fa55_1 {i o : Nat} : fadO (C m) 55 (P i o) 1 σ = .val (P i (o + 1)) := by kernel_rfl
theorem fa55_2 {i o : Nat} : fadO (C m) 55 (P i o) 2 σ = .val (P i (o + 2)) := by kernel_rfl
theorem fa55_3 {i o : Nat} : fadO (C m) 55 (P i o) 3 σ = .val (P i (o + 3)) := by kernel_rfl
theorem fa55_4 {i o : Nat} : fadO (C m) 55 (P i o) 4 σ = .val (P i (o + 4)) := by kernel_rfl
theorem un56 : und (C m) 56 = some (.slice 4) := by kernel_rfl
theorem ag56 : Go.Run.isAgg (C m) 56 = some false := by kernel_rfl
theorem sz56 : size (C m) 56 = some 1 := by kernel_rfl
theorem in56 : ((C m).P.info? 56).map (fun t => (t.size, t.bytes)) = some (1, 24) := by kernel_rfl
theorem ag57 : Go.Run.isAgg (C m) 57 = some true := by kernel_rfl
theorem sz57 : size (C m) 57 = some 3 := by kernel_rfl
theorem in57 : ((C m).P.info? 57).map (fun t => (t.size, t.bytes)) = some (3, 40) := by kernel_rfl
theorem fa57_0 {i o : Nat} : fadO (C m) 57 (P i o) 0 σ = .val (P i (o + 0)) := by kernel_rfl
theorem fa57_1 {i o : Nat} : fadO (C m) 57 (P i o) 1 σ = .val (P i (o + 1)) := by kernel_rfl
theorem fa57_2 {i o : Nat} : fadO (C m) 57 (P i o) 2 σ = .val (P i (o + 2)) := by kernel_rfl
theorem ag58 : Go.Run.isAgg (C m) 58 = some true := by kernel_rfl
theorem sz58 : size (C m) 58 = some 3 := by kernel_rfl
theorem in58 : ((C m).P.info? 58).map (fun t => (t.size, t.bytes)) = some (3, 40) := by kernel_rfl
theorem fa58_0 {i o : Nat} : fadO (C m) 58 (P i o) 0 σ = .val (P i (o + 0)) := by kernel_rfl
theorem fa58_1 {i o : Nat} : fadO (C m) 58 (P i o) 1 σ = .val (P i (o + 1)) := by kernel_rfl
theorem fa58_2 {i o : Nat} : fadO (C m) 58 (P i o) 2 σ = .val (P i (o + 2)) := by kernel_rfl
theorem un59 : und (C m) 59 = some (.slice 143) := by kernel_rfl
theorem ag59 : Go.Run.isAgg (C m) 59 = some false := by kernel_rfl
theorem sz59 : size (C m) 59 = some 1 := by kernel_rfl
theorem in59 : ((C m).P.info? 59).map (fun t => (t.size, t.bytes)) = some (1, 24) := by kernel_rfl
theorem ag60 : Go.Run.isAgg (C m) 60 = some true := by kernel_rfl
theorem sz60 : size (C m) 60 = some 5 := by kernel_rfl
theorem in60 : ((C m).P.info? 60).map (fun t => (t.size, t.bytes)) = some (5, 72) := by kernel_rfl
theorem fa60_0 {i o : Nat} : fadO (C m) 60 (P i o) 0 σ = .val (P i (o + 0)) := by kernel_rfl
theorem fa60_1 {i o : Nat} : fadO (C m) 60 (P i o) 1 σ = .val (P i (o + 1)) := by kernel_rfl
theorem fa60_2 {i o : Nat} : fadO (C m) 60 (P i o) 2 σ = .val (P i (o + 4)) := by kernel_rfl
theorem ag61 : Go.Run.isAgg (C m) 61 = some true := by kernel_rfl
theorem sz61 : size (C m) 61 = some 5 := by kernel_rfl
theorem in61 : ((C m).P.info? 61).map (fun t => (t.size, t.bytes)) = some (5, 72) := by kernel_rfl
theorem fa61_0 {i o : Nat} : fadO (C m) 61 (P i o) 0 σ = .val (P i (o + 0)) := by kernel_rfl
theorem fa61_1 {i o : Nat} : fadO (C m) 61 (P i o) 1 σ = .val (P i (o + 1)) := by kernel_rfl
theorem fa61_2 {i o : Nat} : fadO (C m) 61 (P i o) 2 σ = .val (P i (o + 4)) := by kernel_rfl
theorem un62 : und (C m) 62 = some (.slice 153) := by kernel_rfl
theorem ag62 : Go.Run.isAgg (C m) 62 = some false := by kernel_rfl
theorem sz62 : size (C m) 62 = some 1 := by kernel_rfl
theorem in62 : ((C m).P.info? 62).map (fun t => (t.size, t.bytes)) = some (1, 24) := by kernel_rfl
theorem ag63 : Go.Run.isAgg (C m) 63 = some true := by kernel_rfl
theorem sz63 : size (C m) 63 = some 3 := by kernel_rfl
theorem in63 : ((C m).P.info? 63).map (fun t => (t.size, t.bytes)) = some (3, 40) := by kernel_rfl
theorem fa63_0 {i o : Nat} : fadO (C m) 63 (P i o) 0 σ = .val (P i (o + 0)) := by kernel_rfl
theorem fa63_1 {i o : Nat} : fadO (C m) 63 (P i o) 1 σ = .val (P i (o + 1)) := by kernel_rfl
theorem fa63_2 {i o : Nat} : fadO (C m) 63 (P i o) 2 σ = .val (P i (o + 2)) := by kernel_rfl
theorem ag64 : Go.Run.isAgg (C m) 64 = some true := by kernel_rfl
theorem sz64 : size (C m) 64 = some 3 := by kernel_rfl
theorem in64 : ((C m).P.info? 64).map (fun t => (t.size, t.bytes)) = some (3, 40) := by kernel_rfl
theorem fa64_0 {i o : Nat} : fadO (C m) 64 (P i o) 0 σ = .val (P i (o + 0)) := by kernel_rfl
theorem fa64_1 {i o : Nat} : fadO (C m) 64 (P i o) 1 σ = .val (P i (o + 1)) := by kernel_rfl
theorem fa64_2 {i o : Nat} : fadO (C m) 64 (P i o) 2 σ = .val (P i (o + 2)) := by kernel_rfl
theorem un65 : und (C m) 65 = some (.slice 159) := by kernel_rfl
theorem ag65 : Go.Run.isAgg (C m) 65 = some false := by kernel_rfl
theorem sz65 : size (C m) 65 = some 1 := by kernel_rfl
theorem in65 : ((C m).P.info? 65).map (fun t => (t.size, t.bytes)) = some (1, 24) := by kernel_rfl
theorem ag66 : Go.Run.isAgg (C m) 66 = some true := by kernel_rfl
theorem sz66 : size (C m) 66 = some 2 := by kernel_rfl
theorem in66 : ((C m).P.info? 66).map (fun t => (t.size, t.bytes)) = some (2, 32) := by kernel_rfl
theorem fa66_0 {i o : Nat} : fadO (C m) 66 (P i o) 0 σ = .val (P i (o + 0)) := by kernel_rfl
theorem fa66_1 {i o : Nat} : fadO (C m) 66 (P i o) 1 σ = .val (P i (o + 1)) := by kernel_rfl
theorem ag67 : Go.Run.isAgg (C m) 67 = some true := by kernel_rfl
theorem sz67 : size (C m) 67 = some 2 := by kernel_rfl
theorem in67 : ((C m).P.info? 67).map (fun t => (t.size, t.bytes)) = some (2, 32) := by kernel_rfl
theorem fa67_0 {i o : Nat} : fadO (C m) 67 (P i o) 0 σ = .val (P i (o + 0)) := by kernel_rfl
theorem fa67_1 {i o : Nat} : fadO (C m) 67 (P i o) 1 σ = .val (P i (o + 1)) := by kernel_rfl
theorem ag68 : Go.Run.isAgg (C m) 68 = some true := by kernel_rfl
theorem sz68 : size (C m) 68 = some 38 := by kernel_rfl
theorem in68 : ((C m).P.info? 68).map (fun t => (t.size, t.bytes)) = some (38, 416) := by kernel_rfl
theorem fa68_0 {i o : Nat} : fadO (C m) 68 (P i o) 0 σ = .val (P i (o + 0)) := by kernel_rfl
theorem fa68_1 {i o : Nat} : fadO (C m) 68 (P i o) 1 σ = .val (P i (o + 18)) := by kernel_rfl
theorem fa68_2 {i o : Nat} : fadO (C m) 68 (P i o) 2 σ = .val (P i (o + 19)) := by kernel_rfl
theorem fa68_3 {i o : Nat} : fadO (C m) 68 (P i o) 3 σ = .val (P i (o + 20)) := by kernel_rfl
theorem fa68_4 {i o : Nat} : fadO (C m) 68 (P i o) 4 σ = .val (P i (o + 21)) := by kernel_rfl
theorem fa68_5 {i o : Nat} : fadO (C m) 68 (P i o) 5 σ = .val (P i (o + 28)) := by kernel_rfl
theorem fa68_6 {i o : Nat} : fadO (C m) 68 (P i o) 6 σ = .val (P i (o + 33)) := by kernel_rfl
theorem fa68_7 {i o : Nat} : fadO (C m) 68 (P i o) 7 σ = .val (P i (o + 36)) := by kernel_rfl
theorem ag69 : Go.Run.isAgg (C m) 69 = some true := by kernel_rfl
theorem sz69 : size (C m) 69 = some 38 := by kernel_rfl
theorem in69 : ((C m).P.info? 69).map (fun t => (t.size, t.bytes)) = some (38, 416) := by kernel_rfl
theorem fa69_0 {i o : Nat} : fadO (C m) 69 (P i o) 0 σ = .val (P i (o + 0)) := by kernel_rfl
theorem fa69_1 {i o : Nat} : fadO (C m) 69 (P i o) 1 σ = .val (P i (o + 18)) := by kernel_rfl
theorem fa69_2 {i o : Nat} : fadO (C m) 69 (P i o) 2 σ = .val (P i (o + 19)) := by kernel_rfl
theorem fa69_3 {i o : Nat} : fadO (C m) 69 (P i o) 3 σ = .val (P i (o + 20)) := by kernel_rfl
theorem fa69_4 {i o : Nat} : fadO (C m) 69 (P i o) 4 σ = .val (P i (o + 21)) := by kernel_rfl
theorem fa69_5 {i o : Nat} : fadO (C m) 69 (P i o) 5 σ = .val (P i (o + 28)) := by kernel_rfl
theorem fa69_6 {i o : Nat} : fadO (C m) 69 (P i o) 6 σ = .val (P i (o + 33)) := by kernel_rfl
theorem fa69_7 {i o : Nat} : fadO (C m) 69 (P i o) 7 σ = .val (P i (o + 36)) := by kernel_rfl
theorem ag70 : Go.Run.isAgg (C m) 70 = some false := by kernel_rfl
theorem sz70 : size (C m) 70 = some 1 := by kernel_rfl
theorem in70 : ((C m).P.info? 70).map (fun t => (t.size, t.bytes)) = some (1, 0) := by kernel_rfl
theorem ag71 : Go.Run.isAgg (C m) 71 = some false := by kernel_rfl
theorem sz71 : size (C m) 71 = some 1 := by kernel_rfl
theorem in71 : ((C m).P.info? 71).map (fun t => (t.size, t.bytes)) = some (1, 8) := by kernel_rfl
theorem ag72 : Go.Run.isAgg (C m) 72 = some false := by kernel_rfl
theorem sz72 : size (C m) 72 = some 1 := by kernel_rfl
theorem in72 : ((C m).P.info? 72).map (fun t => (t.size, t.bytes)) = some (1, 8) := by kernel_rfl
theorem un73 : und (C m) 73 = some (.slice 23) := by kernel_rfl
theorem ag73 : Go.Run.isAgg (C m) 73 = some false := by kernel_rfl
theorem sz73 : size (C m) 73 = some 1 := by kernel_rfl
theorem in73 : ((C m).P.info? 73).map (fun t => (t.size, t.bytes)) = some (1, 24) := by kernel_rfl
theorem ag74 : Go.Run.isAgg (C m) 74 = some false := by kernel_rfl
theorem sz74 : size (C m) 74 = some 1 := by kernel_rfl
theorem in74 : ((C m).P.info? 74).map (fun t => (t.size, t.bytes)) = some (1, 8) := by kernel_rfl
theorem un75 : und (C m) 75 = some (.pointer 113) := by kernel_rfl
theorem ag75 : Go.Run.isAgg (C m) 75 = some false := by kernel_rfl
theorem sz75 : size (C m) 75 = some 1 := by kernel_rfl
theorem in75 : ((C m).P.info? 75).map (fun t => (t.size, t.bytes)) = some (1, 8) := by kernel_rfl
theorem ag76 : Go.Run.isAgg (C m) 76 = some false := by kernel_rfl
theorem sz76 : size (C m) 76 = some 1 := by kernel_rfl
theorem in76 : ((C m).P.info? 76).map (fun t => (t.size, t.bytes)) = some (1, 8) := by kernel_rfl
theorem ag77 : Go.Run.isAgg (C m) 77 = some false := by kernel_rfl
theorem sz77 : size (C m) 77 = some 1 := by kernel_rfl
theorem in77 : ((C m).P.info? 77).map (fun t => (t.size, t.bytes)) = some (1, 8) := by kernel_rfl
theorem ag78 : Go.Run.isAgg (C m) 78 = some false := by kernel_rfl
theorem sz78 : size (C m) 78 = some 1 := by kernel_rfl
theorem in78 : ((C m).P.info? 78).map (fun t => (t.size, t.bytes)) = some (1, 8) := by kernel_rfl
theorem ag79 : Go.Run.isAgg (C m) 79 = some false := by kernel_rfl
theorem sz79 : size (C m) 79 = some 1 := by kernel_rfl
theorem in79 : ((C m).P.info? 79).map (fun t => (t.size, t.bytes)) = some (1, 8) := by kernel_rfl
theorem ag80 : Go.Run.isAgg (C m) 80 = some false := by kernel_rfl
theorem sz80 : size (C m) 80 = some 1 := by kernel_rfl
theorem in80 : ((C m).P.info? 80).map (fun t => (t.size, t.bytes)) = some (1, 8) := by kernel_rfl
theorem un81 : und (C m) 81 = some (.slice 35) := by kernel_rfl
theorem ag81 : Go.Run.isAgg (C m) 81 = some false := by kernel_rfl
theorem sz81 : size (C m) 81 = some 1 := by kernel_rfl
theorem in81 : ((C m).P.info? 81).map (fun t => (t.size, t.bytes)) = some (1, 24) := by kernel_rfl
theorem ag82 : Go.Run.isAgg (C m) 82 = some true := by kernel_rfl
theorem sz82 : size (C m) 82 = some 3 := by kernel_rfl
theorem in82 : ((C m).P.info? 82).map (fun t => (t.size, t.bytes)) = some (3, 48) := by kernel_rfl
theorem fa82_0 {i o : Nat} : fadO (C m) 82 (P i o) 0 σ = .val (P i (o + 0)) := by kernel_rfl
theorem fa82_1 {i o : Nat} : fadO (C m) 82 (P i o) 1 σ = .val (P i (o + 1)) := by kernel_rfl
theorem fa82_2 {i o : Nat} : fadO (C m) 82 (P i o) 2 σ = .val (P i (o + 2)) := by kernel_rfl
theorem ag83 : Go.Run.isAgg (C m) 83 = some true := by kernel_rfl
theorem sz83 : size (C m) 83 = some 3 := by kernel_rfl
theorem in83 : ((C m).P.info? 83).map (fun t => (t.size, t.bytes)) = some (3, 48) := by kernel_rfl
theorem fa83_0 {i o : Nat} : fadO (C m) 83 (P i o) 0 σ = .val (P i (o + 0)) := by kernel_rfl
theorem fa83_1 {i o : Nat} : fadO (C m) 83 (P i o) 1 σ = .val (P i (o + 1)) := by kernel_rfl
theorem fa83_2 {i o : Nat} : fadO (C m) 83 (P i o) 2 σ = .val (P i (o + 2)) := by kernel_rfl
theorem un84 : und (C m) 84 = some (.slice 83) := by kernel_rfl
theorem ag84 : Go.Run.isAgg (C m) 84 = some false := by kernel_rfl
theorem sz84 : size (C m) 84 = some 1 := by kernel_rfl
theorem in84 : ((C m).P.info? 84).map (fun t => (t.size, t.bytes)) = some (1, 24) := by kernel_rfl
theorem ag85 : Go.Run.isAgg (C m) 85 = some true := by kernel_rfl
theorem sz85 : size (C m) 85 = some 4 := by kernel_rfl
theorem in85 : ((C m).P.info? 85).map (fun t => (t.size, t.bytes)) = some (4, 48) := by kernel_rfl
theorem fa85_0 {i o : Nat} : fadO (C m) 85 (P i o) 0 σ = .val (P i (o + 0)) := by kernel_rfl
theorem fa85_1 {i o : Nat} : fadO (C m) 85 (P i o) 1 σ = .val (P i (o + 1)) := by kernel_rfl
theorem fa85_2 {i o : Nat} : fadO (C m) 85 (P i o) 2 σ = .val (P i (o + 2)) := by kernel_rfl
theorem fa85_3 {i o : Nat} : fadO (C m) 85 (P i o) 3 σ = .val (P i (o + 3)) := by kernel_rfl
theorem ag86 : Go.Run.isAgg (C m) 86 = some true := by kernel_rfl
theorem sz86 : size (C m) 86 = some 4 := by kernel_rfl
theorem in86 : ((C m).P.info? 86).map (fun t => (t.size, t.bytes)) = some (4, 48) := by kernel_rfl
theorem fa86_0 {i o : Nat} : fadO (C m) 86 (P i o) 0 σ = .val (P i (o + 0)) := by kernel_rfl
theorem fa86_1 {i o : Nat} : fadO (C m) 86 (P i o) 1 σ = .val (P i (o + 1)) := by kernel_rfl
theorem fa86_2 {i o : Nat} : fadO (C m) 86 (P i o) 2 σ = .val (P i (o + 2)) := by kernel_rfl
theorem fa86_3 {i o : Nat} : fadO (C m) 86 (P i o) 3 σ = .val (P i (o + 3)) := by kernel_rfl
theorem ag87 : Go.Run.isAgg (C m) 87 = some false := by kernel_rfl
theorem sz87 : size (C m) 87 = some 1 := by kernel_rfl
theorem in87 : ((C m).P.info? 87).map (fun t => (t.size, t.bytes)) = some (1, 8) := by kernel_rfl
theorem un88 : und (C m) 88 = some (.slice 9) := by kernel_rfl
theorem ag88 : Go.Run.isAgg (C m) 88 = some false := by kernel_rfl
theorem sz88 : size (C m) 88 = some 1 := by kernel_rfl
theorem in88 : ((C m).P.info? 88).map (fun t => (t.size, t.bytes)) = some (1, 24) := by kernel_rfl
theorem un89 : und (C m) 89 = some (.slice 39) := by kernel_rfl
theorem ag89 : Go.Run.isAgg (C m) 89 = some false := by kernel_rfl
theorem sz89 : size (C m) 89 = some 1 := by kernel_rfl
theorem in89 : ((C m).P.info? 89).map (fun t => (t.size, t.bytes)) = some (1, 24) := by kernel_rfl
theorem ag90 : Go.Run.isAgg (C m) 90 = some true := by kernel_rfl
theorem sz90 : size (C m) 90 = some 3 := by kernel_rfl
theorem in90 : ((C m).P.info? 90).map (fun t => (t.size, t.bytes)) = some (3, 48) := by kernel_rfl
theorem fa90_0 {i o : Nat} : fadO (C m) 90 (P i o) 0 σ = .val (P i (o + 0)) := by kernel_rfl
theorem fa90_1 {i o : Nat} : fadO (C m) 90 (P i o) 1 σ = .val (P i (o + 1)) := by kernel_rfl
theorem fa90_2 {i o : Nat} : fadO (C m) 90 (P i o) 2 σ = .val (P i (o + 2)) := by kernel_rfl
theorem ag91 : Go.Run.isAgg (C m) 91 = some true := by kernel_rfl
theorem sz91 : size (C m) 91 = some 3 := by kernel_rfl
theorem in91 : ((C m).P.info? 91).map (fun t => (t.size, t.bytes)) = some (3, 48) := by kernel_rfl
theorem fa91_0 {i o : Nat} : fadO (C m) 91 (P i o) 0 σ = .val (P i (o + 0)) := by kernel_rfl
theorem fa91_1 {i o : Nat} : fadO (C m) 91 (P i o) 1 σ = .val (P i (o + 1)) := by kernel_rfl
theorem fa91_2 {i o : Nat} : fadO (C m) 91 (P i o) 2 σ = .val (P i (o + 2)) := by kernel_rfl
theorem un92 : und (C m) 92 = some (.slice 91) := by kernel_rfl
theorem ag92 : Go.Run.isAgg (C m) 92 = some false := by kernel_rfl
theorem sz92 : size (C m) 92 = some 1 := by kernel_rfl
theorem in92 : ((C m).P.info? 92).map (fun t => (t.size, t.bytes)) = some (1, 24) := by kernel_rfl
theorem ag93 : Go.Run.isAgg (C m) 93 = some true := by kernel_rfl
theorem sz93 : size (C m) 93 = some 4 := by kernel_rfl
theorem in93 : ((C m).P.info? 93).map (fun t => (t.size, t.bytes)) = some (4, 48) := by kernel_rfl
theorem fa93_0 {i o : Nat} : fadO (C m) 93 (P i o) 0 σ = .val (P i (o + 0)) := by kernel_rfl
theorem fa93_1 {i o : Nat} : fadO (C m) 93 (P i o) 1 σ = .val (P i (o + 1)) := by kernel_rfl
theorem fa93_2 {i o : Nat} : fadO (C m) 93 (P i o) 2 σ = .val (P i (o + 2)) := by kernel_rfl
theorem fa93_3 {i o : Nat} : fadO (C m) 93 (P i o) 3 σ = .val (P i (o + 3)) := by kernel_rfl
theorem ag94 : Go.Run.isAgg (C m) 94 = some true := by kernel_rfl
theorem sz94 : size (C m) 94 = some 4 := by kernel_rfl
theorem in94 : ((C m).P.info? 94).map (fun t => (t.size, t.bytes)) = some (4, 48) := by kernel_rfl
theorem fa94_0 {i o : Nat} : fadO (C m) 94 (P i o) 0 σ = .val (P i (o + 0)) := by kernel_rfl
theorem fa94_1 {i o : Nat} : fadO (C m) 94 (P i o) 1 σ = .val (P i (o + 1)) := by kernel_rfl
theorem fa94_2 {i o : Nat} : fadO (C m) 94 (P i o) 2 σ = .val (P i (o + 2)) := by kernel_rfl
theorem fa94_3 {i o : Nat} : fadO (C m) 94 (P i o) 3 σ = .val (P i (o + 3)) := by kernel_rfl
theorem ag95 : Go.Run.isAgg (C m) 95 = some false := by kernel_rfl
theorem sz95 : size (C m) 95 = some 1 := by kernel_rfl
theorem in95 : ((C m).P.info? 95).map (fun t => (t.size, t.bytes)) = some (1, 8) := by kernel_rfl
theorem ag96 : Go.Run.isAgg (C m) 96 = some false := by kernel_rfl
theorem sz96 : size (C m) 96 = some 1 := by kernel_rfl
theorem in96 : ((C m).P.info? 96).map (fun t => (t.size, t.bytes)) = some (1, 8) := by kernel_rfl
theorem ag97 : Go.Run.isAgg (C m) 97 = some false := by kernel_rfl
theorem sz97 : size (C m) 97 = some 1 := by kernel_rfl
theorem in97 : ((C m).P.info? 97).map (fun t => (t.size, t.bytes)) = some (1, 8) := by kernel_rfl
theorem ag98 : Go.Run.isAgg (C m) 98 = some false := by kernel_rfl
theorem sz98 : size (C m) 98 = some 1 := by kernel_rfl
theorem in98 : ((C m).P.info? 98).map (fun t => (t.size, t.bytes)) = some (1, 0) := by kernel_rfl
theorem ag99 : Go.Run.isAgg (C m) 99 = some false := by kernel_rfl
theorem sz99 : size (C m) 99 = some 1 := by kernel_rfl
theorem in99 : ((C m).P.info? 99).map (fun t => (t.size, t.bytes)) = some (1, 8) := by kernel_rfl
theorem ag100 : Go.Run.isAgg (C m) 100 = some false := by kernel_rfl
theorem sz100 : size (C m) 100 = some 1 := by kernel_rfl
theorem in100 : ((C m).P.info? 100).map (fun t => (t.size, t.bytes)) = some (1, 8) := by kernel_rfl
theorem ag101 : Go.Run.isAgg (C m) 101 = some false := by kernel_rfl
theorem sz101 : size (C m) 101 = some 1 := by kernel_rfl
theorem in101 : ((C m).P.info? 101).map (fun t => (t.size, t.bytes)) = some (1, 0) := by kernel_rfl
theorem ag102 : Go.Run.isAgg (C m) 102 = some false := by kernel_rfl
theorem sz102 : size (C m) 102 = some 1 := by kernel_rfl
theorem in102 : ((C m).P.info? 102).map (fun t => (t.size, t.bytes)) = some (1, 8) := by kernel_rfl
theorem ag103 : Go.Run.isAgg (C m) 103 = some false := by kernel_rfl
theorem sz103 : size (C m) 103 = some 1 := by kernel_rfl
theorem in103 : ((C m).P.info? 103).map (fun t => (t.size, t.bytes)) = some (1, 0) := by kernel_rfl
theorem ag104 : Go.Run.isAgg (C m) 104 = some false := by kernel_rfl
theorem sz104 : size (C m) 104 = some 1 := by kernel_rfl
theorem in104 : ((C m).P.info? 104).map (fun t => (t.size, t.bytes)) = some (1, 8) := by kernel_rfl
theorem ag105 : Go.Run.isAgg (C m) 105 = some false := by kernel_rfl
theorem sz105 : size (C m) 105 = some 1 := by kernel_rfl
theorem in105 : ((C m).P.info? 105).map (fun t => (t.size, t.bytes)) = some (1, 0) := by kernel_rfl
theorem ag106 : Go.Run.isAgg (C m) 106 = some false := by kernel_rfl
theorem sz106 : size (C m) 106 = some 1 := by kernel_rfl
theorem in106 : ((C m).P.info? 106).map (fun t => (t.size, t.bytes)) = some (1, 8) := by kernel_rfl
theorem ag107 : Go.Run.isAgg (C m) 107 = some false := by kernel_rfl
theorem sz107 : size (C m) 107 = some 1 := by kernel_rfl
theorem in107 : ((C m).P.info? 107).map (fun t => (t.size, t.bytes)) = some (1, 8) := by kernel_rfl
theorem ag108 : Go.Run.isAgg (C m) 108 = some false := by kernel_rfl
theorem sz108 : size (C m) 108 = some 1 := by kernel_rfl
theorem in108 : ((C m).P.info? 108).map (fun t => (t.size, t.bytes)) = some (1, 8) := by kernel_rfl
theorem un109 : und (C m) 109 = some (.map 119 4) := by kernel_rfl
theorem ag109 : Go.Run.isAgg (C m) 109 = some false := by kernel_rfl
theorem sz109 : size (C m) 109 = some 1 := by kernel_rfl
theorem in109 : ((C m).P.info? 109).map (fun t => (t.size, t.bytes)) = some (1, 8) := by kernel_rfl
theorem un110 : und (C m) 110 = some (.map 180 181) := by kernel_rfl
theorem ag110 : Go.Run.isAgg (C m) 110 = some false := by kernel_rfl
theorem sz110 : size (C m) 110 = some 1 := by kernel_rfl
theorem in110 : ((C m).P.info? 110).map (fun t => (t.size, t.bytes)) = some (1, 8) := by kernel_rfl
theorem un111 : und (C m) 111 = some (.slice 122) := by kernel_rfl
theorem ag111 : Go.Run.isAgg (C m) 111 = some false := by kernel_rfl
theorem sz111 : size (C m) 111 = some 1 := by kernel_rfl
theorem in111 : ((C m).P.info? 111).map (fun t => (t.size, t.bytes)) = some (1, 24) := by kernel_rfl
theorem ag112 : Go.Run.isAgg (C m) 112 = some true := by kernel_rfl
theorem sz112 : size (C m) 112 = some 22 := by kernel_rfl
theorem in112 : ((C m).P.info? 112).map (fun t => (t.size, t.bytes)) = some (22, 192) := by kernel_rfl
theorem fa112_0 {i o : Nat} : fadO (C m) 112 (P i o) 0 σ = .val (P i (o + 0)) := by kernel_rfl
theorem fa112_1 {i o : Nat} : fadO (C m) 112 (P i o) 1 σ = .val (P i (o + 18)) := by kernel_rfl
theorem fa112_2 {i o : Nat} : fadO (C m) 112 (P i o) 2 σ = .val (P i (o + 19)) := by kernel_rfl
theorem fa112_3 {i o : Nat} : fadO (C m) 112 (P i o) 3 σ = .val (P i (o + 20)) := by kernel_rfl
theorem fa112_4 {i o : Nat} : fadO (C m) 112 (P i o) 4 σ = .val (P i (o + 21)) := by kernel_rfl
theorem ag113 : Go.Run.isAgg (C m) 113 = some true := by kernel_rfl
theorem sz113 : size (C m) 113 = some 22 := by kernel_rfl
theorem in113 : ((C m).P.info? 113).map (fun t => (t.size, t.bytes)) = some (22, 192) := by kernel_rfl
theorem fa113_0 {i o : Nat} : fadO (C m) 113 (P i o) 0 σ = .val (P i (o + 0)) := by kernel_rfl
theorem fa113_1 {i o : Nat} : fadO (C m) 113 (P i o) 1 σ = .val (P i (o + 18)) := by kernel_rfl
theorem fa113_2 {i o : Nat} : fadO (C m) 113 (P i o) 2 σ = .val (P i (o + 19)) := by kernel_rfl
theorem fa113_3 {i o : Nat} : fadO (C m) 113 (P i o) 3 σ = .val (P i (o + 20)) := by kernel_rfl
theorem fa113_4 {i o : Nat} : fadO (C m) 113 (P i o) 4 σ = .val (P i (o + 21)) := by kernel_rfl
theorem ag114 : Go.Run.isAgg (C m) 114 = some false := by kernel_rfl
theorem sz114 : size (C m) 114 = some 1 := by kernel_rfl
theorem in114 : ((C m).P.info? 114).map (fun t => (t.size, t.bytes)) = some (1, 0) := by kernel_rfl
theorem ag115 : Go.Run.isAgg (C m) 115 = some false := by kernel_rfl
theorem sz115 : size (C m) 115 = some 1 := by kernel_rfl
theorem in115 : ((C m).P.info? 115).map (fun t => (t.size, t.bytes)) = some (1, 8) := by kernel_rfl
theorem ag116 : Go.Run.isAgg (C m) 116 = some false := by kernel_rfl
theorem sz116 : size (C m) 116 = some 1 := by kernel_rfl
theorem in116 : ((C m).P.info? 116).map (fun t => (t.size, t.bytes)) = some (1, 8) := by kernel_rfl
theorem ag117 : Go.Run.isAgg (C m) 117 = some false := by kernel_rfl
theorem sz117 : size (C m) 117 = some 1 := by kernel_rfl
theorem in117 : ((C m).P.info? 117).map (fun t => (t.size, t.bytes)) = some (1, 8) := by kernel_rfl
theorem ag118 : Go.Run.isAgg (C m) 118 = some true := by kernel_rfl
theorem sz118 : size (C m) 118 = some 2 := by kernel_rfl
theorem in118 : ((C m).P.info? 118).map (fun t => (t.size, t.bytes)) = some (2, 16) := by kernel_rfl
theorem fa118_0 {i o : Nat} : fadO (C m) 118 (P i o) 0 σ = .val (P i (o + 0)) := by kernel_rfl
theorem fa118_1 {i o : Nat} : fadO (C m) 118 (P i o) 1 σ = .val (P i (o + 1)) := by kernel_rfl
theorem ag119 : Go.Run.isAgg (C m) 119 = some true := by kernel_rfl
theorem sz119 : size (C m) 119 = some 2 := by kernel_rfl
theorem in119 : ((C m).P.info? 119).map (fun t => (t.size, t.bytes)) = some (2, 16) := by kernel_rfl
theorem fa119_0 {i o : Nat} : fadO (C m) 119 (P i o) 0 σ = .val (P i (o + 0)) := by kernel_rfl
theorem fa119_1 {i o : Nat} : fadO (C m) 119 (P i o) 1 σ = .val (P i (o + 1)) := by kernel_rfl
theorem ag120 : Go.Run.isAgg (C m) 120 = some false := by kernel_rfl
theorem sz120 : size (C m) 120 = some 1 := by kernel_rfl
theorem in120 : ((C m).P.info? 120).map (fun t => (t.size, t.bytes)) = some (1, 8) := by kernel_rfl
theorem ag121 : Go.Run.isAgg (C m) 121 = some true := by kernel_rfl
theorem sz121 : size (C m) 121 = some 3 := by kernel_rfl
theorem in121 : ((C m).P.info? 121).map (fun t => (t.size, t.bytes)) = some (3, 32) := by kernel_rfl
theorem fa121_0 {i o : Nat} : fadO (C m) 121 (P i o) 0 σ = .val (P i (o + 0)) := by kernel_rfl
theorem fa121_1 {i o : Nat} : fadO (C m) 121 (P i o) 1 σ = .val (P i (o + 2)) := by kernel_rfl
theorem ag122 : Go.Run.isAgg (C m) 122 = some true := by kernel_rfl
theorem sz122 : size (C m) 122 = some 3 := by kernel_rfl
theorem in122 : ((C m).P.info? 122).map (fun t => (t.size, t.bytes)) = some (3, 32) := by kernel_rfl
theorem fa122_0 {i o : Nat} : fadO (C m) 122 (P i o) 0 σ = .val (P i (o + 0)) := by kernel_rfl
theorem fa122_1 {i o : Nat} : fadO (C m) 122 (P i o) 1 σ = .val (P i (o + 2)) := by kernel_rfl
theorem ag123 : Go.Run.isAgg (C m) 123 = some false := by kernel_rfl
theorem sz123 : size (C m) 123 = some 1 := by kernel_rfl
theorem in123 : ((C m).P.info? 123).map (fun t => (t.size, t.bytes)) = some (1, 8) := by kernel_rfl
theorem ag124 : Go.Run.isAgg (C m) 124 = some false := by kernel_rfl
theorem sz124 : size (C m) 124 = some 1 := by kernel_rfl
theorem in124 : ((C m).P.info? 124).map (fun t => (t.size, t.bytes)) = some (1, 8) := by kernel_rfl
theorem un125 : und (C m) 125 = some (.pointer 128) := by kernel_rfl
theorem ag125 : Go.Run.isAgg (C m) 125 = some false := by kernel_rfl
theorem sz125 : size (C m) 125 = some 1 := by kernel_rfl
theorem in125 : ((C m).P.info? 125).map (fun t => (t.size, t.bytes)) = some (1, 8) := by kernel_rfl
theorem un126 : und (C m) 126 = some (.slice 5) := by kernel_rfl
theorem ag126 : Go.Run.isAgg (C m) 126 = some false := by kernel_rfl
theorem sz126 : size (C m) 126 = some 1 := by kernel_rfl
theorem in126 : ((C m).P.info? 126).map (fun t => (t.size, t.bytes)) = some (1, 24) := by kernel_rfl
theorem ag127 : Go.Run.isAgg (C m) 127 = some true := by kernel_rfl
theorem sz127 : size (C m) 127 = some 2 := by kernel_rfl
theorem in127 : ((C m).P.info? 127).map (fun t => (t.size, t.bytes)) = some (2, 32) := by kernel_rfl
theorem fa127_0 {i o : Nat} : fadO (C m) 127 (P i o) 0 σ = .val (P i (o + 0)) := by kernel_rfl
theorem fa127_1 {i o : Nat} : fadO (C m) 127 (P i o) 1 σ = .val (P i (o + 1)) := by kernel_rfl
theorem ag128 : Go.Run.isAgg (C m) 128 = some true := by kernel_rfl
theorem sz128 : size (C m) 128 = some 2 := by kernel_rfl
theorem in128 : ((C m).P.info? 128).map (fun t => (t.size, t.bytes)) = some (2, 32) := by kernel_rfl
theorem fa128_0 {i o : Nat} : fadO (C m) 128 (P i o) 0 σ = .val (P i (o + 0)) := by kernel_rfl
theorem fa128_1 {i o : Nat} : fadO (C m) 128 (P i o) 1 σ = .val (P i (o + 1)) := by kernel_rfl
theorem ag129 : Go.Run.isAgg (C m) 129 = some false := by kernel_rfl
theorem sz129 : size (C m) 129 = some 1 := by kernel_rfl
theorem in129 : ((C m).P.info? 129).map (fun t => (t.size, t.bytes)) = some (1, 8) := by kernel_rfl
theorem ag130 : Go.Run.isAgg (C m) 130 = some false := by kernel_rfl
theorem sz130 : size (C m) 130 = some 1 := by kernel_rfl
theorem in130 : ((C m).P.info? 130).map (fun t => (t.size, t.bytes)) = some (1, 16) := by kernel_rfl
theorem ag131 : Go.Run.isAgg (C m) 131 = some false := by kernel_rfl
theorem sz131 : size (C m) 131 = some 1 := by kernel_rfl
theorem in131 : ((C m).P.info? 131).map (fun t => (t.size, t.bytes)) = some (1, 16) := by kernel_rfl
theorem ag132 : Go.Run.isAgg (C m) 132 = some false := by kernel_rfl
theorem sz132 : size (C m) 132 = some 1 := by kernel_rfl
theorem in132 : ((C m).P.info? 132).map (fun t => (t.size, t.bytes)) = some (1, 0) := by kernel_rfl
theorem ag133 : Go.Run.isAgg (C m) 133 = some false := by kernel_rfl
theorem sz133 : size (C m) 133 = some 1 := by kernel_rfl
theorem in133 : ((C m).P.info? 133).map (fun t => (t.size, t.bytes)) = some (1, 8) := by kernel_rfl
theorem ag134 : Go.Run.isAgg (C m) 134 = some false := by kernel_rfl
theorem sz134 : size (C m) 134 = some 1 := by kernel_rfl
theorem in134 : ((C m).P.info? 134).map (fun t => (t.size, t.bytes)) = some (1, 8) := by kernel_rfl
theorem ag135 : Go.Run.isAgg (C m) 135 = some false := by kernel_rfl
theorem sz135 : size (C m) 135 = some 1 := by kernel_rfl
theorem in135 : ((C m).P.info? 135).map (fun t => (t.size, t.bytes)) = some (1, 8) := by kernel_rfl
theorem ag136 : Go.Run.isAgg (C m) 136 = some false := by kernel_rfl
theorem sz136 : size (C m) 136 = some 1 := by kernel_rfl
theorem in136 : ((C m).P.info? 136).map (fun t => (t.size, t.bytes)) = some (1, 8) := by kernel_rfl
theorem ag137 : Go.Run.isAgg (C m) 137 = some false := by kernel_rfl
theorem sz137 : size (C m) 137 = some 1 := by kernel_rfl
theorem in137 : ((C m).P.info? 137).map (fun t => (t.size, t.bytes)) = some (1, 8) := by kernel_rfl
theorem ag138 : Go.Run.isAgg (C m) 138 = some false := by kernel_rfl
theorem sz138 : size (C m) 138 = some 1 := by kernel_rfl
theorem in138 : ((C m).P.info? 138).map (fun t => (t.size, t.bytes)) = some (1, 0) := by kernel_rfl
theorem ag139 : Go.Run.isAgg (C m) 139 = some false := by kernel_rfl
theorem sz139 : size (C m) 139 = some 1 := by kernel_rfl
theorem in139 : ((C m).P.info? 139).map (fun t => (t.size, t.bytes)) = some (1, 8) := by kernel_rfl
theorem ag140 : Go.Run.isAgg (C m) 140 = some false := by kernel_rfl
theorem sz140 : size (C m) 140 = some 1 := by kernel_rfl
theorem in140 : ((C m).P.info? 140).map (fun t => (t.size, t.bytes)) = some (1, 8) := by kernel_rfl
theorem ag141 : Go.Run.isAgg (C m) 141 = some false := by kernel_rfl
theorem sz141 : size (C m) 141 = some 1 := by kernel_rfl
theorem in141 : ((C m).P.info? 141).map (fun t => (t.size, t.bytes)) = some (1, 0) := by kernel_rfl
theorem ag142 : Go.Run.isAgg (C m) 142 = some false := by kernel_rfl
theorem sz142 : size (C m) 142 = some 1 := by kernel_rfl
theorem in142 : ((C m).P.info? 142).map (fun t => (t.size, t.bytes)) = some (1, 8) := by kernel_rfl
theorem un143 : und (C m) 143 = some (.slice 146) := by kernel_rfl
theorem ag143 : Go.Run.isAgg (C m) 143 = some false := by kernel_rfl
theorem sz143 : size (C m) 143 = some 1 := by kernel_rfl
theorem in143 : ((C m).P.info? 143).map (fun t => (t.size, t.bytes)) = some (1, 24) := by kernel_rfl
theorem ag144 : Go.Run.isAgg (C m) 144 = some false := by kernel_rfl
theorem sz144 : size (C m) 144 = some 1 := by kernel_rfl
theorem in144 : ((C m).P.info? 144).map (fun t => (t.size, t.bytes)) = some (1, 8) := by kernel_rfl
theorem ag145 : Go.Run.isAgg (C m) 145 = some true := by kernel_rfl
theorem sz145 : size (C m) 145 = some 4 := by kernel_rfl
theorem in145 : ((C m).P.info? 145).map (fun t => (t.size, t.bytes)) = some (4, 40) := by kernel_rfl
theorem fa145_0 {i o : Nat} : fadO (C m) 145 (P i o) 0 σ = .val (P i (o + 0)) := by kernel_rfl
theorem fa145_1 {i o : Nat} : fadO (C m) 145 (P i o) 1 σ = .val (P i (o + 1)) := by kernel_rfl
theorem fa145_2 {i o : Nat} : fadO (C m) 145 (P i o) 2 σ = .val (P i (o + 2)) := by kernel_rfl
theorem fa145_3 {i o : Nat} : fadO (C m) 145 (P i o) 3 σ = .val (P i (o + 3)) := by kernel_rfl
theorem ag146 : Go.Run.isAgg (C m) 146 = some true := by kernel_rfl
theorem sz146 : size (C m) 146 = some 4 := by kernel_rfl
theorem in146 : ((C m).P.info? 146).map (fun t => (t.size, t.bytes)) = some (4, 40) := by kernel_rfl
theorem fa146_0 {i o : Nat} : fadO (C m) 146 (P i o) 0 σ = .val (P i (o + 0)) := by kernel_rfl
theorem fa146_1 {i o : Nat} : fadO (C m) 146 (P i o) 1 σ = .val (P i (o + 1)) := by kernel_rfl
theorem fa146_2 {i o : Nat} : fadO (C m) 146 (P i o) 2 σ = .val (P i (o + 2)) := by kernel_rfl
theorem fa146_3 {i o : Nat} : fadO (C m) 146 (P i o) 3 σ = .val (P i (o + 3)) := by kernel_rfl
theorem ag147 : Go.Run.isAgg (C m) 147 = some true := by kernel_rfl
theorem sz147 : size (C m) 147 = some 2 := by kernel_rfl
theorem in147 : ((C m).P.info? 147).map (fun t => (t.size, t.bytes)) = some (2, 32) := by kernel_rfl
theorem fa147_0 {i o : Nat} : fadO (C m) 147 (P i o) 0 σ = .val (P i (o + 0)) := by kernel_rfl
theorem fa147_1 {i o : Nat} : fadO (C m) 147 (P i o) 1 σ = .val (P i (o + 1)) := by kernel_rfl
theorem ag148 : Go.Run.isAgg (C m) 148 = some true := by kernel_rfl
theorem sz148 : size (C m) 148 = some 2 := by kernel_rfl
theorem in148 : ((C m).P.info? 148).map (fun t => (t.size, t.bytes)) = some (2, 32) := by kernel_rfl
theorem fa148_0 {i o : Nat} : fadO (C m) 148 (P i o) 0 σ = .val (P i (o + 0)) := by kernel_rfl
theorem fa148_1 {i o : Nat} : fadO (C m) 148 (P i o) 1 σ = .val (P i (o + 1)) := by kernel_rfl
theorem ag149 : Go.Run.isAgg (C m) 149 = some false := by kernel_rfl
theorem sz149 : size (C m) 149 = some 1 := by kernel_rfl
theorem in149 : ((C m).P.info? 149).map (fun t => (t.size, t.bytes)) = some (1, 0) := by kernel_rfl
theorem ag150 : Go.Run.isAgg (C m) 150 = some false := by kernel_rfl
theorem sz150 : size (C m) 150 = some 1 := by kernel_rfl
theorem in150 : ((C m).P.info? 150).map (fun t => (t.size, t.bytes)) = some (1, 8) := by kernel_rfl
theorem un151 : und (C m) 151 = some (.slice 220) := by kernel_rfl
theorem ag151 : Go.Run.isAgg (C m) 151 = some false := by kernel_rfl
theorem sz151 : size (C m) 151 = some 1 := by kernel_rfl
theorem in151 : ((C m).P.info? 151).map (fun t => (t.size, t.bytes)) = some (1, 24) := by kernel_rfl
theorem ag152 : Go.Run.isAgg (C m) 152 = some true := by kernel_rfl
theorem sz152 : size (C m) 152 = some 3 := by kernel_rfl
theorem in152 : ((C m).P.info? 152).map (fun t => (t.size, t.bytes)) = some (3, 56) := by kernel_rfl
theorem fa152_0 {i o : Nat} : fadO (C m) 152 (P i o) 0 σ = .val (P i (o + 0)) := by kernel_rfl
theorem fa152_1 {i o : Nat} : fadO (C m) 152 (P i o) 1 σ = .val (P i (o + 2)) := by kernel_rfl
theorem ag153 : Go.Run.isAgg (C m) 153 = some true := by kernel_rfl
theorem sz153 : size (C m) 153 = some 3 := by kernel_rfl
theorem in153 : ((C m).P.info? 153).map (fun t => (t.size, t.bytes)) = some (3, 56) := by kernel_rfl
theorem fa153_0 {i o : Nat} : fadO (C m) 153 (P i o) 0 σ = .val (P i (o + 0)) := by kernel_rfl
theorem fa153_1 {i o : Nat} : fadO (C m) 153 (P i o) 1 σ = .val (P i (o + 2)) := by kernel_rfl
theorem un154 : und (C m) 154 = some (.slice 56) := by kernel_rfl
theorem ag154 : Go.Run.isAgg (C m) 154 = some false := by kernel_rfl
theorem sz154 : size (C m) 154 = some 1 := by kernel_rfl
theorem in154 : ((C m).P.info? 154).map (fun t => (t.size, t.bytes)) = some (1, 24) := by kernel_rfl
theorem ag155 : Go.Run.isAgg (C m) 155 = some true := by kernel_rfl
theorem sz155 : size (C m) 155 = some 2 := by kernel_rfl
theorem in155 : ((C m).P.info? 155).map (fun t => (t.size, t.bytes)) = some (2, 32) := by kernel_rfl
theorem fa155_0 {i o : Nat} : fadO (C m) 155 (P i o) 0 σ = .val (P i (o + 0)) := by kernel_rfl
theorem fa155_1 {i o : Nat} : fadO (C m) 155 (P i o) 1 σ = .val (P i (o + 1)) := by kernel_rfl
theorem ag156 : Go.Run.isAgg (C m) 156 = some true := by kernel_rfl
theorem sz156 : size (C m) 156 = some 2 := by kernel_rfl
theorem in156 : ((C m).P.info? 156).map (fun t => (t.size, t.bytes)) = some (2, 32) := by kernel_rfl
theorem fa156_0 {i o : Nat} : fadO (C m) 156 (P i o) 0 σ = .val (P i (o + 0)) := by kernel_rfl
theorem fa156_1 {i o : Nat} : fadO (C m) 156 (P i o) 1 σ = .val (P i (o + 1)) := by kernel_rfl
theorem ag157 : Go.Run.isAgg (C m) 157 = some false := by kernel_rfl
theorem sz157 : size (C m) 157 = some 1 := by kernel_rfl
theorem in157 : ((C m).P.info? 157).map (fun t => (t.size, t.bytes)) = some (1, 0) := by kernel_rfl
theorem ag158 : Go.Run.isAgg (C m) 158 = some false := by kernel_rfl
theorem sz158 : size (C m) 158 = some 1 := by kernel_rfl
theorem in158 : ((C m).P.info? 158).map (fun t => (t.size, t.bytes)) = some (1, 8) := by kernel_rfl
theorem un159 : und (C m) 159 = some (.slice 162) := by kernel_rfl
theorem ag159 : Go.Run.isAgg (C m) 159 = some false := by kernel_rfl
theorem sz159 : size (C m) 159 = some 1 := by kernel_rfl
theorem in159 : ((C m).P.info? 159).map (fun t => (t.size, t.bytes)) = some (1, 24) := by kernel_rfl
theorem ag160 : Go.Run.isAgg (C m) 160 = some false := by kernel_rfl
theorem sz160 : size (C m) 160 = some 1 := by kernel_rfl
theorem in160 : ((C m).P.info? 160).map (fun t => (t.size, t.bytes)) = some (1, 8) := by kernel_rfl
theorem ag161 : Go.Run.isAgg (C m) 161 = some true := by kernel_rfl
theorem sz161 : size (C m) 161 = some 4 := by kernel_rfl
theorem in161 : ((C m).P.info? 161).map (fun t => (t.size, t.bytes)) = some (4, 56) := by kernel_rfl
theorem fa161_0 {i o : Nat} : fadO (C m) 161 (P i o) 0 σ = .val (P i (o + 0)) := by kernel_rfl
theorem fa161_1 {i o : Nat} : fadO (C m) 161 (P i o) 1 σ = .val (P i (o + 2)) := by kernel_rfl
theorem fa161_2 {i o : Nat} : fadO (C m) 161 (P i o) 2 σ = .val (P i (o + 3)) := by kernel_rfl
theorem ag162 : Go.Run.isAgg (C m) 162 = some true := by kernel_rfl
theorem sz162 : size (C m) 162 = some 4 := by kernel_rfl
theorem in162 : ((C m).P.info? 162).map (fun t => (t.size, t.bytes)) = some (4, 56) := by kernel_rfl
theorem fa162_0 {i o : Nat} : fadO (C m) 162 (P i o) 0 σ = .val (P i (o + 0)) := by kernel_rfl
theorem fa162_1 {i o : Nat} : fadO (C m) 162 (P i o) 1 σ = .val (P i (o + 2)) := by kernel_rfl
theorem fa162_2 {i o : Nat} : fadO (C m) 162 (P i o) 2 σ = .val (P i (o + 3)) := by kernel_rfl
theorem ag163 : Go.Run.isAgg (C m) 163 = some false := by kernel_rfl
theorem sz163 : size (C m) 163 = some 1 := by kernel_rfl
theorem in163 : ((C m).P.info? 163).map (fun t => (t.size, t.bytes)) = some (1, 8) := by kernel_rfl
theorem un164 : und (C m) 164 = some (.pointer 166) := by kernel_rfl
theorem ag164 : Go.Run.isAgg (C m) 164 = some false := by kernel_rfl
theorem sz164 : size (C m) 164 = some 1 := by kernel_rfl
theorem in164 : ((C m).P.info? 164).map (fun t => (t.size, t.bytes)) = some (1, 8) := by kernel_rfl
theorem ag165 : Go.Run.isAgg (C m) 165 = some true := by kernel_rfl
theorem sz165 : size (C m) 165 = some 2 := by kernel_rfl
theorem in165 : ((C m).P.info? 165).map (fun t => (t.size, t.bytes)) = some (2, 32) := by kernel_rfl
theorem fa165_0 {i o : Nat} : fadO (C m) 165 (P i o) 0 σ = .val (P i (o + 0)) := by kernel_rfl
theorem ag166 : Go.Run.isAgg (C m) 166 = some true := by kernel_rfl
theorem sz166 : size (C m) 166 = some 2 := by kernel_rfl
theorem in166 : ((C m).P.info? 166).map (fun t => (t.size, t.bytes)) = some (2, 32) := by kernel_rfl
theorem fa166_0 {i o : Nat} : fadO (C m) 166 (P i o) 0 σ = .val (P i (o + 0)) := by kernel_rfl
theorem ag167 : Go.Run.isAgg (C m) 167 = some false := by kernel_rfl
theorem sz167 : size (C m) 167 = some 1 := by kernel_rfl
theorem in167 : ((C m).P.info? 167).map (fun t => (t.size, t.bytes)) = some (1, 8) := by kernel_rfl
theorem ag168 : Go.Run.isAgg (C m) 168 = some false := by kernel_rfl
theorem sz168 : size (C m) 168 = some 1 := by kernel_rfl
theorem in168 : ((C m).P.info? 168).map (fun t => (t.size, t.bytes)) = some (1, 8) := by kernel_rfl
theorem ag169 : Go.Run.isAgg (C m) 169 = some false := by kernel_rfl
theorem sz169 : size (C m) 169 = some 1 := by kernel_rfl
theorem in169 : ((C m).P.info? 169).map (fun t => (t.size, t.bytes)) = some (1, 8) := by kernel_rfl
theorem ag170 : Go.Run.isAgg (C m) 170 = some false := by kernel_rfl
theorem sz170 : size (C m) 170 = some 1 := by kernel_rfl
theorem in170 : ((C m).P.info? 170).map (fun t => (t.size, t.bytes)) = some (1, 8) := by kernel_rfl
theorem un171 : und (C m) 171 = some (.pointer 173) := by kernel_rfl
theorem ag171 : Go.Run.isAgg (C m) 171 = some false := by kernel_rfl
theorem sz171 : size (C m) 171 = some 1 := by kernel_rfl
theorem in171 : ((C m).P.info? 171).map (fun t => (t.size, t.bytes)) = some (1, 8) := by kernel_rfl
theorem ag172 : Go.Run.isAgg (C m) 172 = some true := by kernel_rfl
theorem sz172 : size (C m) 172 = some 2 := by kernel_rfl
theorem in172 : ((C m).P.info? 172).map (fun t => (t.size, t.bytes)) = some (2, 24) := by kernel_rfl
theorem fa172_0 {i o : Nat} : fadO (C m) 172 (P i o) 0 σ = .val (P i (o + 0)) := by kernel_rfl
theorem fa172_1 {i o : Nat} : fadO (C m) 172 (P i o) 1 σ = .val (P i (o + 1)) := by kernel_rfl
theorem ag173 : Go.Run.isAgg (C m) 173 = some true := by kernel_rfl
theorem sz173 : size (C m) 173 = some 2 := by kernel_rfl
theorem in173 : ((C m).P.info? 173).map (fun t => (t.size, t.bytes)) = some (2, 24) := by kernel_rfl
theorem fa173_0 {i o : Nat} : fadO (C m) 173 (P i o) 0 σ = .val (P i (o + 0)) := by kernel_rfl
theorem fa173_1 {i o : Nat} : fadO (C m) 173 (P i o) 1 σ = .val (P i (o + 1)) := by kernel_rfl
theorem ag174 : Go.Run.isAgg (C m) 174 = some false := by kernel_rfl
theorem sz174 : size (C m) 174 = some 1 := by kernel_rfl
theorem in174 : ((C m).P.info? 174).map (fun t => (t.size, t.bytes)) = some (1, 8) := by kernel_rfl
theorem un175 : und (C m) 175 = some (.slice 88) := by kernel_rfl
theorem ag175 : Go.Run.isAgg (C m) 175 = some false := by kernel_rfl
theorem sz175 : size (C m) 175 = some 1 := by kernel_rfl
theorem in175 : ((C m).P.info? 175).map (fun t => (t.size, t.bytes)) = some (1, 24) := by kernel_rfl
theorem ag176 : Go.Run.isAgg (C m) 176 = some false := by kernel_rfl
theorem sz176 : size (C m) 176 = some 1 := by kernel_rfl
theorem in176 : ((C m).P.info? 176).map (fun t => (t.size, t.bytes)) = some (1, 0) := by kernel_rfl
theorem ag177 : Go.Run.isAgg (C m) 177 = some false := by kernel_rfl
theorem sz177 : size (C m) 177 = some 1 := by kernel_rfl
theorem in177 : ((C m).P.info? 177).map (fun t => (t.size, t.bytes)) = some (1, 8) := by kernel_rfl
theorem ag178 : Go.Run.isAgg (C m) 178 = some false := by kernel_rfl
theorem sz178 : size (C m) 178 = some 1 := by kernel_rfl
theorem in178 : ((C m).P.info? 178).map (fun t => (t.size, t.bytes)) = some (1, 8) := by kernel_rfl
theorem ag179 : Go.Run.isAgg (C m) 179 = some true := by kernel_rfl
theorem sz179 : size (C m) 179 = some 2 := by kernel_rfl
theorem in179 : ((C m).P.info? 179).map (fun t => (t.size, t.bytes)) = some (2, 16) := by kernel_rfl
theorem fa179_0 {i o : Nat} : fadO (C m) 179 (P i o) 0 σ = .val (P i (o + 0)) := by kernel_rfl
theorem fa179_1 {i o : Nat} : fadO (C m) 179 (P i o) 1 σ = .val (P i (o + 1)) := by kernel_rfl
theorem ag180 : Go.Run.isAgg (C m) 180 = some true := by kernel_rfl
theorem sz180 : size (C m) 180 = some 2 := by kernel_rfl
theorem in180 : ((C m).P.info? 180).map (fun t => (t.size, t.bytes)) = some (2, 16) := by kernel_rfl
theorem fa180_0 {i o : Nat} : fadO (C m) 180 (P i o) 0 σ = .val (P i (o + 0)) := by kernel_rfl
theorem fa180_1 {i o : Nat} : fadO (C m) 180 (P i o) 1 σ = .val (P i (o + 1)) := by kernel_rfl
theorem un181 : und (C m) 181 = some (.pointer 197) := by kernel_rfl
theorem ag181 : Go.Run.isAgg (C m) 181 = some false := by kernel_rfl
theorem sz181 : size (C m) 181 = some 1 := by kernel_rfl
theorem in181 : ((C m).P.info? 181).map (fun t => (t.size, t.bytes)) = some (1, 8) := by kernel_rfl
theorem ag182 : Go.Run.isAgg (C m) 182 = some false := by kernel_rfl
theorem sz182 : size (C m) 182 = some 1 := by kernel_rfl
theorem in182 : ((C m).P.info? 182).map (fun t => (t.size, t.bytes)) = some (1, 0) := by kernel_rfl
theorem un183 : und (C m) 183 = some (.map 3 9) := by kernel_rfl
theorem ag183 : Go.Run.isAgg (C m) 183 = some false := by kernel_rfl
theorem sz183 : size (C m) 183 = some 1 := by kernel_rfl
theorem in183 : ((C m).P.info? 183).map (fun t => (t.size, t.bytes)) = some (1, 8) := by kernel_rfl
theorem ag184 : Go.Run.isAgg (C m) 184 = some true := by kernel_rfl
theorem sz184 : size (C m) 184 = some 0 := by kernel_rfl
theorem in184 : ((C m).P.info? 184).map (fun t => (t.size, t.bytes)) = some (0, 0) := by kernel_rfl
theorem ag185 : Go.Run.isAgg (C m) 185 = some true := by kernel_rfl
theorem sz185 : size (C m) 185 = some 0 := by kernel_rfl
theorem in185 : ((C m).P.info? 185).map (fun t => (t.size, t.bytes)) = some (0, 0) := by kernel_rfl
theorem ag186 : Go.Run.isAgg (C m) 186 = some true := by kernel_rfl
theorem sz186 : size (C m) 186 = some 0 := by kernel_rfl
theorem in186 : ((C m).P.info? 186).map (fun t => (t.size, t.bytes)) = some (0, 0) := by kernel_rfl
theorem un187 : und (C m) 187 = some (.int .u32) := by kernel_rfl
theorem ag187 : Go.Run.isAgg (C m) 187 = some false := by kernel_rfl
theorem sz187 : size (C m) 187 = some 1 := by kernel_rfl
theorem in187 : ((C m).P.info? 187).map (fun t => (t.size, t.bytes)) = some (1, 4) := by kernel_rfl
theorem ag188 : Go.Run.isAgg (C m) 188 = some true := by kernel_rfl
theorem sz188 : size (C m) 188 = some 1 := by kernel_rfl
theorem in188 : ((C m).P.info? 188).map (fun t => (t.size, t.bytes)) = some (1, 4) := by kernel_rfl
theorem fa188_1 {i o : Nat} : fadO (C m) 188 (P i o) 1 σ = .val (P i (o + 0)) := by kernel_rfl
theorem ag189 : Go.Run.isAgg (C m) 189 = some true := by kernel_rfl
theorem sz189 : size (C m) 189 = some 1 := by kernel_rfl
theorem in189 : ((C m).P.info? 189).map (fun t => (t.size, t.bytes)) = some (1, 4) := by kernel_rfl
theorem fa189_1 {i o : Nat} : fadO (C m) 189 (P i o) 1 σ = .val (P i (o + 0)) := by kernel_rfl
theorem ag190 : Go.Run.isAgg (C m) 190 = some true := by kernel_rfl
theorem sz190 : size (C m) 190 = some 2 := by kernel_rfl
theorem in190 : ((C m).P.info? 190).map (fun t => (t.size, t.bytes)) = some (2, 8) := by kernel_rfl
theorem fa190_0 {i o : Nat} : fadO (C m) 190 (P i o) 0 σ = .val (P i (o + 0)) := by kernel_rfl
theorem fa190_1 {i o : Nat} : fadO (C m) 190 (P i o) 1 σ = .val (P i (o + 1)) := by kernel_rfl
theorem ag191 : Go.Run.isAgg (C m) 191 = some true := by kernel_rfl
theorem sz191 : size (C m) 191 = some 2 := by kernel_rfl
theorem in191 : ((C m).P.info? 191).map (fun t => (t.size, t.bytes)) = some (2, 8) := by kernel_rfl
theorem fa191_0 {i o : Nat} : fadO (C m) 191 (P i o) 0 σ = .val (P i (o + 0)) := by kernel_rfl
theorem fa191_1 {i o : Nat} : fadO (C m) 191 (P i o) 1 σ = .val (P i (o + 1)) := by kernel_rfl
theorem ag192 : Go.Run.isAgg (C m) 192 = some true := by kernel_rfl
theorem sz192 : size (C m) 192 = some 2 := by kernel_rfl
theorem in192 : ((C m).P.info? 192).map (fun t => (t.size, t.bytes)) = some (2, 8) := by kernel_rfl
theorem fa192_1 {i o : Nat} : fadO (C m) 192 (P i o) 1 σ = .val (P i (o + 0)) := by kernel_rfl
theorem ag193 : Go.Run.isAgg (C m) 193 = some true := by kernel_rfl
theorem sz193 : size (C m) 193 = some 2 := by kernel_rfl
theorem in193 : ((C m).P.info? 193).map (fun t => (t.size, t.bytes)) = some (2, 8) := by kernel_rfl
theorem fa193_1 {i o : Nat} : fadO (C m) 193 (P i o) 1 σ = .val (P i (o + 0)) := by kernel_rfl
theorem ag194 : Go.Run.isAgg (C m) 194 = some true := by kernel_rfl
theorem sz194 : size (C m) 194 = some 3 := by kernel_rfl
theorem in194 : ((C m).P.info? 194).map (fun t => (t.size, t.bytes)) = some (3, 12) := by kernel_rfl
theorem fa194_1 {i o : Nat} : fadO (C m) 194 (P i o) 1 σ = .val (P i (o + 0)) := by kernel_rfl
theorem fa194_2 {i o : Nat} : fadO (C m) 194 (P i o) 2 σ = .val (P i (o + 1)) := by kernel_rfl
theorem ag195 : Go.Run.isAgg (C m) 195 = some true := by kernel_rfl
theorem sz195 : size (C m) 195 = some 3 := by kernel_rfl
theorem in195 : ((C m).P.info? 195).map (fun t => (t.size, t.bytes)) = some (3, 12) := by kernel_rfl
theorem fa195_1 {i o : Nat} : fadO (C m) 195 (P i o) 1 σ = .val (P i (o + 0)) := by kernel_rfl
theorem fa195_2 {i o : Nat} : fadO (C m) 195 (P i o) 2 σ = .val (P i (o + 1)) := by kernel_rfl
theorem ag196 : Go.Run.isAgg (C m) 196 = some true := by kernel_rfl
theorem sz196 : size (C m) 196 = some 44 := by kernel_rfl
theorem in196 : ((C m).P.info? 196).map (fun t => (t.size, t.bytes)) = some (44, 456) := by kernel_rfl
theorem fa196_0 {i o : Nat} : fadO (C m) 196 (P i o) 0 σ = .val (P i (o + 0)) := by kernel_rfl
theorem fa196_1 {i o : Nat} : fadO (C m) 196 (P i o) 1 σ = .val (P i (o + 1)) := by kernel_rfl
theorem fa196_2 {i o : Nat} : fadO (C m) 196 (P i o) 2 σ = .val (P i (o + 2)) := by kernel_rfl
theorem fa196_3 {i o : Nat} : fadO (C m) 196 (P i o) 3 σ = .val (P i (o + 5)) := by kernel_rfl
theorem fa196_4 {i o : Nat} : fadO (C m) 196 (P i o) 4 σ = .val (P i (o + 43)) := by kernel_rfl
theorem ag197 : Go.Run.isAgg (C m) 197 = some true := by kernel_rfl
theorem sz197 : size (C m) 197 = some 44 := by kernel_rfl
theorem in197 : ((C m).P.info? 197).map (fun t => (t.size, t.bytes)) = some (44, 456) := by kernel_rfl
theorem fa197_0 {i o : Nat} : fadO (C m) 197 (P i o) 0 σ = .val (P i (o + 0)) := by kernel_rfl
theorem fa197_1 {i o : Nat} : fadO (C m) 197 (P i o) 1 σ = .val (P i (o + 1)) := by kernel_rfl
theorem fa197_2 {i o : Nat} : fadO (C m) 197 (P i o) 2 σ = .val (P i (o + 2)) := by kernel_rfl
theorem fa197_3 {i o : Nat} : fadO (C m) 197 (P i o) 3 σ = .val (P i (o + 5)) := by kernel_rfl
theorem fa197_4 {i o : Nat} : fadO (C m) 197 (P i o) 4 σ = .val (P i (o + 43)) := by kernel_rfl
theorem ag198 : Go.Run.isAgg (C m) 198 = some false := by kernel_rfl
theorem sz198 : size (C m) 198 = some 1 := by kernel_rfl
theorem in198 : ((C m).P.info? 198).map (fun t => (t.size, t.bytes)) = some (1, 8) := by kernel_rfl
theorem ag199 : Go.Run.isAgg (C m) 199 = some false := by kernel_rfl
theorem sz199 : size (C m) 199 = some 1 := by kernel_rfl
theorem in199 : ((C m).P.info? 199).map (fun t => (t.size, t.bytes)) = some (1, 8) := by kernel_rfl
theorem ag200 : Go.Run.isAgg (C m) 200 = some false := by kernel_rfl
theorem sz200 : size (C m) 200 = some 1 := by kernel_rfl
theorem in200 : ((C m).P.info? 200).map (fun t => (t.size, t.bytes)) = some (1, 8) := by kernel_rfl
theorem un201 : und (C m) 201 = some (.pointer 5) := by kernel_rfl
theorem ag201 : Go.Run.isAgg (C m) 201 = some false := by kernel_rfl
theorem sz201 : size (C m) 201 = some 1 := by kernel_rfl
theorem in201 : ((C m).P.info? 201).map (fun t => (t.size, t.bytes)) = some (1, 8) := by kernel_rfl
theorem ag202 : Go.Run.isAgg (C m) 202 = some false := by kernel_rfl
theorem sz202 : size (C m) 202 = some 1 := by kernel_rfl
theorem in202 : ((C m).P.info? 202).map (fun t => (t.size, t.bytes)) = some (1, 8) := by kernel_rfl
theorem ag203 : Go.Run.isAgg (C m) 203 = some false := by kernel_rfl
theorem sz203 : size (C m) 203 = some 1 := by kernel_rfl
theorem in203 : ((C m).P.info? 203).map (fun t => (t.size, t.bytes)) = some (1, 8) := by kernel_rfl
theorem ag204 : Go.Run.isAgg (C m) 204 = some false := by kernel_rfl
theorem sz204 : size (C m) 204 = some 1 := by kernel_rfl
theorem in204 : ((C m).P.info? 204).map (fun t => (t.size, t.bytes)) = some (1, 8) := by kernel_rfl
theorem ag205 : Go.Run.isAgg (C m) 205 = some false := by kernel_rfl
theorem sz205 : size (C m) 205 = some 1 := by kernel_rfl
theorem in205 : ((C m).P.info? 205).map (fun t => (t.size, t.bytes)) = some (1, 0) := by kernel_rfl
theorem ag206 : Go.Run.isAgg (C m) 206 = some false := by kernel_rfl
theorem sz206 : size (C m) 206 = some 1 := by kernel_rfl
theorem in206 : ((C m).P.info? 206).map (fun t => (t.size, t.bytes)) = some (1, 8) := by kernel_rfl
theorem un207 : und (C m) 207 = some (.int .u64) := by kernel_rfl
theorem ag207 : Go.Run.isAgg (C m) 207 = some false := by kernel_rfl
theorem sz207 : size (C m) 207 = some 1 := by kernel_rfl
theorem in207 : ((C m).P.info? 207).map (fun t => (t.size, t.bytes)) = some (1, 8) := by kernel_rfl
theorem ag208 : Go.Run.isAgg (C m) 208 = some false := by kernel_rfl
theorem sz208 : size (C m) 208 = some 1 := by kernel_rfl
theorem in208 : ((C m).P.info? 208).map (fun t => (t.size, t.bytes)) = some (1, 8) := by kernel_rfl
theorem ag209 : Go.Run.isAgg (C m) 209 = some false := by kernel_rfl
theorem sz209 : size (C m) 209 = some 1 := by kernel_rfl
theorem in209 : ((C m).P.info? 209).map (fun t => (t.size, t.bytes)) = some (1, 0) := by kernel_rfl
theorem ag210 : Go.Run.isAgg (C m) 210 = some false := by kernel_rfl
theorem sz210 : size (C m) 210 = some 1 := by kernel_rfl
theorem in210 : ((C m).P.info? 210).map (fun t => (t.size, t.bytes)) = some (1, 8) := by kernel_rfl
theorem ag211 : Go.Run.isAgg (C m) 211 = some false := by kernel_rfl
theorem sz211 : size (C m) 211 = some 1 := by kernel_rfl
theorem in211 : ((C m).P.info? 211).map (fun t => (t.size, t.bytes)) = some (1, 8) := by kernel_rfl
theorem ag212 : Go.Run.isAgg (C m) 212 = some false := by kernel_rfl
theorem sz212 : size (C m) 212 = some 1 := by kernel_rfl
theorem in212 : ((C m).P.info? 212).map (fun t => (t.size, t.bytes)) = some (1, 8) := by kernel_rfl
theorem un213 : und (C m) 213 = some (.slice 217) := by kernel_rfl
theorem ag213 : Go.Run.isAgg (C m) 213 = some false := by kernel_rfl
theorem sz213 : size (C m) 213 = some 1 := by kernel_rfl
theorem in213 : ((C m).P.info? 213).map (fun t => (t.size, t.bytes)) = some (1, 24) := by kernel_rfl
theorem ag214 : Go.Run.isAgg (C m) 214 = some true := by kernel_rfl
theorem sz214 : size (C m) 214 = some 2 := by kernel_rfl
theorem in214 : ((C m).P.info? 214).map (fun t => (t.size, t.bytes)) = some (2, 32) := by kernel_rfl
theorem fa214_0 {i o : Nat} : fadO (C m) 214 (P i o) 0 σ = .val (P i (o + 0)) := by kernel_rfl
theorem fa214_1 {i o : Nat} : fadO (C m) 214 (P i o) 1 σ = .val (P i (o + 1)) := by kernel_rfl
theorem ag215 : Go.Run.isAgg (C m) 215 = some true := by kernel_rfl
theorem sz215 : size (C m) 215 = some 2 := by kernel_rfl
theorem in215 : ((C m).P.info? 215).map (fun t => (t.size, t.bytes)) = some (2, 32) := by kernel_rfl
theorem fa215_0 {i o : Nat} : fadO (C m) 215 (P i o) 0 σ = .val (P i (o + 0)) := by kernel_rfl
theorem fa215_1 {i o : Nat} : fadO (C m) 215 (P i o) 1 σ = .val (P i (o + 1)) := by kernel_rfl
theorem ag216 : Go.Run.isAgg (C m) 216 = some true := by kernel_rfl
theorem sz216 : size (C m) 216 = some 3 := by kernel_rfl
theorem in216 : ((C m).P.info? 216).map (fun t => (t.size, t.bytes)) = some (3, 32) := by kernel_rfl
theorem fa216_0 {i o : Nat} : fadO (C m) 216 (P i o) 0 σ = .val (P i (o + 0)) := by kernel_rfl
theorem fa216_1 {i o : Nat} : fadO (C m) 216 (P i o) 1 σ = .val (P i (o + 1)) := by kernel_rfl
theorem fa216_2 {i o : Nat} : fadO (C m) 216 (P i o) 2 σ = .val (P i (o + 2)) := by kernel_rfl
theorem ag217 : Go.Run.isAgg (C m) 217 = some true := by kernel_rfl
theorem sz217 : size (C m) 217 = some 3 := by kernel_rfl
theorem in217 : ((C m).P.info? 217).map (fun t => (t.size, t.bytes)) = some (3, 32) := by kernel_rfl
theorem fa217_0 {i o : Nat} : fadO (C m) 217 (P i o) 0 σ = .val (P i (o + 0)) := by kernel_rfl
theorem fa217_1 {i o : Nat} : fadO (C m) 217 (P i o) 1 σ = .val (P i (o + 1)) := by kernel_rfl
theorem fa217_2 {i o : Nat} : fadO (C m) 217 (P i o) 2 σ = .val (P i (o + 2)) := by kernel_rfl
theorem ag218 : Go.Run.isAgg (C m) 218 = some false := by kernel_rfl
theorem sz218 : size (C m) 218 = some 1 := by kernel_rfl
theorem in218 : ((C m).P.info? 218).map (fun t => (t.size, t.bytes)) = some (1, 8) := by kernel_rfl
theorem ag219 : Go.Run.isAgg (C m) 219 = some true := by kernel_rfl
theorem sz219 : size (C m) 219 = some 2 := by kernel_rfl
theorem in219 : ((C m).P.info? 219).map (fun t => (t.size, t.bytes)) = some (2, 24) := by kernel_rfl
theorem fa219_0 {i o : Nat} : fadO (C m) 219 (P i o) 0 σ = .val (P i (o + 0)) := by kernel_rfl
theorem fa219_1 {i o : Nat} : fadO (C m) 219 (P i o) 1 σ = .val (P i (o + 1)) := by kernel_rfl
theorem ag220 : Go.Run.isAgg (C m) 220 = some true := by kernel_rfl
theorem sz220 : size (C m) 220 = some 2 := by kernel_rfl
theorem in220 : ((C m).P.info? 220).map (fun t => (t.size, t.bytes)) = some (2, 24) := by kernel_rfl
theorem fa220_0 {i o : Nat} : fadO (C m) 220 (P i o) 0 σ = .val (P i (o + 0)) := by kernel_rfl
theorem fa220_1 {i o : Nat} : fadO (C m) 220 (P i o) 1 σ = .val (P i (o + 1)) := by kernel_rfl
theorem ag221 : Go.Run.isAgg (C m) 221 = some false := by kernel_rfl
theorem sz221 : size (C m) 221 = some 1 := by kernel_rfl
theorem in221 : ((C m).P.info? 221).map (fun t => (t.size, t.bytes)) = some (1, 8) := by kernel_rfl
theorem ag222 : Go.Run.isAgg (C m) 222 = some false := by kernel_rfl
theorem sz222 : size (C m) 222 = some 1 := by kernel_rfl
theorem in222 : ((C m).P.info? 222).map (fun t => (t.size, t.bytes)) = some (1, 0) := by kernel_rfl
theorem ag223 : Go.Run.isAgg (C m) 223 = some false := by kernel_rfl
theorem sz223 : size (C m) 223 = some 1 := by kernel_rfl
theorem in223 : ((C m).P.info? 223).map (fun t => (t.size, t.bytes)) = some (1, 8) := by kernel_rfl
theorem ag224 : Go.Run.isAgg (C m) 224 = some false := by kernel_rfl
theorem sz224 : size (C m) 224 = some 1 := by kernel_rfl
theorem in224 : ((C m).P.info? 224).map (fun t => (t.size, t.bytes)) = some (1, 8) := by kernel_rfl
theorem ag225 : Go.Run.isAgg (C m) 225 = some false := by kernel_rfl
theorem sz225 : size (C m) 225 = some 1 := by kernel_rfl
theorem in225 : ((C m).P.info? 225).map (fun t => (t.size, t.bytes)) = some (1, 8) := by kernel_rfl
theorem ag226 : Go.Run.isAgg (C m) 226 = some false := by kernel_rfl
theorem sz226 : size (C m) 226 = some 1 := by kernel_rfl
theorem in226 : ((C m).P.info? 226).map (fun t => (t.size, t.bytes)) = some (1, 8) := by kernel_rfl
theorem ag227 : Go.Run.isAgg (C m) 227 = some false := by kernel_rfl
theorem sz227 : size (C m) 227 = some 1 := by kernel_rfl
theorem in227 : ((C m).P.info? 227).map (fun t => (t.size, t.bytes)) = some (1, 8) := by kernel_rfl
theorem ag228 : Go.Run.isAgg (C m) 228 = some false := by kernel_rfl
theorem sz228 : size (C m) 228 = some 1 := by kernel_rfl
theorem in228 : ((C m).P.info? 228).map (fun t => (t.size, t.bytes)) = some (1, 8) := by kernel_rfl
theorem ag229 : Go.Run.isAgg (C m) 229 = some false := by kernel_rfl
theorem sz229 : size (C m) 229 = some 1 := by kernel_rfl
theorem in229 : ((C m).P.info? 229).map (fun t => (t.size, t.bytes)) = some (1, 8) := by kernel_rfl
theorem ag230 : Go.Run.isAgg (C m) 230 = some false := by kernel_rfl
theorem sz230 : size (C m) 230 = some 1 := by kernel_rfl
theorem in230 : ((C m).P.info? 230).map (fun t => (t.size, t.bytes)) = some (1, 8) := by kernel_rfl
theorem ag231 : Go.Run.isAgg (C m) 231 = some false := by kernel_rfl
theorem sz231 : size (C m) 231 = some 1 := by kernel_rfl
theorem in231 : ((C m).P.info? 231).map (fun t => (t.size, t.bytes)) = some (1, 8) := by kernel_rfl
theorem ag232 : Go.Run.isAgg (C m) 232 = some false := by kernel_rfl
theorem sz232 : size (C m) 232 = some 1 := by kernel_rfl
theorem in232 : ((C m).P.info? 232).map (fun t => (t.size, t.bytes)) = some (1, 8) := by kernel_rfl
theorem ag233 : Go.Run.isAgg (C m) 233 = some false := by kernel_rfl
theorem sz233 : size (C m) 233 = some 1 := by kernel_rfl
theorem in233 : ((C m).P.info? 233).map (fun t => (t.size, t.bytes)) = some (1, 0) := by kernel_rfl
theorem ag234 : Go.Run.isAgg (C m) 234 = some false := by kernel_rfl
theorem sz234 : size (C m) 234 = some 1 := by kernel_rfl
theorem in234 : ((C m).P.info? 234).map (fun t => (t.size, t.bytes)) = some (1, 8) := by kernel_rfl
theorem ag235 : Go.Run.isAgg (C m) 235 = some false := by kernel_rfl
theorem sz235 : size (C m) 235 = some 1 := by kernel_rfl
theorem in235 : ((C m).P.info? 235).map (fun t => (t.size, t.bytes)) = some (1, 8) := by kernel_rfl
theorem ag236 : Go.Run.isAgg (C m) 236 = some false := by kernel_rfl
theorem sz236 : size (C m) 236 = some 1 := by kernel_rfl
theorem in236 : ((C m).P.info? 236).map (fun t => (t.size, t.bytes)) = some (1, 8) := by kernel_rfl
theorem ag237 : Go.Run.isAgg (C m) 237 = some false := by kernel_rfl
theorem sz237 : size (C m) 237 = some 1 := by kernel_rfl
theorem in237 : ((C m).P.info? 237).map (fun t => (t.size, t.bytes)) = some (1, 8) := by kernel_rfl
theorem ag238 : Go.Run.isAgg (C m) 238 = some false := by kernel_rfl
theorem sz238 : size (C m) 238 = some 1 := by kernel_rfl
theorem in238 : ((C m).P.info? 238).map (fun t => (t.size, t.bytes)) = some (1, 8) := by kernel_rfl
theorem ag239 : Go.Run.isAgg (C m) 239 = some false := by kernel_rfl
theorem sz239 : size (C m) 239 = some 1 := by kernel_rfl
theorem in239 : ((C m).P.info? 239).map (fun t => (t.size, t.bytes)) = some (1, 8) := by kernel_rfl
theorem ag240 : Go.Run.isAgg (C m) 240 = some false := by kernel_rfl
theorem sz240 : size (C m) 240 = some 1 := by kernel_rfl
theorem in240 : ((C m).P.info? 240).map (fun t => (t.size, t.bytes)) = some (1, 8) := by kernel_rfl
theorem ag241 : Go.Run.isAgg (C m) 241 = some false := by kernel_rfl
theorem sz241 : size (C m) 241 = some 1 := by kernel_rfl
theorem in241 : ((C m).P.info? 241).map (fun t => (t.size, t.bytes)) = some (1, 8) := by kernel_rfl
theorem ag242 : Go.Run.isAgg (C m) 242 = some false := by kernel_rfl
theorem sz242 : size (C m) 242 = some 1 := by kernel_rfl
theorem in242 : ((C m).P.info? 242).map (fun t => (t.size, t.bytes)) = some (1, 8) := by kernel_rfl
theorem ag243 : Go.Run.isAgg (C m) 243 = some false := by kernel_rfl
theorem sz243 : size (C m) 243 = some 1 := by kernel_rfl
theorem in243 : ((C m).P.info? 243).map (fun t => (t.size, t.bytes)) = some (1, 8) := by kernel_rfl
theorem ag244 : Go.Run.isAgg (C m) 244 = some false := by kernel_rfl
theorem sz244 : size (C m) 244 = some 1 := by kernel_rfl
theorem in244 : ((C m).P.info? 244).map (fun t => (t.size, t.bytes)) = some (1, 8) := by kernel_rfl
theorem ag245 : Go.Run.isAgg (C m) 245 = some false := by kernel_rfl
theorem sz245 : size (C m) 245 = some 1 := by kernel_rfl
theorem in245 : ((C m).P.info? 245).map (fun t => (t.size, t.bytes)) = some (1, 8) := by kernel_rfl
theorem ag246 : Go.Run.isAgg (C m) 246 = some false := by kernel_rfl
theorem sz246 : size (C m) 246 = some 1 := by kernel_rfl
theorem in246 : ((C m).P.info? 246).map (fun t => (t.size, t.bytes)) = some (1, 8) := by kernel_rfl
theorem ag247 : Go.Run.isAgg (C m) 247 = some false := by kernel_rfl
theorem sz247 : size (C m) 247 = some 1 := by kernel_rfl
theorem in247 : ((C m).P.info? 247).map (fun t => (t.size, t.bytes)) = some (1, 8) := by kernel_rfl
theorem ag248 : Go.Run.isAgg (C m) 248 = some false := by kernel_rfl
theorem sz248 : size (C m) 248 = some 1 := by kernel_rfl
theorem in248 : ((C m).P.info? 248).map (fun t => (t.size, t.bytes)) = some (1, 0) := by kernel_rfl
theorem ag249 : Go.Run.isAgg (C m) 249 = some false := by kernel_rfl
theorem sz249 : size (C m) 249 = some 1 := by kernel_rfl
theorem in249 : ((C m).P.info? 249).map (fun t => (t.size, t.bytes)) = some (1, 8) := by kernel_rfl
theorem un250 : und (C m) 250 = some (.pointer 195) := by kernel_rfl
theorem ag250 : Go.Run.isAgg (C m) 250 = some false := by kernel_rfl
theorem sz250 : size (C m) 250 = some 1 := by kernel_rfl
theorem in250 : ((C m).P.info? 250).map (fun t => (t.size, t.bytes)) = some (1, 8) := by kernel_rfl
theorem un251 : und (C m) 251 = some (.pointer 253) := by kernel_rfl
theorem ag251 : Go.Run.isAgg (C m) 251 = some false := by kernel_rfl
theorem sz251 : size (C m) 251 = some 1 := by kernel_rfl
theorem in251 : ((C m).P.info? 251).map (fun t => (t.size, t.bytes)) = some (1, 8) := by kernel_rfl
theorem ag252 : Go.Run.isAgg (C m) 252 = some true := by kernel_rfl
theorem sz252 : size (C m) 252 = some 2 := by kernel_rfl
theorem in252 : ((C m).P.info? 252).map (fun t => (t.size, t.bytes)) = some (2, 24) := by kernel_rfl
theorem fa252_0 {i o : Nat} : fadO (C m) 252 (P i o) 0 σ = .val (P i (o + 0)) := by kernel_rfl
theorem fa252_1 {i o : Nat} : fadO (C m) 252 (P i o) 1 σ = .val (P i (o + 1)) := by kernel_rfl
theorem ag253 : Go.Run.isAgg (C m) 253 = some true := by kernel_rfl
theorem sz253 : size (C m) 253 = some 2 := by kernel_rfl
theorem in253 : ((C m).P.info? 253).map (fun t => (t.size, t.bytes)) = some (2, 24) := by kernel_rfl
theorem fa253_0 {i o : Nat} : fadO (C m) 253 (P i o) 0 σ = .val (P i (o + 0)) := by kernel_rfl
theorem fa253_1 {i o : Nat} : fadO (C m) 253 (P i o) 1 σ = .val (P i (o + 1)) := by kernel_rfl
theorem ag254 : Go.Run.isAgg (C m) 254 = some false := by kernel_rfl
theorem sz254 : size (C m) 254 = some 1 := by kernel_rfl
theorem in254 : ((C m).P.info? 254).map (fun t => (t.size, t.bytes)) = some (1, 8) := by kernel_rfl
theorem ag255 : Go.Run.isAgg (C m) 255 = some false := by kernel_rfl
theorem sz255 : size (C m) 255 = some 1 := by kernel_rfl
theorem in255 : ((C m).P.info? 255).map (fun t => (t.size, t.bytes)) = some (1, 8) := by kernel_rfl
theorem ag256 : Go.Run.isAgg (C m) 256 = some false := by kernel_rfl
theorem sz256 : size (C m) 256 = some 1 := by kernel_rfl
theorem in256 : ((C m).P.info? 256).map (fun t => (t.size, t.bytes)) = some (1, 8) := by kernel_rfl
theorem ag257 : Go.Run.isAgg (C m) 257 = some false := by kernel_rfl
theorem sz257 : size (C m) 257 = some 1 := by kernel_rfl
theorem in257 : ((C m).P.info? 257).map (fun t => (t.size, t.bytes)) = some (1, 8) := by kernel_rfl
theorem ag258 : Go.Run.isAgg (C m) 258 = some false := by kernel_rfl
theorem sz258 : size (C m) 258 = some 1 := by kernel_rfl
theorem in258 : ((C m).P.info? 258).map (fun t => (t.size, t.bytes)) = some (1, 8) := by kernel_rfl
theorem ag259 : Go.Run.isAgg (C m) 259 = some false := by kernel_rfl
theorem sz259 : size (C m) 259 = some 1 := by kernel_rfl
theorem in259 : ((C m).P.info? 259).map (fun t => (t.size, t.bytes)) = some (1, 8) := by kernel_rfl
theorem ag260 : Go.Run.isAgg (C m) 260 = some false := by kernel_rfl
theorem sz260 : size (C m) 260 = some 1 := by kernel_rfl
theorem in260 : ((C m).P.info? 260).map (fun t => (t.size, t.bytes)) = some (1, 8) := by kernel_rfl
theorem ag261 : Go.Run.isAgg (C m) 261 = some false := by kernel_rfl
theorem sz261 : size (C m) 261 = some 1 := by kernel_rfl
theorem in261 : ((C m).P.info? 261).map (fun t => (t.size, t.bytes)) = some (1, 8) := by kernel_rfl
theorem ag262 : Go.Run.isAgg (C m) 262 = some false := by kernel_rfl
theorem sz262 : size (C m) 262 = some 1 := by kernel_rfl
theorem in262 : ((C m).P.info? 262).map (fun t => (t.size, t.bytes)) = some (1, 8) := by kernel_rfl
theorem ag263 : Go.Run.isAgg (C m) 263 = some false := by kernel_rfl
theorem sz263 : size (C m) 263 = some 1 := by kernel_rfl
theorem in263 : ((C m).P.info? 263).map (fun t => (t.size, t.bytes)) = some (1, 8) := by kernel_rfl
theorem ag264 : Go.Run.isAgg (C m) 264 = some false := by kernel_rfl
theorem sz264 : size (C m) 264 = some 1 := by kernel_rfl
theorem in264 : ((C m).P.info? 264).map (fun t => (t.size, t.bytes)) = some (1, 8) := by kernel_rfl
theorem ag265 : Go.Run.isAgg (C m) 265 = some false := by kernel_rfl
theorem sz265 : size (C m) 265 = some 1 := by kernel_rfl
theorem in265 : ((C m).P.info? 265).map (fun t => (t.size, t.bytes)) = some (1, 8) := by kernel_rfl
theorem ag266 : Go.Run.isAgg (C m) 266 = some false := by kernel_rfl
theorem sz266 : size (C m) 266 = some 1 := by kernel_rfl
theorem in266 : ((C m).P.info? 266).map (fun t => (t.size, t.bytes)) = some (1, 8) := by kernel_rfl
theorem ag267 : Go.Run.isAgg (C m) 267 = some false := by kernel_rfl
theorem sz267 : size (C m) 267 = some 1 := by kernel_rfl
theorem in267 : ((C m).P.info? 267).map (fun t => (t.size, t.bytes)) = some (1, 8) := by kernel_rfl
theorem un268 : und (C m) 268 = some (.pointer 189) := by kernel_rfl
theorem ag268 : Go.Run.isAgg (C m) 268 = some false := by kernel_rfl
theorem sz268 : size (C m) 268 = some 1 := by kernel_rfl
theorem in268 : ((C m).P.info? 268).map (fun t => (t.size, t.bytes)) = some (1, 8) := by kernel_rfl
theorem ag269 : Go.Run.isAgg (C m) 269 = some false := by kernel_rfl
theorem sz269 : size (C m) 269 = some 1 := by kernel_rfl
theorem in269 : ((C m).P.info? 269).map (fun t => (t.size, t.bytes)) = some (1, 8) := by kernel_rfl
theorem un270 : und (C m) 270 = some (.pointer 187) := by kernel_rfl
theorem ag270 : Go.Run.isAgg (C m) 270 = some false := by kernel_rfl
theorem sz270 : size (C m) 270 = some 1 := by kernel_rfl
theorem in270 : ((C m).P.info? 270).map (fun t => (t.size, t.bytes)) = some (1, 8) := by kernel_rfl
theorem un271 : und (C m) 271 = some (.pointer 215) := by kernel_rfl
theorem ag271 : Go.Run.isAgg (C m) 271 = some false := by kernel_rfl
theorem sz271 : size (C m) 271 = some 1 := by kernel_rfl
theorem in271 : ((C m).P.info? 271).map (fun t => (t.size, t.bytes)) = some (1, 8) := by kernel_rfl
theorem un272 : und (C m) 272 = some (.pointer 153) := by kernel_rfl
theorem ag272 : Go.Run.isAgg (C m) 272 = some false := by kernel_rfl
theorem sz272 : size (C m) 272 = some 1 := by kernel_rfl
theorem in272 : ((C m).P.info? 272).map (fun t => (t.size, t.bytes)) = some (1, 8) := by kernel_rfl
theorem ag273 : Go.Run.isAgg (C m) 273 = some false := by kernel_rfl
theorem sz273 : size (C m) 273 = some 1 := by kernel_rfl
theorem in273 : ((C m).P.info? 273).map (fun t => (t.size, t.bytes)) = some (1, 8) := by kernel_rfl
theorem ag274 : Go.Run.isAgg (C m) 274 = some false := by kernel_rfl
theorem sz274 : size (C m) 274 = some 1 := by kernel_rfl
theorem in274 : ((C m).P.info? 274).map (fun t => (t.size, t.bytes)) = some (1, 8) := by kernel_rfl
theorem ag275 : Go.Run.isAgg (C m) 275 = some false := by kernel_rfl
theorem sz275 : size (C m) 275 = some 1 := by kernel_rfl
theorem in275 : ((C m).P.info? 275).map (fun t => (t.size, t.bytes)) = some (1, 8) := by kernel_rfl
theorem ag276 : Go.Run.isAgg (C m) 276 = some false := by kernel_rfl
theorem sz276 : size (C m) 276 = some 1 := by kernel_rfl
theorem in276 : ((C m).P.info? 276).map (fun t => (t.size, t.bytes)) = some (1, 8) := by kernel_rfl
theorem ag277 : Go.Run.isAgg (C m) 277 = some false := by kernel_rfl
theorem sz277 : size (C m) 277 = some 1 := by kernel_rfl
theorem in277 : ((C m).P.info? 277).map (fun t => (t.size, t.bytes)) = some (1, 8) := by kernel_rfl
theorem ag278 : Go.Run.isAgg (C m) 278 = some false := by kernel_rfl
theorem sz278 : size (C m) 278 = some 1 := by kernel_rfl
theorem in278 : ((C m).P.info? 278).map (fun t => (t.size, t.bytes)) = some (1, 8) := by kernel_rfl
theorem ag279 : Go.Run.isAgg (C m) 279 = some false := by kernel_rfl
theorem sz279 : size (C m) 279 = some 1 := by kernel_rfl
theorem in279 : ((C m).P.info? 279).map (fun t => (t.size, t.bytes)) = some (1, 8) := by kernel_rfl
theorem ag280 : Go.Run.isAgg (C m) 280 = some false := by kernel_rfl
theorem sz280 : size (C m) 280 = some 1 := by kernel_rfl
theorem in280 : ((C m).P.info? 280).map (fun t => (t.size, t.bytes)) = some (1, 8) := by kernel_rfl
theorem ag281 : Go.Run.isAgg (C m) 281 = some false := by kernel_rfl
theorem sz281 : size (C m) 281 = some 1 := by kernel_rfl
theorem in281 : ((C m).P.info? 281).map (fun t => (t.size, t.bytes)) = some (1, 8) := by kernel_rfl
theorem ag282 : Go.Run.isAgg (C m) 282 = some false := by kernel_rfl
theorem sz282 : size (C m) 282 = some 1 := by kernel_rfl
theorem in282 : ((C m).P.info? 282).map (fun t => (t.size, t.bytes)) = some (1, 8) := by kernel_rfl
theorem un283 : und (C m) 283 = some (.pointer 193) := by kernel_rfl
theorem ag283 : Go.Run.isAgg (C m) 283 = some false := by kernel_rfl
theorem sz283 : size (C m) 283 = some 1 := by kernel_rfl
theorem in283 : ((C m).P.info? 283).map (fun t => (t.size, t.bytes)) = some (1, 8) := by kernel_rfl
theorem ag284 : Go.Run.isAgg (C m) 284 = some false := by kernel_rfl
theorem sz284 : size (C m) 284 = some 1 := by kernel_rfl
theorem in284 : ((C m).P.info? 284).map (fun t => (t.size, t.bytes)) = some (1, 8) := by kernel_rfl
theorem ag285 : Go.Run.isAgg (C m) 285 = some false := by kernel_rfl
theorem sz285 : size (C m) 285 = some 1 := by kernel_rfl
theorem in285 : ((C m).P.info? 285).map (fun t => (t.size, t.bytes)) = some (1, 8) := by kernel_rfl
theorem ag286 : Go.Run.isAgg (C m) 286 = some false := by kernel_rfl
theorem sz286 : size (C m) 286 = some 1 := by kernel_rfl
theorem in286 : ((C m).P.info? 286).map (fun t => (t.size, t.bytes)) = some (1, 8) := by kernel_rfl
theorem ag287 : Go.Run.isAgg (C m) 287 = some false := by kernel_rfl
theorem sz287 : size (C m) 287 = some 1 := by kernel_rfl
theorem in287 : ((C m).P.info? 287).map (fun t => (t.size, t.bytes)) = some (1, 8) := by kernel_rfl
theorem ag288 : Go.Run.isAgg (C m) 288 = some false := by kernel_rfl
theorem sz288 : size (C m) 288 = some 1 := by kernel_rfl
theorem in288 : ((C m).P.info? 288).map (fun t => (t.size, t.bytes)) = some (1, 8) := by kernel_rfl
theorem ag289 : Go.Run.isAgg (C m) 289 = some false := by kernel_rfl
theorem sz289 : size (C m) 289 = some 1 := by kernel_rfl
theorem in289 : ((C m).P.info? 289).map (fun t => (t.size, t.bytes)) = some (1, 8) := by kernel_rfl
theorem ag290 : Go.Run.isAgg (C m) 290 = some false := by kernel_rfl
theorem sz290 : size (C m) 290 = some 1 := by kernel_rfl
theorem in290 : ((C m).P.info? 290).map (fun t => (t.size, t.bytes)) = some (1, 8) := by kernel_rfl
theorem ag291 : Go.Run.isAgg (C m) 291 = some false := by kernel_rfl
theorem sz291 : size (C m) 291 = some 1 := by kernel_rfl
theorem in291 : ((C m).P.info? 291).map (fun t => (t.size, t.bytes)) = some (1, 8) := by kernel_rfl
theorem un292 : und (C m) 292 = some (.pointer 191) := by kernel_rfl
theorem ag292 : Go.Run.isAgg (C m) 292 = some false := by kernel_rfl
theorem sz292 : size (C m) 292 = some 1 := by kernel_rfl
theorem in292 : ((C m).P.info? 292).map (fun t => (t.size, t.bytes)) = some (1, 8) := by kernel_rfl
theorem ag293 : Go.Run.isAgg (C m) 293 = some false := by kernel_rfl
theorem sz293 : size (C m) 293 = some 1 := by kernel_rfl
theorem in293 : ((C m).P.info? 293).map (fun t => (t.size, t.bytes)) = some (1, 8) := by kernel_rfl
theorem un294 : und (C m) 294 = some (.pointer 21) := by kernel_rfl
theorem ag294 : Go.Run.isAgg (C m) 294 = some false := by kernel_rfl
theorem sz294 : size (C m) 294 = some 1 := by kernel_rfl
theorem in294 : ((C m).P.info? 294).map (fun t => (t.size, t.bytes)) = some (1, 8) := by kernel_rfl
theorem ag295 : Go.Run.isAgg (C m) 295 = some false := by kernel_rfl
theorem sz295 : size (C m) 295 = some 1 := by kernel_rfl
theorem in295 : ((C m).P.info? 295).map (fun t => (t.size, t.bytes)) = some (1, 8) := by kernel_rfl
theorem ag296 : Go.Run.isAgg (C m) 296 = some false := by kernel_rfl
theorem sz296 : size (C m) 296 = some 1 := by kernel_rfl
theorem in296 : ((C m).P.info? 296).map (fun t => (t.size, t.bytes)) = some (1, 8) := by kernel_rfl
theorem ag297 : Go.Run.isAgg (C m) 297 = some false := by kernel_rfl
theorem sz297 : size (C m) 297 = some 1 := by kernel_rfl
theorem in297 : ((C m).P.info? 297).map (fun t => (t.size, t.bytes)) = some (1, 8) := by kernel_rfl
theorem ag298 : Go.Run.isAgg (C m) 298 = some false := by kernel_rfl
theorem sz298 : size (C m) 298 = some 1 := by kernel_rfl
theorem in298 : ((C m).P.info? 298).map (fun t => (t.size, t.bytes)) = some (1, 8) := by kernel_rfl
theorem ag299 : Go.Run.isAgg (C m) 299 = some false := by kernel_rfl
theorem sz299 : size (C m) 299 = some 1 := by kernel_rfl
theorem in299 : ((C m).P.info? 299).map (fun t => (t.size, t.bytes)) = some (1, 8) := by kernel_rfl
theorem ag300 : Go.Run.isAgg (C m) 300 = some false := by kernel_rfl
theorem sz300 : size (C m) 300 = some 1 := by kernel_rfl
theorem in300 : ((C m).P.info? 300).map (fun t => (t.size, t.bytes)) = some (1, 8) := by kernel_rfl
theorem ag301 : Go.Run.isAgg (C m) 301 = some true := by kernel_rfl
theorem sz301 : size (C m) 301 = some 4 := by kernel_rfl
theorem in301 : ((C m).P.info? 301).map (fun t => (t.size, t.bytes)) = some (4, 40) := by kernel_rfl
theorem fa301_0 {i o : Nat} : fadO (C m) 301 (P i o) 0 σ = .val (P i (o + 0)) := by kernel_rfl
theorem fa301_1 {i o : Nat} : fadO (C m) 301 (P i o) 1 σ = .val (P i (o + 1)) := by kernel_rfl
theorem fa301_2 {i o : Nat} : fadO (C m) 301 (P i o) 2 σ = .val (P i (o + 2)) := by kernel_rfl
theorem fa301_3 {i o : Nat} : fadO (C m) 301 (P i o) 3 σ = .val (P i (o + 3)) := by kernel_rfl
theorem ag302 : Go.Run.isAgg (C m) 302 = some true := by kernel_rfl
theorem sz302 : size (C m) 302 = some 4 := by kernel_rfl
theorem in302 : ((C m).P.info? 302).map (fun t => (t.size, t.bytes)) = some (4, 40) := by kernel_rfl
theorem fa302_0 {i o : Nat} : fadO (C m) 302 (P i o) 0 σ = .val (P i (o + 0)) := by kernel_rfl
theorem fa302_1 {i o : Nat} : fadO (C m) 302 (P i o) 1 σ = .val (P i (o + 1)) := by kernel_rfl
theorem fa302_2 {i o : Nat} : fadO (C m) 302 (P i o) 2 σ = .val (P i (o + 2)) := by kernel_rfl
theorem fa302_3 {i o : Nat} : fadO (C m) 302 (P i o) 3 σ = .val (P i (o + 3)) := by kernel_rfl
theorem un303 : und (C m) 303 = some (.array 0 16) := by kernel_rfl
theorem ag303 : Go.Run.isAgg (C m) 303 = some true := by kernel_rfl
theorem sz303 : size (C m) 303 = some 0 := by kernel_rfl
theorem in303 : ((C m).P.info? 303).map (fun t => (t.size, t.bytes)) = some (0, 0) := by kernel_rfl
theorem ag304 : Go.Run.isAgg (C m) 304 = some true := by kernel_rfl
theorem sz304 : size (C m) 304 = some 0 := by kernel_rfl
theorem in304 : ((C m).P.info? 304).map (fun t => (t.size, t.bytes)) = some (0, 0) := by kernel_rfl
theorem ag305 : Go.Run.isAgg (C m) 305 = some true := by kernel_rfl
theorem sz305 : size (C m) 305 = some 0 := by kernel_rfl
theorem in305 : ((C m).P.info? 305).map (fun t => (t.size, t.bytes)) = some (0, 0) := by kernel_rfl
theorem un306 : und (C m) 306 = some (.int .u8) := by kernel_rfl
theorem ag306 : Go.Run.isAgg (C m) 306 = some false := by kernel_rfl
theorem sz306 : size (C m) 306 = some 1 := by kernel_rfl
theorem in306 : ((C m).P.info? 306).map (fun t => (t.size, t.bytes)) = some (1, 1) := by kernel_rfl
theorem un307 : und (C m) 307 = some (.int .u8) := by kernel_rfl
theorem ag307 : Go.Run.isAgg (C m) 307 = some false := by kernel_rfl
theorem sz307 : size (C m) 307 = some 1 := by kernel_rfl
theorem in307 : ((C m).P.info? 307).map (fun t => (t.size, t.bytes)) = some (1, 1) := by kernel_rfl
theorem ag308 : Go.Run.isAgg (C m) 308 = some false := by kernel_rfl
theorem sz308 : size (C m) 308 = some 1 := by kernel_rfl
theorem in308 : ((C m).P.info? 308).map (fun t => (t.size, t.bytes)) = some (1, 8) := by kernel_rfl
theorem un309 : und (C m) 309 = some (.int .i32) := by kernel_rfl
theorem ag309 : Go.Run.isAgg (C m) 309 = some false := by kernel_rfl
theorem sz309 : size (C m) 309 = some 1 := by kernel_rfl
theorem in309 : ((C m).P.info? 309).map (fun t => (t.size, t.bytes)) = some (1, 4) := by kernel_rfl
theorem un310 : und (C m) 310 = some (.int .i32) := by kernel_rfl
theorem ag310 : Go.Run.isAgg (C m) 310 = some false := by kernel_rfl
theorem sz310 : size (C m) 310 = some 1 := by kernel_rfl
theorem in310 : ((C m).P.info? 310).map (fun t => (t.size, t.bytes)) = some (1, 4) := by kernel_rfl
theorem ag311 : Go.Run.isAgg (C m) 311 = some true := by kernel_rfl
theorem sz311 : size (C m) 311 = some 11 := by kernel_rfl
theorem in311 : ((C m).P.info? 311).map (fun t => (t.size, t.bytes)) = some (11, 48) := by kernel_rfl
theorem fa311_0 {i o : Nat} : fadO (C m) 311 (P i o) 0 σ = .val (P i (o + 0)) := by kernel_rfl
theorem fa311_1 {i o : Nat} : fadO (C m) 311 (P i o) 1 σ = .val (P i (o + 1)) := by kernel_rfl
theorem fa311_2 {i o : Nat} : fadO (C m) 311 (P i o) 2 σ = .val (P i (o + 2)) := by kernel_rfl
theorem fa311_3 {i o : Nat} : fadO (C m) 311 (P i o) 3 σ = .val (P i (o + 3)) := by kernel_rfl
theorem fa311_4 {i o : Nat} : fadO (C m) 311 (P i o) 4 σ = .val (P i (o + 4)) := by kernel_rfl
theorem fa311_5 {i o : Nat} : fadO (C m) 311 (P i o) 5 σ = .val (P i (o + 5)) := by kernel_rfl
theorem fa311_6 {i o : Nat} : fadO (C m) 311 (P i o) 6 σ = .val (P i (o + 6)) := by kernel_rfl
theorem fa311_7 {i o : Nat} : fadO (C m) 311 (P i o) 7 σ = .val (P i (o + 7)) := by kernel_rfl
theorem fa311_8 {i o : Nat} : fadO (C m) 311 (P i o) 8 σ = .val (P i (o + 8)) := by kernel_rfl
theorem fa311_9 {i o : Nat} : fadO (C m) 311 (P i o) 9 σ = .val (P i (o + 9)) := by kernel_rfl
theorem fa311_10 {i o : Nat} : fadO (C m) 311 (P i o) 10 σ = .val (P i (o + 10)) := by kernel_rfl
theorem ag312 : Go.Run.isAgg (C m) 312 = some true := by kernel_rfl
theorem sz312 : size (C m) 312 = some 11 := by kernel_rfl
theorem in312 : ((C m).P.info? 312).map (fun t => (t.size, t.bytes)) = some (11, 48) := by kernel_rfl
theorem fa312_0 {i o : Nat} : fadO (C m) 312 (P i o) 0 σ = .val (P i (o + 0)) := by kernel_rfl
theorem fa312_1 {i o : Nat} : fadO (C m) 312 (P i o) 1 σ = .val (P i (o + 1)) := by kernel_rfl
theorem fa312_2 {i o : Nat} : fadO (C m) 312 (P i o) 2 σ = .val (P i (o + 2)) := by kernel_rfl
theorem fa312_3 {i o : Nat} : fadO (C m) 312 (P i o) 3 σ = .val (P i (o + 3)) := by kernel_rfl
theorem fa312_4 {i o : Nat} : fadO (C m) 312 (P i o) 4 σ = .val (P i (o + 4)) := by kernel_rfl
theorem fa312_5 {i o : Nat} : fadO (C m) 312 (P i o) 5 σ = .val (P i (o + 5)) := by kernel_rfl
theorem fa312_6 {i o : Nat} : fadO (C m) 312 (P i o) 6 σ = .val (P i (o + 6)) := by kernel_rfl
theorem fa312_7 {i o : Nat} : fadO (C m) 312 (P i o) 7 σ = .val (P i (o + 7)) := by kernel_rfl
theorem fa312_8 {i o : Nat} : fadO (C m) 312 (P i o) 8 σ = .val (P i (o + 8)) := by kernel_rfl
theorem fa312_9 {i o : Nat} : fadO (C m) 312 (P i o) 9 σ = .val (P i (o + 9)) := by kernel_rfl
theorem fa312_10 {i o : Nat} : fadO (C m) 312 (P i o) 10 σ = .val (P i (o + 10)) := by kernel_rfl
theorem ag313 : Go.Run.isAgg (C m) 313 = some false := by kernel_rfl
theorem sz313 : size (C m) 313 = some 1 := by kernel_rfl
theorem in313 : ((C m).P.info? 313).map (fun t => (t.size, t.bytes)) = some (1, 8) := by kernel_rfl
end Ty
end Go.Proofs.YtggjhmhjjghncaaGreat
