/- Closed facts on the types of this seat's program. -/
import Derived.Test.YtncflnjidajkmaaVaC
import Derived.Test.YtncflnjidajkmaaProg
set_option linter.unnecessarySimpa false
set_option autoImplicit false
/-! The program's types. -/
namespace Go.Va.Try
open Go Go.Va Go.Proofs

theorem sz3 : Tsz Try.prog 3 = some 1 := by kernel_rfl
theorem ag3 : Tagg Try.prog 3 = some false := by kernel_rfl
theorem if3 : Tif Try.prog 3 = some false := by kernel_rfl
theorem ze3 : Tzero Try.prog 3 = some [.int .i64 0] := by kernel_rfl
theorem by3 : Tby Try.prog 3 = some 8 := by kernel_rfl
theorem tk3 : Tk Try.prog 3 = some (.int .i64) := by kernel_rfl
theorem sz4 : Tsz Try.prog 4 = some 1 := by kernel_rfl
theorem ag4 : Tagg Try.prog 4 = some false := by kernel_rfl
theorem if4 : Tif Try.prog 4 = some false := by kernel_rfl
theorem ze4 : Tzero Try.prog 4 = some [.bool false] := by kernel_rfl
theorem by4 : Tby Try.prog 4 = some 1 := by kernel_rfl
theorem ib4 : isBool Try.prog 4 = true := by kernel_rfl
theorem sz5 : Tsz Try.prog 5 = some 1 := by kernel_rfl
theorem ag5 : Tagg Try.prog 5 = some false := by kernel_rfl
theorem if5 : Tif Try.prog 5 = some false := by kernel_rfl
theorem ze5 : Tzero Try.prog 5 = some [.int .u8 0] := by kernel_rfl
theorem by5 : Tby Try.prog 5 = some 1 := by kernel_rfl
theorem tk5 : Tk Try.prog 5 = some (.int .u8) := by kernel_rfl
theorem sz9 : Tsz Try.prog 9 = some 1 := by kernel_rfl
theorem ag9 : Tagg Try.prog 9 = some false := by kernel_rfl
theorem if9 : Tif Try.prog 9 = some false := by kernel_rfl
theorem ze9 : Tzero Try.prog 9 = some [.string ⟨#[]⟩] := by kernel_rfl
theorem by9 : Tby Try.prog 9 = some 16 := by kernel_rfl
theorem tk9 : Tk Try.prog 9 = some .str := by kernel_rfl
theorem sz22 : Tsz Try.prog 22 = some 1 := by kernel_rfl
theorem ag22 : Tagg Try.prog 22 = some false := by kernel_rfl
theorem if22 : Tif Try.prog 22 = some false := by kernel_rfl
theorem ze22 : Tzero Try.prog 22 = some [.float .f64 0] := by kernel_rfl
theorem by22 : Tby Try.prog 22 = some 8 := by kernel_rfl
theorem tk22 : Tk Try.prog 22 = some (.float .f64) := by kernel_rfl
theorem sz23 : Tsz Try.prog 23 = some 1 := by kernel_rfl
theorem ag23 : Tagg Try.prog 23 = some false := by kernel_rfl
theorem if23 : Tif Try.prog 23 = some false := by kernel_rfl
theorem ze23 : Tzero Try.prog 23 = some [.slice none 0 0] := by kernel_rfl
theorem by23 : Tby Try.prog 23 = some 24 := by kernel_rfl
theorem el23 : Telem Try.prog 23 = some 25 := by kernel_rfl
theorem tk23 : Tk Try.prog 23 = some .oth := by kernel_rfl
theorem sz25 : Tsz Try.prog 25 = some 6 := by kernel_rfl
theorem ag25 : Tagg Try.prog 25 = some true := by kernel_rfl
theorem if25 : Tif Try.prog 25 = some false := by kernel_rfl
theorem ze25 : Tzero Try.prog 25 = some [.int .i64 0, .string ⟨#[]⟩, .int .i64 0, .float .f64 0, .float .f64 0, .slice none 0 0] := by kernel_rfl
theorem by25 : Tby Try.prog 25 = some 72 := by kernel_rfl
theorem tk25 : Tk Try.prog 25 = some .oth := by kernel_rfl
theorem fd25_0 : Tfld Try.prog 25 0 = some (0, 1, false) := by kernel_rfl
theorem fd25_1 : Tfld Try.prog 25 1 = some (1, 1, false) := by kernel_rfl
theorem fd25_2 : Tfld Try.prog 25 2 = some (2, 1, false) := by kernel_rfl
theorem fd25_3 : Tfld Try.prog 25 3 = some (3, 1, false) := by kernel_rfl
theorem fd25_4 : Tfld Try.prog 25 4 = some (4, 1, false) := by kernel_rfl
theorem fd25_5 : Tfld Try.prog 25 5 = some (5, 1, false) := by kernel_rfl
theorem la25 : Tlay Try.prog 25 = some ([.int .i64 0, .string ⟨#[]⟩, .int .i64 0, .float .f64 0, .float .f64 0, .slice none 0 0], [(0, 1), (1, 1), (2, 1), (3, 1), (4, 1), (5, 1)]) := by kernel_rfl
theorem sz26 : Tsz Try.prog 26 = some 1 := by kernel_rfl
theorem ag26 : Tagg Try.prog 26 = some false := by kernel_rfl
theorem if26 : Tif Try.prog 26 = some false := by kernel_rfl
theorem ze26 : Tzero Try.prog 26 = some [.slice none 0 0] := by kernel_rfl
theorem by26 : Tby Try.prog 26 = some 24 := by kernel_rfl
theorem el26 : Telem Try.prog 26 = some 82 := by kernel_rfl
theorem tk26 : Tk Try.prog 26 = some .oth := by kernel_rfl
theorem sz28 : Tsz Try.prog 28 = some 8 := by kernel_rfl
theorem ag28 : Tagg Try.prog 28 = some true := by kernel_rfl
theorem if28 : Tif Try.prog 28 = some false := by kernel_rfl
theorem ze28 : Tzero Try.prog 28 = some [.int .i64 0, .int .i64 0, .int .i64 0, .int .i64 0, .int .i64 0, .int .i64 0, .int .i64 0, .int .i64 0] := by kernel_rfl
theorem by28 : Tby Try.prog 28 = some 64 := by kernel_rfl
theorem ar28 : Tarr Try.prog 28 = some (8, 3) := by kernel_rfl
theorem tk28 : Tk Try.prog 28 = some .oth := by kernel_rfl
theorem la28 : Tlay Try.prog 28 = some ([.int .i64 0, .int .i64 0, .int .i64 0, .int .i64 0, .int .i64 0, .int .i64 0, .int .i64 0, .int .i64 0], [(0, 1), (1, 1), (2, 1), (3, 1), (4, 1), (5, 1), (6, 1), (7, 1)]) := by kernel_rfl
theorem eq28 : Teq Try.prog 28 = some [.int, .int, .int, .int, .int, .int, .int, .int] := by kernel_rfl
theorem sz29 : Tsz Try.prog 29 = some 1 := by kernel_rfl
theorem ag29 : Tagg Try.prog 29 = some false := by kernel_rfl
theorem if29 : Tif Try.prog 29 = some false := by kernel_rfl
theorem ze29 : Tzero Try.prog 29 = some [.slice none 0 0] := by kernel_rfl
theorem by29 : Tby Try.prog 29 = some 24 := by kernel_rfl
theorem el29 : Telem Try.prog 29 = some 141 := by kernel_rfl
theorem tk29 : Tk Try.prog 29 = some .oth := by kernel_rfl
theorem sz31 : Tsz Try.prog 31 = some 9 := by kernel_rfl
theorem ag31 : Tagg Try.prog 31 = some true := by kernel_rfl
theorem if31 : Tif Try.prog 31 = some false := by kernel_rfl
theorem ze31 : Tzero Try.prog 31 = some [.int .i64 0, .int .i64 0, .int .i64 0, .int .i64 0, .int .i64 0, .int .i64 0, .int .i64 0, .int .i64 0, .slice none 0 0] := by kernel_rfl
theorem by31 : Tby Try.prog 31 = some 88 := by kernel_rfl
theorem tk31 : Tk Try.prog 31 = some .oth := by kernel_rfl
theorem fd31_0 : Tfld Try.prog 31 0 = some (0, 8, true) := by kernel_rfl
theorem fd31_1 : Tfld Try.prog 31 1 = some (8, 1, false) := by kernel_rfl
theorem la31 : Tlay Try.prog 31 = some ([.int .i64 0, .int .i64 0, .int .i64 0, .int .i64 0, .int .i64 0, .int .i64 0, .int .i64 0, .int .i64 0, .slice none 0 0], [(0, 8), (8, 1)]) := by kernel_rfl
theorem sz33 : Tsz Try.prog 33 = some 21 := by kernel_rfl
theorem ag33 : Tagg Try.prog 33 = some true := by kernel_rfl
theorem if33 : Tif Try.prog 33 = some false := by kernel_rfl
theorem ze33 : Tzero Try.prog 33 = some [.int .i64 0, .int .i64 0, .string ⟨#[]⟩, .int .i64 0, .float .f64 0, .float .f64 0, .slice none 0 0, .slice none 0 0, .slice none 0 0, .int .i64 0, .int .i64 0, .int .i64 0, .int .i64 0, .int .i64 0, .int .i64 0, .int .i64 0, .int .i64 0, .slice none 0 0, .int .i64 0, .int .i64 0, .int .i64 0] := by kernel_rfl
theorem by33 : Tby Try.prog 33 = some 240 := by kernel_rfl
theorem tk33 : Tk Try.prog 33 = some .oth := by kernel_rfl
theorem fd33_0 : Tfld Try.prog 33 0 = some (0, 1, false) := by kernel_rfl
theorem fd33_1 : Tfld Try.prog 33 1 = some (1, 6, true) := by kernel_rfl
theorem fd33_2 : Tfld Try.prog 33 2 = some (7, 1, false) := by kernel_rfl
theorem fd33_3 : Tfld Try.prog 33 3 = some (8, 1, false) := by kernel_rfl
theorem fd33_4 : Tfld Try.prog 33 4 = some (9, 9, true) := by kernel_rfl
theorem fd33_5 : Tfld Try.prog 33 5 = some (18, 1, false) := by kernel_rfl
theorem fd33_6 : Tfld Try.prog 33 6 = some (19, 1, false) := by kernel_rfl
theorem fd33_7 : Tfld Try.prog 33 7 = some (20, 1, false) := by kernel_rfl
theorem la33 : Tlay Try.prog 33 = some ([.int .i64 0, .int .i64 0, .string ⟨#[]⟩, .int .i64 0, .float .f64 0, .float .f64 0, .slice none 0 0, .slice none 0 0, .slice none 0 0, .int .i64 0, .int .i64 0, .int .i64 0, .int .i64 0, .int .i64 0, .int .i64 0, .int .i64 0, .int .i64 0, .slice none 0 0, .int .i64 0, .int .i64 0, .int .i64 0], [(0, 1), (1, 6), (7, 1), (8, 1), (9, 9), (18, 1), (19, 1), (20, 1)]) := by kernel_rfl
theorem sz36 : Tsz Try.prog 36 = some 1 := by kernel_rfl
theorem ag36 : Tagg Try.prog 36 = some false := by kernel_rfl
theorem if36 : Tif Try.prog 36 = some false := by kernel_rfl
theorem ze36 : Tzero Try.prog 36 = some [.complex .f64 0 0] := by kernel_rfl
theorem by36 : Tby Try.prog 36 = some 16 := by kernel_rfl
theorem sz37 : Tsz Try.prog 37 = some 1 := by kernel_rfl
theorem ag37 : Tagg Try.prog 37 = some false := by kernel_rfl
theorem if37 : Tif Try.prog 37 = some false := by kernel_rfl
theorem ze37 : Tzero Try.prog 37 = some [.slice none 0 0] := by kernel_rfl
theorem by37 : Tby Try.prog 37 = some 24 := by kernel_rfl
theorem el37 : Telem Try.prog 37 = some 39 := by kernel_rfl
theorem tk37 : Tk Try.prog 37 = some .oth := by kernel_rfl
theorem sz39 : Tsz Try.prog 39 = some 5 := by kernel_rfl
theorem ag39 : Tagg Try.prog 39 = some true := by kernel_rfl
theorem if39 : Tif Try.prog 39 = some false := by kernel_rfl
theorem ze39 : Tzero Try.prog 39 = some [.int .i64 0, .string ⟨#[]⟩, .int .i64 0, .complex .f64 0 0, .slice none 0 0] := by kernel_rfl
theorem by39 : Tby Try.prog 39 = some 72 := by kernel_rfl
theorem tk39 : Tk Try.prog 39 = some .oth := by kernel_rfl
theorem fd39_0 : Tfld Try.prog 39 0 = some (0, 1, false) := by kernel_rfl
theorem fd39_1 : Tfld Try.prog 39 1 = some (1, 1, false) := by kernel_rfl
theorem fd39_2 : Tfld Try.prog 39 2 = some (2, 1, false) := by kernel_rfl
theorem fd39_3 : Tfld Try.prog 39 3 = some (3, 1, false) := by kernel_rfl
theorem fd39_4 : Tfld Try.prog 39 4 = some (4, 1, false) := by kernel_rfl
theorem la39 : Tlay Try.prog 39 = some ([.int .i64 0, .string ⟨#[]⟩, .int .i64 0, .complex .f64 0 0, .slice none 0 0], [(0, 1), (1, 1), (2, 1), (3, 1), (4, 1)]) := by kernel_rfl
theorem sz40 : Tsz Try.prog 40 = some 1 := by kernel_rfl
theorem ag40 : Tagg Try.prog 40 = some false := by kernel_rfl
theorem if40 : Tif Try.prog 40 = some false := by kernel_rfl
theorem ze40 : Tzero Try.prog 40 = some [.slice none 0 0] := by kernel_rfl
theorem by40 : Tby Try.prog 40 = some 24 := by kernel_rfl
theorem el40 : Telem Try.prog 40 = some 66 := by kernel_rfl
theorem tk40 : Tk Try.prog 40 = some .oth := by kernel_rfl
theorem sz42 : Tsz Try.prog 42 = some 20 := by kernel_rfl
theorem ag42 : Tagg Try.prog 42 = some true := by kernel_rfl
theorem if42 : Tif Try.prog 42 = some false := by kernel_rfl
theorem ze42 : Tzero Try.prog 42 = some [.int .i64 0, .int .i64 0, .string ⟨#[]⟩, .int .i64 0, .complex .f64 0 0, .slice none 0 0, .slice none 0 0, .slice none 0 0, .int .i64 0, .int .i64 0, .int .i64 0, .int .i64 0, .int .i64 0, .int .i64 0, .int .i64 0, .int .i64 0, .slice none 0 0, .int .i64 0, .int .i64 0, .int .i64 0] := by kernel_rfl
theorem by42 : Tby Try.prog 42 = some 240 := by kernel_rfl
theorem tk42 : Tk Try.prog 42 = some .oth := by kernel_rfl
theorem fd42_0 : Tfld Try.prog 42 0 = some (0, 1, false) := by kernel_rfl
theorem fd42_1 : Tfld Try.prog 42 1 = some (1, 5, true) := by kernel_rfl
theorem fd42_2 : Tfld Try.prog 42 2 = some (6, 1, false) := by kernel_rfl
theorem fd42_3 : Tfld Try.prog 42 3 = some (7, 1, false) := by kernel_rfl
theorem fd42_4 : Tfld Try.prog 42 4 = some (8, 9, true) := by kernel_rfl
theorem fd42_5 : Tfld Try.prog 42 5 = some (17, 1, false) := by kernel_rfl
theorem fd42_6 : Tfld Try.prog 42 6 = some (18, 1, false) := by kernel_rfl
theorem fd42_7 : Tfld Try.prog 42 7 = some (19, 1, false) := by kernel_rfl
theorem la42 : Tlay Try.prog 42 = some ([.int .i64 0, .int .i64 0, .string ⟨#[]⟩, .int .i64 0, .complex .f64 0 0, .slice none 0 0, .slice none 0 0, .slice none 0 0, .int .i64 0, .int .i64 0, .int .i64 0, .int .i64 0, .int .i64 0, .int .i64 0, .int .i64 0, .int .i64 0, .slice none 0 0, .int .i64 0, .int .i64 0, .int .i64 0], [(0, 1), (1, 5), (6, 1), (7, 1), (8, 9), (17, 1), (18, 1), (19, 1)]) := by kernel_rfl
theorem sz45 : Tsz Try.prog 45 = some 1 := by kernel_rfl
theorem ag45 : Tagg Try.prog 45 = some false := by kernel_rfl
theorem if45 : Tif Try.prog 45 = some false := by kernel_rfl
theorem ze45 : Tzero Try.prog 45 = some [.slice none 0 0] := by kernel_rfl
theorem by45 : Tby Try.prog 45 = some 24 := by kernel_rfl
theorem el45 : Telem Try.prog 45 = some 3 := by kernel_rfl
theorem tk45 : Tk Try.prog 45 = some .oth := by kernel_rfl
theorem sz46 : Tsz Try.prog 46 = some 1 := by kernel_rfl
theorem ag46 : Tagg Try.prog 46 = some false := by kernel_rfl
theorem if46 : Tif Try.prog 46 = some false := by kernel_rfl
theorem ze46 : Tzero Try.prog 46 = some [.slice none 0 0] := by kernel_rfl
theorem by46 : Tby Try.prog 46 = some 24 := by kernel_rfl
theorem el46 : Telem Try.prog 46 = some 162 := by kernel_rfl
theorem tk46 : Tk Try.prog 46 = some .oth := by kernel_rfl
theorem sz48 : Tsz Try.prog 48 = some 19 := by kernel_rfl
theorem ag48 : Tagg Try.prog 48 = some true := by kernel_rfl
theorem if48 : Tif Try.prog 48 = some false := by kernel_rfl
theorem ze48 : Tzero Try.prog 48 = some [.int .i64 0, .int .i64 0, .int .i64 0, .int .i64 0, .slice none 0 0, .bool false, .bool false, .bool false, .int .i64 0, .int .i64 0, .int .i64 0, .int .i64 0, .int .i64 0, .int .i64 0, .int .i64 0, .int .i64 0, .int .i64 0, .slice none 0 0, .slice none 0 0] := by kernel_rfl
theorem by48 : Tby Try.prog 48 = some 184 := by kernel_rfl
theorem tk48 : Tk Try.prog 48 = some .oth := by kernel_rfl
theorem fd48_0 : Tfld Try.prog 48 0 = some (0, 1, false) := by kernel_rfl
theorem fd48_1 : Tfld Try.prog 48 1 = some (1, 1, false) := by kernel_rfl
theorem fd48_2 : Tfld Try.prog 48 2 = some (2, 1, false) := by kernel_rfl
theorem fd48_3 : Tfld Try.prog 48 3 = some (3, 1, false) := by kernel_rfl
theorem fd48_4 : Tfld Try.prog 48 4 = some (4, 1, false) := by kernel_rfl
theorem fd48_5 : Tfld Try.prog 48 5 = some (5, 1, false) := by kernel_rfl
theorem fd48_6 : Tfld Try.prog 48 6 = some (6, 1, false) := by kernel_rfl
theorem fd48_7 : Tfld Try.prog 48 7 = some (7, 1, false) := by kernel_rfl
theorem fd48_8 : Tfld Try.prog 48 8 = some (8, 1, false) := by kernel_rfl
theorem fd48_9 : Tfld Try.prog 48 9 = some (9, 9, true) := by kernel_rfl
theorem fd48_10 : Tfld Try.prog 48 10 = some (18, 1, false) := by kernel_rfl
theorem la48 : Tlay Try.prog 48 = some ([.int .i64 0, .int .i64 0, .int .i64 0, .int .i64 0, .slice none 0 0, .bool false, .bool false, .bool false, .int .i64 0, .int .i64 0, .int .i64 0, .int .i64 0, .int .i64 0, .int .i64 0, .int .i64 0, .int .i64 0, .int .i64 0, .slice none 0 0, .slice none 0 0], [(0, 1), (1, 1), (2, 1), (3, 1), (4, 1), (5, 1), (6, 1), (7, 1), (8, 1), (9, 9), (18, 1)]) := by kernel_rfl
theorem sz49 : Tsz Try.prog 49 = some 1 := by kernel_rfl
theorem ag49 : Tagg Try.prog 49 = some false := by kernel_rfl
theorem if49 : Tif Try.prog 49 = some false := by kernel_rfl
theorem ze49 : Tzero Try.prog 49 = some [.slice none 0 0] := by kernel_rfl
theorem by49 : Tby Try.prog 49 = some 24 := by kernel_rfl
theorem el49 : Telem Try.prog 49 = some 64 := by kernel_rfl
theorem tk49 : Tk Try.prog 49 = some .oth := by kernel_rfl
theorem sz51 : Tsz Try.prog 51 = some 23 := by kernel_rfl
theorem ag51 : Tagg Try.prog 51 = some true := by kernel_rfl
theorem if51 : Tif Try.prog 51 = some false := by kernel_rfl
theorem ze51 : Tzero Try.prog 51 = some [.int .i64 0, .int .i64 0, .int .i64 0, .int .i64 0, .int .i64 0, .int .i64 0, .string ⟨#[]⟩, .int .i64 0, .complex .f64 0 0, .slice none 0 0, .int .i64 0, .int .i64 0, .int .i64 0, .int .i64 0, .int .i64 0, .int .i64 0, .int .i64 0, .int .i64 0, .slice none 0 0, .slice none 0 0, .int .i64 0, .slice none 0 0, .bool false] := by kernel_rfl
theorem by51 : Tby Try.prog 51 = some 264 := by kernel_rfl
theorem tk51 : Tk Try.prog 51 = some .oth := by kernel_rfl
theorem fd51_0 : Tfld Try.prog 51 0 = some (0, 1, false) := by kernel_rfl
theorem fd51_1 : Tfld Try.prog 51 1 = some (1, 1, false) := by kernel_rfl
theorem fd51_2 : Tfld Try.prog 51 2 = some (2, 1, false) := by kernel_rfl
theorem fd51_3 : Tfld Try.prog 51 3 = some (3, 1, false) := by kernel_rfl
theorem fd51_4 : Tfld Try.prog 51 4 = some (4, 1, false) := by kernel_rfl
theorem fd51_5 : Tfld Try.prog 51 5 = some (5, 5, true) := by kernel_rfl
theorem fd51_6 : Tfld Try.prog 51 6 = some (10, 9, true) := by kernel_rfl
theorem fd51_7 : Tfld Try.prog 51 7 = some (19, 1, false) := by kernel_rfl
theorem fd51_8 : Tfld Try.prog 51 8 = some (20, 1, false) := by kernel_rfl
theorem fd51_9 : Tfld Try.prog 51 9 = some (21, 1, false) := by kernel_rfl
theorem fd51_10 : Tfld Try.prog 51 10 = some (22, 1, false) := by kernel_rfl
theorem la51 : Tlay Try.prog 51 = some ([.int .i64 0, .int .i64 0, .int .i64 0, .int .i64 0, .int .i64 0, .int .i64 0, .string ⟨#[]⟩, .int .i64 0, .complex .f64 0 0, .slice none 0 0, .int .i64 0, .int .i64 0, .int .i64 0, .int .i64 0, .int .i64 0, .int .i64 0, .int .i64 0, .int .i64 0, .slice none 0 0, .slice none 0 0, .int .i64 0, .slice none 0 0, .bool false], [(0, 1), (1, 1), (2, 1), (3, 1), (4, 1), (5, 5), (10, 9), (19, 1), (20, 1), (21, 1), (22, 1)]) := by kernel_rfl
theorem sz54 : Tsz Try.prog 54 = some 19 := by kernel_rfl
theorem ag54 : Tagg Try.prog 54 = some true := by kernel_rfl
theorem if54 : Tif Try.prog 54 = some false := by kernel_rfl
theorem ze54 : Tzero Try.prog 54 = some [.int .i64 0, .int .i64 0, .int .i64 0, .int .i64 0, .slice none 0 0, .bool false, .bool false, .bool false, .int .i64 0, .int .i64 0, .int .i64 0, .int .i64 0, .int .i64 0, .int .i64 0, .int .i64 0, .int .i64 0, .int .i64 0, .slice none 0 0, .slice none 0 0] := by kernel_rfl
theorem by54 : Tby Try.prog 54 = some 184 := by kernel_rfl
theorem tk54 : Tk Try.prog 54 = some .oth := by kernel_rfl
theorem fd54_0 : Tfld Try.prog 54 0 = some (0, 1, false) := by kernel_rfl
theorem fd54_1 : Tfld Try.prog 54 1 = some (1, 1, false) := by kernel_rfl
theorem fd54_2 : Tfld Try.prog 54 2 = some (2, 1, false) := by kernel_rfl
theorem fd54_3 : Tfld Try.prog 54 3 = some (3, 1, false) := by kernel_rfl
theorem fd54_4 : Tfld Try.prog 54 4 = some (4, 1, false) := by kernel_rfl
theorem fd54_5 : Tfld Try.prog 54 5 = some (5, 1, false) := by kernel_rfl
theorem fd54_6 : Tfld Try.prog 54 6 = some (6, 1, false) := by kernel_rfl
theorem fd54_7 : Tfld Try.prog 54 7 = some (7, 1, false) := by kernel_rfl
theorem fd54_8 : Tfld Try.prog 54 8 = some (8, 1, false) := by kernel_rfl
theorem fd54_9 : Tfld Try.prog 54 9 = some (9, 9, true) := by kernel_rfl
theorem fd54_10 : Tfld Try.prog 54 10 = some (18, 1, false) := by kernel_rfl
theorem la54 : Tlay Try.prog 54 = some ([.int .i64 0, .int .i64 0, .int .i64 0, .int .i64 0, .slice none 0 0, .bool false, .bool false, .bool false, .int .i64 0, .int .i64 0, .int .i64 0, .int .i64 0, .int .i64 0, .int .i64 0, .int .i64 0, .int .i64 0, .int .i64 0, .slice none 0 0, .slice none 0 0], [(0, 1), (1, 1), (2, 1), (3, 1), (4, 1), (5, 1), (6, 1), (7, 1), (8, 1), (9, 9), (18, 1)]) := by kernel_rfl
theorem sz62 : Tsz Try.prog 62 = some 2 := by kernel_rfl
theorem ag62 : Tagg Try.prog 62 = some true := by kernel_rfl
theorem if62 : Tif Try.prog 62 = some false := by kernel_rfl
theorem ze62 : Tzero Try.prog 62 = some [.int .i64 0, .int .i64 0] := by kernel_rfl
theorem by62 : Tby Try.prog 62 = some 16 := by kernel_rfl
theorem tk62 : Tk Try.prog 62 = some .oth := by kernel_rfl
theorem fd62_0 : Tfld Try.prog 62 0 = some (0, 1, false) := by kernel_rfl
theorem fd62_1 : Tfld Try.prog 62 1 = some (1, 1, false) := by kernel_rfl
theorem la62 : Tlay Try.prog 62 = some ([.int .i64 0, .int .i64 0], [(0, 1), (1, 1)]) := by kernel_rfl
theorem eq62 : Teq Try.prog 62 = some [.int, .int] := by kernel_rfl
theorem sz64 : Tsz Try.prog 64 = some 4 := by kernel_rfl
theorem ag64 : Tagg Try.prog 64 = some true := by kernel_rfl
theorem if64 : Tif Try.prog 64 = some false := by kernel_rfl
theorem ze64 : Tzero Try.prog 64 = some [.string ⟨#[]⟩, .int .i64 0, .int .i64 0, .int .i64 0] := by kernel_rfl
theorem by64 : Tby Try.prog 64 = some 40 := by kernel_rfl
theorem tk64 : Tk Try.prog 64 = some .oth := by kernel_rfl
theorem fd64_0 : Tfld Try.prog 64 0 = some (0, 1, false) := by kernel_rfl
theorem fd64_1 : Tfld Try.prog 64 1 = some (1, 2, true) := by kernel_rfl
theorem fd64_2 : Tfld Try.prog 64 2 = some (3, 1, false) := by kernel_rfl
theorem la64 : Tlay Try.prog 64 = some ([.string ⟨#[]⟩, .int .i64 0, .int .i64 0, .int .i64 0], [(0, 1), (1, 2), (3, 1)]) := by kernel_rfl
theorem sz66 : Tsz Try.prog 66 = some 8 := by kernel_rfl
theorem ag66 : Tagg Try.prog 66 = some true := by kernel_rfl
theorem if66 : Tif Try.prog 66 = some false := by kernel_rfl
theorem ze66 : Tzero Try.prog 66 = some [.string ⟨#[]⟩, .int .i64 0, .int .i64 0, .int .i64 0, .string ⟨#[]⟩, .int .i64 0, .complex .f64 0 0, .bool false] := by kernel_rfl
theorem by66 : Tby Try.prog 66 = some 88 := by kernel_rfl
theorem tk66 : Tk Try.prog 66 = some .oth := by kernel_rfl
theorem fd66_0 : Tfld Try.prog 66 0 = some (0, 1, false) := by kernel_rfl
theorem fd66_1 : Tfld Try.prog 66 1 = some (1, 2, true) := by kernel_rfl
theorem fd66_2 : Tfld Try.prog 66 2 = some (3, 1, false) := by kernel_rfl
theorem fd66_3 : Tfld Try.prog 66 3 = some (4, 1, false) := by kernel_rfl
theorem fd66_4 : Tfld Try.prog 66 4 = some (5, 1, false) := by kernel_rfl
theorem fd66_5 : Tfld Try.prog 66 5 = some (6, 1, false) := by kernel_rfl
theorem fd66_6 : Tfld Try.prog 66 6 = some (7, 1, false) := by kernel_rfl
theorem la66 : Tlay Try.prog 66 = some ([.string ⟨#[]⟩, .int .i64 0, .int .i64 0, .int .i64 0, .string ⟨#[]⟩, .int .i64 0, .complex .f64 0 0, .bool false], [(0, 1), (1, 2), (3, 1), (4, 1), (5, 1), (6, 1), (7, 1)]) := by kernel_rfl
theorem sz68 : Tsz Try.prog 68 = some 1 := by kernel_rfl
theorem ag68 : Tagg Try.prog 68 = some false := by kernel_rfl
theorem if68 : Tif Try.prog 68 = some false := by kernel_rfl
theorem ze68 : Tzero Try.prog 68 = some [.slice none 0 0] := by kernel_rfl
theorem by68 : Tby Try.prog 68 = some 24 := by kernel_rfl
theorem el68 : Telem Try.prog 68 = some 5 := by kernel_rfl
theorem tk68 : Tk Try.prog 68 = some .oth := by kernel_rfl
theorem if76 : Tif Try.prog 76 = some true := by kernel_rfl
theorem sz82 : Tsz Try.prog 82 = some 9 := by kernel_rfl
theorem ag82 : Tagg Try.prog 82 = some true := by kernel_rfl
theorem if82 : Tif Try.prog 82 = some false := by kernel_rfl
theorem ze82 : Tzero Try.prog 82 = some [.string ⟨#[]⟩, .int .i64 0, .int .i64 0, .int .i64 0, .string ⟨#[]⟩, .int .i64 0, .float .f64 0, .float .f64 0, .bool false] := by kernel_rfl
theorem by82 : Tby Try.prog 82 = some 88 := by kernel_rfl
theorem tk82 : Tk Try.prog 82 = some .oth := by kernel_rfl
theorem fd82_0 : Tfld Try.prog 82 0 = some (0, 1, false) := by kernel_rfl
theorem fd82_1 : Tfld Try.prog 82 1 = some (1, 1, false) := by kernel_rfl
theorem fd82_2 : Tfld Try.prog 82 2 = some (2, 1, false) := by kernel_rfl
theorem fd82_3 : Tfld Try.prog 82 3 = some (3, 1, false) := by kernel_rfl
theorem fd82_4 : Tfld Try.prog 82 4 = some (4, 1, false) := by kernel_rfl
theorem fd82_5 : Tfld Try.prog 82 5 = some (5, 1, false) := by kernel_rfl
theorem fd82_6 : Tfld Try.prog 82 6 = some (6, 1, false) := by kernel_rfl
theorem fd82_7 : Tfld Try.prog 82 7 = some (7, 1, false) := by kernel_rfl
theorem fd82_8 : Tfld Try.prog 82 8 = some (8, 1, false) := by kernel_rfl
theorem la82 : Tlay Try.prog 82 = some ([.string ⟨#[]⟩, .int .i64 0, .int .i64 0, .int .i64 0, .string ⟨#[]⟩, .int .i64 0, .float .f64 0, .float .f64 0, .bool false], [(0, 1), (1, 1), (2, 1), (3, 1), (4, 1), (5, 1), (6, 1), (7, 1), (8, 1)]) := by kernel_rfl
theorem sz116 : Tsz Try.prog 116 = some 1 := by kernel_rfl
theorem ag116 : Tagg Try.prog 116 = some false := by kernel_rfl
theorem if116 : Tif Try.prog 116 = some false := by kernel_rfl
theorem ze116 : Tzero Try.prog 116 = some [.int .u32 0] := by kernel_rfl
theorem by116 : Tby Try.prog 116 = some 4 := by kernel_rfl
theorem tk116 : Tk Try.prog 116 = some (.int .u32) := by kernel_rfl
theorem sz118 : Tsz Try.prog 118 = some 1 := by kernel_rfl
theorem ag118 : Tagg Try.prog 118 = some false := by kernel_rfl
theorem if118 : Tif Try.prog 118 = some false := by kernel_rfl
theorem ze118 : Tzero Try.prog 118 = some [.int .u64 0] := by kernel_rfl
theorem by118 : Tby Try.prog 118 = some 8 := by kernel_rfl
theorem tk118 : Tk Try.prog 118 = some (.int .u64) := by kernel_rfl
theorem sz119 : Tsz Try.prog 119 = some 1 := by kernel_rfl
theorem ag119 : Tagg Try.prog 119 = some false := by kernel_rfl
theorem if119 : Tif Try.prog 119 = some false := by kernel_rfl
theorem ze119 : Tzero Try.prog 119 = some [.int .i64 0] := by kernel_rfl
theorem by119 : Tby Try.prog 119 = some 8 := by kernel_rfl
theorem tk119 : Tk Try.prog 119 = some (.int .i64) := by kernel_rfl
theorem sz120 : Tsz Try.prog 120 = some 1 := by kernel_rfl
theorem ag120 : Tagg Try.prog 120 = some false := by kernel_rfl
theorem if120 : Tif Try.prog 120 = some false := by kernel_rfl
theorem ze120 : Tzero Try.prog 120 = some [.int .u64 0] := by kernel_rfl
theorem by120 : Tby Try.prog 120 = some 8 := by kernel_rfl
theorem tk120 : Tk Try.prog 120 = some (.int .u64) := by kernel_rfl
theorem sz139 : Tsz Try.prog 139 = some 1 := by kernel_rfl
theorem ag139 : Tagg Try.prog 139 = some false := by kernel_rfl
theorem if139 : Tif Try.prog 139 = some false := by kernel_rfl
theorem ze139 : Tzero Try.prog 139 = some [.slice none 0 0] := by kernel_rfl
theorem by139 : Tby Try.prog 139 = some 24 := by kernel_rfl
theorem el139 : Telem Try.prog 139 = some 9 := by kernel_rfl
theorem tk139 : Tk Try.prog 139 = some .oth := by kernel_rfl
theorem sz141 : Tsz Try.prog 141 = some 9 := by kernel_rfl
theorem ag141 : Tagg Try.prog 141 = some true := by kernel_rfl
theorem if141 : Tif Try.prog 141 = some false := by kernel_rfl
theorem ze141 : Tzero Try.prog 141 = some [.slice none 0 0, .int .i64 0, .int .i64 0, .int .i64 0, .int .i64 0, .int .i64 0, .int .i64 0, .int .i64 0, .int .i64 0] := by kernel_rfl
theorem by141 : Tby Try.prog 141 = some 88 := by kernel_rfl
theorem tk141 : Tk Try.prog 141 = some .oth := by kernel_rfl
theorem fd141_0 : Tfld Try.prog 141 0 = some (0, 1, false) := by kernel_rfl
theorem fd141_1 : Tfld Try.prog 141 1 = some (1, 8, true) := by kernel_rfl
theorem la141 : Tlay Try.prog 141 = some ([.slice none 0 0, .int .i64 0, .int .i64 0, .int .i64 0, .int .i64 0, .int .i64 0, .int .i64 0, .int .i64 0, .int .i64 0], [(0, 1), (1, 8)]) := by kernel_rfl
theorem sz162 : Tsz Try.prog 162 = some 11 := by kernel_rfl
theorem ag162 : Tagg Try.prog 162 = some true := by kernel_rfl
theorem if162 : Tif Try.prog 162 = some false := by kernel_rfl
theorem ze162 : Tzero Try.prog 162 = some [.string ⟨#[]⟩, .int .i64 0, .int .i64 0, .int .i64 0, .string ⟨#[]⟩, .int .i64 0, .complex .f64 0 0, .bool false, .bool false, .int .i64 0, .int .i64 0] := by kernel_rfl
theorem by162 : Tby Try.prog 162 = some 112 := by kernel_rfl
theorem tk162 : Tk Try.prog 162 = some .oth := by kernel_rfl
theorem fd162_0 : Tfld Try.prog 162 0 = some (0, 8, true) := by kernel_rfl
theorem fd162_1 : Tfld Try.prog 162 1 = some (8, 1, false) := by kernel_rfl
theorem fd162_2 : Tfld Try.prog 162 2 = some (9, 2, true) := by kernel_rfl
theorem la162 : Tlay Try.prog 162 = some ([.string ⟨#[]⟩, .int .i64 0, .int .i64 0, .int .i64 0, .string ⟨#[]⟩, .int .i64 0, .complex .f64 0 0, .bool false, .bool false, .int .i64 0, .int .i64 0], [(0, 8), (8, 1), (9, 2)]) := by kernel_rfl
theorem sz175 : Tsz Try.prog 175 = some 1 := by kernel_rfl
theorem ag175 : Tagg Try.prog 175 = some false := by kernel_rfl
theorem if175 : Tif Try.prog 175 = some false := by kernel_rfl
theorem ze175 : Tzero Try.prog 175 = some [.slice none 0 0] := by kernel_rfl
theorem by175 : Tby Try.prog 175 = some 24 := by kernel_rfl
theorem el175 : Telem Try.prog 175 = some 29 := by kernel_rfl
theorem tk175 : Tk Try.prog 175 = some .oth := by kernel_rfl
theorem sz192 : Tsz Try.prog 192 = some 1 := by kernel_rfl
theorem ag192 : Tagg Try.prog 192 = some false := by kernel_rfl
theorem if192 : Tif Try.prog 192 = some false := by kernel_rfl
theorem ze192 : Tzero Try.prog 192 = some [.int .i64 0] := by kernel_rfl
theorem by192 : Tby Try.prog 192 = some 8 := by kernel_rfl
theorem tk192 : Tk Try.prog 192 = some (.int .i64) := by kernel_rfl
theorem sz200 : Tsz Try.prog 200 = some 1 := by kernel_rfl
theorem ag200 : Tagg Try.prog 200 = some false := by kernel_rfl
theorem if200 : Tif Try.prog 200 = some false := by kernel_rfl
theorem ze200 : Tzero Try.prog 200 = some [.int .u64 0] := by kernel_rfl
theorem by200 : Tby Try.prog 200 = some 8 := by kernel_rfl
theorem tk200 : Tk Try.prog 200 = some (.int .u64) := by kernel_rfl
attribute [go_sem] sz3 ag3 if3 ze3 by3 tk3 sz4 ag4 if4 ze4 by4 ib4 sz5 ag5 if5 ze5 by5 tk5 sz9 ag9 if9 ze9 by9 tk9 sz22 ag22 if22 ze22 by22 tk22 sz23 ag23 if23 ze23 by23 el23 tk23 sz25 ag25 if25 ze25 by25 tk25 fd25_0 fd25_1 fd25_2 fd25_3 fd25_4 fd25_5 la25 sz26 ag26 if26 ze26 by26 el26 tk26 sz28 ag28 if28 ze28 by28 ar28 tk28 la28 eq28 sz29 ag29 if29 ze29 by29 el29 tk29 sz31 ag31 if31 ze31 by31 tk31 fd31_0 fd31_1 la31 sz33 ag33 if33 ze33 by33 tk33 fd33_0 fd33_1 fd33_2 fd33_3 fd33_4 fd33_5 fd33_6 fd33_7 la33 sz36 ag36 if36 ze36 by36 sz37 ag37 if37 ze37 by37 el37 tk37 sz39 ag39 if39 ze39 by39 tk39 fd39_0 fd39_1 fd39_2 fd39_3 fd39_4 la39 sz40 ag40 if40 ze40 by40 el40 tk40 sz42 ag42 if42 ze42 by42 tk42 fd42_0 fd42_1 fd42_2 fd42_3 fd42_4 fd42_5 fd42_6 fd42_7 la42 sz45 ag45 if45 ze45 by45 el45 tk45 sz46 ag46 if46 ze46 by46 el46 tk46 sz48 ag48 if48 ze48 by48 tk48 fd48_0 fd48_1 fd48_2 fd48_3 fd48_4 fd48_5 fd48_6 fd48_7 fd48_8 fd48_9 fd48_10 la48 sz49 ag49 if49 ze49 by49 el49 tk49 sz51 ag51 if51 ze51 by51 tk51 fd51_0 fd51_1 fd51_2 fd51_3 fd51_4 fd51_5 fd51_6 fd51_7 fd51_8 fd51_9 fd51_10 la51 sz54 ag54 if54 ze54 by54 tk54 fd54_0 fd54_1 fd54_2 fd54_3 fd54_4 fd54_5 fd54_6 fd54_7 fd54_8 fd54_9 fd54_10 la54 sz62 ag62 if62 ze62 by62 tk62 fd62_0 fd62_1 la62 eq62 sz64 ag64 if64 ze64 by64 tk64 fd64_0 fd64_1 fd64_2 la64 sz66 ag66 if66 ze66 by66 tk66 fd66_0 fd66_1 fd66_2 fd66_3 fd66_4 fd66_5 fd66_6 la66 sz68 ag68 if68 ze68 by68 el68 tk68 if76 sz82 ag82 if82 ze82 by82 tk82 fd82_0 fd82_1 fd82_2 fd82_3 fd82_4 fd82_5 fd82_6 fd82_7 fd82_8 la82 sz116 ag116 if116 ze116 by116 tk116 sz118 ag118 if118 ze118 by118 tk118 sz119 ag119 if119 ze119 by119 tk119 sz120 ag120 if120 ze120 by120 tk120 sz139 ag139 if139 ze139 by139 el139 tk139 sz141 ag141 if141 ze141 by141 tk141 fd141_0 fd141_1 la141 sz162 ag162 if162 ze162 by162 tk162 fd162_0 fd162_1 fd162_2 la162 sz175 ag175 if175 ze175 by175 el175 tk175 sz192 ag192 if192 ze192 by192 tk192 sz200 ag200 if200 ze200 by200 tk200
end Go.Va.Try
