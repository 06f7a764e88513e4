/-
  Facts on the program.
  Conditions: none.
-/
import Derived.Test.YtcflbdpjoanbgaaRows
import Derived.Test.YtcflbdpjoanbgaaOp1
import Derived.Test.YtcflbdpjoanbgaaFl1
import Derived.Test.YtcflbdpjoanbgaaMs5
import Derived.Test.YtcflbdpjoanbgaaFs2
namespace Go.Proofs.Ytcflbdpjoanbgaa
open Go Go.Sl
set_option linter.unusedVariables false
set_option linter.unusedSimpArgs false
theorem ag117 : aggO Try.prog 117 = some true := by kernel_rfl
theorem ag2 : aggO Try.prog 2 = some false := by kernel_rfl
theorem ag25 : aggO Try.prog 25 = some false := by kernel_rfl
theorem ag26 : aggO Try.prog 26 = some false := by kernel_rfl
theorem ag27 : aggO Try.prog 27 = some false := by kernel_rfl
theorem ag28 : aggO Try.prog 28 = some false := by kernel_rfl
theorem ag3 : aggO Try.prog 3 = some false := by kernel_rfl
theorem ag30 : aggO Try.prog 30 = some true := by kernel_rfl
theorem ag4 : aggO Try.prog 4 = some false := by kernel_rfl
theorem ag47 : aggO Try.prog 47 = some false := by kernel_rfl
theorem ag48 : aggO Try.prog 48 = some false := by kernel_rfl
theorem ag5 : aggO Try.prog 5 = some false := by kernel_rfl
theorem ag54 : aggO Try.prog 54 = some true := by kernel_rfl
theorem ag55 : aggO Try.prog 55 = some false := by kernel_rfl
theorem ag57 : aggO Try.prog 57 = some true := by kernel_rfl
theorem ag59 : aggO Try.prog 59 = some true := by kernel_rfl
theorem ag60 : aggO Try.prog 60 = some false := by kernel_rfl
theorem ag62 : aggO Try.prog 62 = some true := by kernel_rfl
theorem ag68 : aggO Try.prog 68 = some true := by kernel_rfl
theorem ag83 : aggO Try.prog 83 = some true := by kernel_rfl
theorem ag9 : aggO Try.prog 9 = some false := by kernel_rfl
theorem bz117_1 : ((Array.range (1 * 4)).map (fun j => ((.agg #[.int .i64 0, .int .i64 0, .slice none 0 0, .bool false] : Value)).cells[j % ((.agg #[.int .i64 0, .int .i64 0, .slice none 0 0, .bool false] : Value)).cells.size]!)) = ([.int .i64 0, .int .i64 0, .slice none 0 0, .bool false] : List Value).toArray := by kernel_rfl
theorem bz30_1 : ((Array.range (1 * 10)).map (fun j => ((.agg #[.int .i64 0, .int .i64 0, .int .i64 0, .int .i64 0, .int .i64 0, .string ⟨#[]⟩, .int .i64 0, .slice none 0 0, .slice none 0 0, .slice none 0 0] : Value)).cells[j % ((.agg #[.int .i64 0, .int .i64 0, .int .i64 0, .int .i64 0, .int .i64 0, .string ⟨#[]⟩, .int .i64 0, .slice none 0 0, .slice none 0 0, .slice none 0 0] : Value)).cells.size]!)) = ([.int .i64 0, .int .i64 0, .int .i64 0, .int .i64 0, .int .i64 0, .string ⟨#[]⟩, .int .i64 0, .slice none 0 0, .slice none 0 0, .slice none 0 0] : List Value).toArray := by kernel_rfl
theorem bz30_2 : ((Array.range (2 * 10)).map (fun j => ((.agg #[.int .i64 0, .int .i64 0, .int .i64 0, .int .i64 0, .int .i64 0, .string ⟨#[]⟩, .int .i64 0, .slice none 0 0, .slice none 0 0, .slice none 0 0] : Value)).cells[j % ((.agg #[.int .i64 0, .int .i64 0, .int .i64 0, .int .i64 0, .int .i64 0, .string ⟨#[]⟩, .int .i64 0, .slice none 0 0, .slice none 0 0, .slice none 0 0] : Value)).cells.size]!)) = ([.int .i64 0, .int .i64 0, .int .i64 0, .int .i64 0, .int .i64 0, .string ⟨#[]⟩, .int .i64 0, .slice none 0 0, .slice none 0 0, .slice none 0 0, .int .i64 0, .int .i64 0, .int .i64 0, .int .i64 0, .int .i64 0, .string ⟨#[]⟩, .int .i64 0, .slice none 0 0, .slice none 0 0, .slice none 0 0] : List Value).toArray := by kernel_rfl
theorem bz3_2 : ((Array.range (2 * 1)).map (fun j => ((.int .i64 0 : Value)).cells[j % ((.int .i64 0 : Value)).cells.size]!)) = ([.int .i64 0, .int .i64 0] : List Value).toArray := by kernel_rfl
theorem bz59_1 : ((Array.range (1 * 10)).map (fun j => ((.agg #[.string ⟨#[]⟩, .int .i64 0, .int .i64 0, .int .i64 0, .int .i64 0, .int .i64 0, .int .i64 0, .int .i64 0, .int .i64 0, .slice none 0 0] : Value)).cells[j % ((.agg #[.string ⟨#[]⟩, .int .i64 0, .int .i64 0, .int .i64 0, .int .i64 0, .int .i64 0, .int .i64 0, .int .i64 0, .int .i64 0, .slice none 0 0] : Value)).cells.size]!)) = ([.string ⟨#[]⟩, .int .i64 0, .int .i64 0, .int .i64 0, .int .i64 0, .int .i64 0, .int .i64 0, .int .i64 0, .int .i64 0, .slice none 0 0] : List Value).toArray := by kernel_rfl
theorem bz5_0 : ((Array.range (0 * 1)).map (fun j => ((.int .u8 0 : Value)).cells[j % ((.int .u8 0 : Value)).cells.size]!)) = ([] : List Value).toArray := by kernel_rfl
theorem bz5_1 : ((Array.range (1 * 1)).map (fun j => ((.int .u8 0 : Value)).cells[j % ((.int .u8 0 : Value)).cells.size]!)) = ([.int .u8 0] : List Value).toArray := by kernel_rfl
theorem bz62_1 : ((Array.range (1 * 10)).map (fun j => ((.agg #[.string ⟨#[]⟩, .int .i64 0, .int .i64 0, .int .i64 0, .int .i64 0, .int .i64 0, .int .i64 0, .int .i64 0, .int .i64 0, .slice none 0 0] : Value)).cells[j % ((.agg #[.string ⟨#[]⟩, .int .i64 0, .int .i64 0, .int .i64 0, .int .i64 0, .int .i64 0, .int .i64 0, .int .i64 0, .int .i64 0, .slice none 0 0] : Value)).cells.size]!)) = ([.string ⟨#[]⟩, .int .i64 0, .int .i64 0, .int .i64 0, .int .i64 0, .int .i64 0, .int .i64 0, .int .i64 0, .int .i64 0, .slice none 0 0] : List Value).toArray := by kernel_rfl
theorem bz68_0 : ((Array.range (0 * 2)).map (fun j => ((.agg #[.int .i64 0, .int .i64 0] : Value)).cells[j % ((.agg #[.int .i64 0, .int .i64 0] : Value)).cells.size]!)) = ([] : List Value).toArray := by kernel_rfl
theorem bz68_1 : ((Array.range (1 * 2)).map (fun j => ((.agg #[.int .i64 0, .int .i64 0] : Value)).cells[j % ((.agg #[.int .i64 0, .int .i64 0] : Value)).cells.size]!)) = ([.int .i64 0, .int .i64 0] : List Value).toArray := by kernel_rfl
theorem bz83_0 : ((Array.range (0 * 2)).map (fun j => ((.agg #[.int .i64 0, .int .i64 0] : Value)).cells[j % ((.agg #[.int .i64 0, .int .i64 0] : Value)).cells.size]!)) = ([] : List Value).toArray := by kernel_rfl
theorem bz83_1 : ((Array.range (1 * 2)).map (fun j => ((.agg #[.int .i64 0, .int .i64 0] : Value)).cells[j % ((.agg #[.int .i64 0, .int .i64 0] : Value)).cells.size]!)) = ([.int .i64 0, .int .i64 0] : List Value).toArray := by kernel_rfl
theorem cells2 : Try.prog.cellsOf 2 = 1 := by kernel_rfl
theorem eqg54 : Try.prog.eqGuardType Try.prog.depth 54 = false := by kernel_rfl
theorem eqg68 : Try.prog.eqGuardType Try.prog.depth 68 = false := by kernel_rfl
theorem eqg83 : Try.prog.eqGuardType Try.prog.depth 83 = false := by kernel_rfl
theorem fb107_0 : fieldB Try.prog 107 0 0 = true := by kernel_rfl
theorem fb107_1 : fieldB Try.prog 107 1 1 = true := by kernel_rfl
theorem fb117_0 : fieldB Try.prog 117 0 0 = true := by kernel_rfl
theorem fb117_1 : fieldB Try.prog 117 1 2 = true := by kernel_rfl
theorem fb117_2 : fieldB Try.prog 117 2 3 = true := by kernel_rfl
theorem fb30_0 : fieldB Try.prog 30 0 0 = true := by kernel_rfl
theorem fb30_1 : fieldB Try.prog 30 1 1 = true := by kernel_rfl
theorem fb30_2 : fieldB Try.prog 30 2 2 = true := by kernel_rfl
theorem fb30_3 : fieldB Try.prog 30 3 3 = true := by kernel_rfl
theorem fb30_4 : fieldB Try.prog 30 4 4 = true := by kernel_rfl
theorem fb30_5 : fieldB Try.prog 30 5 5 = true := by kernel_rfl
theorem fb30_6 : fieldB Try.prog 30 6 6 = true := by kernel_rfl
theorem fb30_7 : fieldB Try.prog 30 7 7 = true := by kernel_rfl
theorem fb30_8 : fieldB Try.prog 30 8 8 = true := by kernel_rfl
theorem fb30_9 : fieldB Try.prog 30 9 9 = true := by kernel_rfl
theorem fb46_0 : fieldB Try.prog 46 0 0 = true := by kernel_rfl
theorem fb46_1 : fieldB Try.prog 46 1 1 = true := by kernel_rfl
theorem fb57_0 : fieldB Try.prog 57 0 0 = true := by kernel_rfl
theorem fb57_1 : fieldB Try.prog 57 1 8 = true := by kernel_rfl
theorem fb59_0 : fieldB Try.prog 59 0 0 = true := by kernel_rfl
theorem fb59_1 : fieldB Try.prog 59 1 1 = true := by kernel_rfl
theorem fb62_0 : fieldB Try.prog 62 0 0 = true := by kernel_rfl
theorem fb62_1 : fieldB Try.prog 62 1 1 = true := by kernel_rfl
theorem fb62_2 : fieldB Try.prog 62 2 9 = true := by kernel_rfl
theorem fb68_0 : fieldB Try.prog 68 0 0 = true := by kernel_rfl
theorem fb68_1 : fieldB Try.prog 68 1 1 = true := by kernel_rfl
theorem fb83_0 : fieldB Try.prog 83 0 0 = true := by kernel_rfl
theorem fb83_1 : fieldB Try.prog 83 1 1 = true := by kernel_rfl
theorem fb98_0 : fieldB Try.prog 98 0 0 = true := by kernel_rfl
theorem fb98_1 : fieldB Try.prog 98 1 1 = true := by kernel_rfl
theorem fb98_2 : fieldB Try.prog 98 2 2 = true := by kernel_rfl
theorem fn10 : fnB Try.prog 10 = true := by kernel_rfl
theorem fn100 : fnB Try.prog 100 = true := by kernel_rfl
theorem fn101 : fnB Try.prog 101 = true := by kernel_rfl
theorem fn102 : fnB Try.prog 102 = true := by kernel_rfl
theorem fn103 : fnB Try.prog 103 = true := by kernel_rfl
theorem fn104 : fnB Try.prog 104 = true := by kernel_rfl
theorem fn105 : fnB Try.prog 105 = true := by kernel_rfl
theorem fn17 : fnB Try.prog 17 = true := by kernel_rfl
theorem fn18 : fnB Try.prog 18 = true := by kernel_rfl
theorem fn20 : fnB Try.prog 20 = true := by kernel_rfl
theorem fn21 : fnB Try.prog 21 = true := by kernel_rfl
theorem fn22 : fnB Try.prog 22 = true := by kernel_rfl
theorem fn23 : fnB Try.prog 23 = true := by kernel_rfl
theorem fn24 : fnB Try.prog 24 = true := by kernel_rfl
theorem fn25 : fnB Try.prog 25 = true := by kernel_rfl
theorem fn26 : fnB Try.prog 26 = true := by kernel_rfl
theorem fn27 : fnB Try.prog 27 = true := by kernel_rfl
theorem fn29 : fnB Try.prog 29 = true := by kernel_rfl
theorem fn30 : fnB Try.prog 30 = true := by kernel_rfl
theorem fn31 : fnB Try.prog 31 = true := by kernel_rfl
theorem fn32 : fnB Try.prog 32 = true := by kernel_rfl
theorem fn33 : fnB Try.prog 33 = true := by kernel_rfl
theorem fn34 : fnB Try.prog 34 = true := by kernel_rfl
theorem fn35 : fnB Try.prog 35 = true := by kernel_rfl
theorem fn36 : fnB Try.prog 36 = true := by kernel_rfl
theorem fn37 : fnB Try.prog 37 = true := by kernel_rfl
theorem fn38 : fnB Try.prog 38 = true := by kernel_rfl
theorem fn39 : fnB Try.prog 39 = true := by kernel_rfl
theorem fn40 : fnB Try.prog 40 = true := by kernel_rfl
theorem fn41 : fnB Try.prog 41 = true := by kernel_rfl
theorem fn42 : fnB Try.prog 42 = true := by kernel_rfl
theorem fn43 : fnB Try.prog 43 = true := by kernel_rfl
theorem fn44 : fnB Try.prog 44 = true := by kernel_rfl
theorem fn45 : fnB Try.prog 45 = true := by kernel_rfl
theorem fn46 : fnB Try.prog 46 = true := by kernel_rfl
theorem fn47 : fnB Try.prog 47 = true := by kernel_rfl
theorem fn48 : fnB Try.prog 48 = true := by kernel_rfl
theorem fn49 : fnB Try.prog 49 = true := by kernel_rfl
theorem fn50 : fnB Try.prog 50 = true := by kernel_rfl
theorem fn51 : fnB Try.prog 51 = true := by kernel_rfl
theorem fn52 : fnB Try.prog 52 = true := by kernel_rfl
theorem fn53 : fnB Try.prog 53 = true := by kernel_rfl
theorem fn54 : fnB Try.prog 54 = true := by kernel_rfl
theorem fn55 : fnB Try.prog 55 = true := by kernel_rfl
theorem fn56 : fnB Try.prog 56 = true := by kernel_rfl
theorem fn57 : fnB Try.prog 57 = true := by kernel_rfl
theorem fn58 : fnB Try.prog 58 = true := by kernel_rfl
theorem fn59 : fnB Try.prog 59 = true := by kernel_rfl
theorem fn60 : fnB Try.prog 60 = true := by kernel_rfl
theorem fn61 : fnB Try.prog 61 = true := by kernel_rfl
theorem fn62 : fnB Try.prog 62 = true := by kernel_rfl
theorem fn63 : fnB Try.prog 63 = true := by kernel_rfl
theorem fn64 : fnB Try.prog 64 = true := by kernel_rfl
theorem fn65 : fnB Try.prog 65 = true := by kernel_rfl
theorem fn66 : fnB Try.prog 66 = true := by kernel_rfl
theorem fn67 : fnB Try.prog 67 = true := by kernel_rfl
theorem fn68 : fnB Try.prog 68 = true := by kernel_rfl
theorem fn69 : fnB Try.prog 69 = true := by kernel_rfl
theorem fn7 : fnB Try.prog 7 = true := by kernel_rfl
theorem fn70 : fnB Try.prog 70 = true := by kernel_rfl
theorem fn71 : fnB Try.prog 71 = true := by kernel_rfl
theorem fn72 : fnB Try.prog 72 = true := by kernel_rfl
theorem fn73 : fnB Try.prog 73 = true := by kernel_rfl
theorem fn74 : fnB Try.prog 74 = true := by kernel_rfl
theorem fn75 : fnB Try.prog 75 = true := by kernel_rfl
theorem fn76 : fnB Try.prog 76 = true := by kernel_rfl
theorem fn77 : fnB Try.prog 77 = true := by kernel_rfl
theorem fn78 : fnB Try.prog 78 = true := by kernel_rfl
theorem fn79 : fnB Try.prog 79 = true := by kernel_rfl
theorem fn8 : fnB Try.prog 8 = true := by kernel_rfl
theorem fn80 : fnB Try.prog 80 = true := by kernel_rfl
theorem fn81 : fnB Try.prog 81 = true := by kernel_rfl
theorem fn82 : fnB Try.prog 82 = true := by kernel_rfl
theorem fn83 : fnB Try.prog 83 = true := by kernel_rfl
theorem fn84 : fnB Try.prog 84 = true := by kernel_rfl
theorem fn85 : fnB Try.prog 85 = true := by kernel_rfl
theorem fn86 : fnB Try.prog 86 = true := by kernel_rfl
theorem fn87 : fnB Try.prog 87 = true := by kernel_rfl
theorem fn88 : fnB Try.prog 88 = true := by kernel_rfl
theorem fn89 : fnB Try.prog 89 = true := by kernel_rfl
theorem fn9 : fnB Try.prog 9 = true := by kernel_rfl
theorem fn90 : fnB Try.prog 90 = true := by kernel_rfl
theorem fn91 : fnB Try.prog 91 = true := by kernel_rfl
theorem fn92 : fnB Try.prog 92 = true := by kernel_rfl
theorem fn93 : fnB Try.prog 93 = true := by kernel_rfl
theorem fn94 : fnB Try.prog 94 = true := by kernel_rfl
theorem fn95 : fnB Try.prog 95 = true := by kernel_rfl
theorem fn96 : fnB Try.prog 96 = true := by kernel_rfl
theorem fn97 : fnB Try.prog 97 = true := by kernel_rfl
theorem fn98 : fnB Try.prog 98 = true := by kernel_rfl
theorem fn99 : fnB Try.prog 99 = true := by kernel_rfl
theorem info2 : (Try.prog.info? 2).isSome = true := by kernel_rfl
theorem mixed : Try.prog.follows .mixedOrders = true := by kernel_rfl
theorem pl107 : placesO Try.prog 107 = some [(0, 1), (1, 1)] := by kernel_rfl
theorem pl117 : placesO Try.prog 117 = some [(0, 2), (2, 1), (3, 1)] := by kernel_rfl
theorem pl30 : placesO Try.prog 30 = some [(0, 1), (1, 1), (2, 1), (3, 1), (4, 1), (5, 1), (6, 1), (7, 1), (8, 1), (9, 1)] := by kernel_rfl
theorem pl46 : placesO Try.prog 46 = some [(0, 1), (1, 1)] := by kernel_rfl
theorem pl54 : placesO Try.prog 54 = some [(0, 1), (1, 1), (2, 1), (3, 1), (4, 1), (5, 1), (6, 1), (7, 1)] := by kernel_rfl
theorem pl57 : placesO Try.prog 57 = some [(0, 8), (8, 1)] := by kernel_rfl
theorem pl59 : placesO Try.prog 59 = some [(0, 1), (1, 9)] := by kernel_rfl
theorem pl62 : placesO Try.prog 62 = some [(0, 1), (1, 8), (9, 1)] := by kernel_rfl
theorem pl68 : placesO Try.prog 68 = some [(0, 1), (1, 1)] := by kernel_rfl
theorem pl83 : placesO Try.prog 83 = some [(0, 1), (1, 1)] := by kernel_rfl
theorem pl98 : placesO Try.prog 98 = some [(0, 1), (1, 1), (2, 1)] := by kernel_rfl
theorem sz117 : (Try.prog.info? 117).map (·.size) = some 4 := by kernel_rfl
theorem sz2 : (Try.prog.info? 2).map (·.size) = some 1 := by kernel_rfl
theorem sz25 : (Try.prog.info? 25).map (·.size) = some 1 := by kernel_rfl
theorem sz26 : (Try.prog.info? 26).map (·.size) = some 1 := by kernel_rfl
theorem sz27 : (Try.prog.info? 27).map (·.size) = some 1 := by kernel_rfl
theorem sz28 : (Try.prog.info? 28).map (·.size) = some 1 := by kernel_rfl
theorem sz3 : (Try.prog.info? 3).map (·.size) = some 1 := by kernel_rfl
theorem sz30 : (Try.prog.info? 30).map (·.size) = some 10 := by kernel_rfl
theorem sz4 : (Try.prog.info? 4).map (·.size) = some 1 := by kernel_rfl
theorem sz47 : (Try.prog.info? 47).map (·.size) = some 1 := by kernel_rfl
theorem sz48 : (Try.prog.info? 48).map (·.size) = some 1 := by kernel_rfl
theorem sz5 : (Try.prog.info? 5).map (·.size) = some 1 := by kernel_rfl
theorem sz54 : (Try.prog.info? 54).map (·.size) = some 8 := by kernel_rfl
theorem sz55 : (Try.prog.info? 55).map (·.size) = some 1 := by kernel_rfl
theorem sz57 : (Try.prog.info? 57).map (·.size) = some 9 := by kernel_rfl
theorem sz59 : (Try.prog.info? 59).map (·.size) = some 10 := by kernel_rfl
theorem sz60 : (Try.prog.info? 60).map (·.size) = some 1 := by kernel_rfl
theorem sz62 : (Try.prog.info? 62).map (·.size) = some 10 := by kernel_rfl
theorem sz68 : (Try.prog.info? 68).map (·.size) = some 2 := by kernel_rfl
theorem sz83 : (Try.prog.info? 83).map (·.size) = some 2 := by kernel_rfl
theorem sz9 : (Try.prog.info? 9).map (·.size) = some 1 := by kernel_rfl
theorem tyb117 : TyB Try.prog 117 (.agg #[.int .i64 0, .int .i64 0, .slice none 0 0, .bool false]) 4 48 := by unfold TyB; kernel_rfl
theorem tyb30 : TyB Try.prog 30 (.agg #[.int .i64 0, .int .i64 0, .int .i64 0, .int .i64 0, .int .i64 0, .string ⟨#[]⟩, .int .i64 0, .slice none 0 0, .slice none 0 0, .slice none 0 0]) 10 136 := by unfold TyB; kernel_rfl
theorem tyb5 : TyB Try.prog 5 (.int .u8 0) 1 1 := by unfold TyB; kernel_rfl
theorem tyb59 : TyB Try.prog 59 (.agg #[.string ⟨#[]⟩, .int .i64 0, .int .i64 0, .int .i64 0, .int .i64 0, .int .i64 0, .int .i64 0, .int .i64 0, .int .i64 0, .slice none 0 0]) 10 104 := by unfold TyB; kernel_rfl
theorem tyb62 : TyB Try.prog 62 (.agg #[.string ⟨#[]⟩, .int .i64 0, .int .i64 0, .int .i64 0, .int .i64 0, .int .i64 0, .int .i64 0, .int .i64 0, .int .i64 0, .slice none 0 0]) 10 104 := by unfold TyB; kernel_rfl
theorem tyb68 : TyB Try.prog 68 (.agg #[.int .i64 0, .int .i64 0]) 2 16 := by unfold TyB; kernel_rfl
theorem tyb83 : TyB Try.prog 83 (.agg #[.int .i64 0, .int .i64 0]) 2 16 := by unfold TyB; kernel_rfl
theorem zr107 : (Try.prog.info? 107).bind (·.zero) = some (.agg #[.slice none 0 0, .int .i64 0]) := by kernel_rfl
theorem zr117 : (Try.prog.info? 117).bind (·.zero) = some (.agg #[.int .i64 0, .int .i64 0, .slice none 0 0, .bool false]) := by kernel_rfl
theorem zr3 : (Try.prog.info? 3).bind (·.zero) = some (.int .i64 0) := by kernel_rfl
theorem zr30 : (Try.prog.info? 30).bind (·.zero) = some (.agg #[.int .i64 0, .int .i64 0, .int .i64 0, .int .i64 0, .int .i64 0, .string ⟨#[]⟩, .int .i64 0, .slice none 0 0, .slice none 0 0, .slice none 0 0]) := by kernel_rfl
theorem zr46 : (Try.prog.info? 46).bind (·.zero) = some (.agg #[.slice none 0 0, .int .i64 0]) := by kernel_rfl
theorem zr5 : (Try.prog.info? 5).bind (·.zero) = some (.int .u8 0) := by kernel_rfl
theorem zr54 : (Try.prog.info? 54).bind (·.zero) = some (.agg #[.int .i64 0, .int .i64 0, .int .i64 0, .int .i64 0, .int .i64 0, .int .i64 0, .int .i64 0, .int .i64 0]) := by kernel_rfl
theorem zr57 : (Try.prog.info? 57).bind (·.zero) = some (.agg #[.int .i64 0, .int .i64 0, .int .i64 0, .int .i64 0, .int .i64 0, .int .i64 0, .int .i64 0, .int .i64 0, .slice none 0 0]) := by kernel_rfl
theorem zr59 : (Try.prog.info? 59).bind (·.zero) = some (.agg #[.string ⟨#[]⟩, .int .i64 0, .int .i64 0, .int .i64 0, .int .i64 0, .int .i64 0, .int .i64 0, .int .i64 0, .int .i64 0, .slice none 0 0]) := by kernel_rfl
theorem zr62 : (Try.prog.info? 62).bind (·.zero) = some (.agg #[.string ⟨#[]⟩, .int .i64 0, .int .i64 0, .int .i64 0, .int .i64 0, .int .i64 0, .int .i64 0, .int .i64 0, .int .i64 0, .slice none 0 0]) := by kernel_rfl
theorem zr68 : (Try.prog.info? 68).bind (·.zero) = some (.agg #[.int .i64 0, .int .i64 0]) := by kernel_rfl
theorem zr83 : (Try.prog.info? 83).bind (·.zero) = some (.agg #[.int .i64 0, .int .i64 0]) := by kernel_rfl
theorem zr98 : (Try.prog.info? 98).bind (·.zero) = some (.agg #[.slice none 0 0, .int .i64 0, .bool false]) := by kernel_rfl
theorem two_get {x y n : Int} {k : Nat} (h : [x, y][k]? = some n) : (k = 0 ∧ n = x) ∨ (k = 1 ∧ n = y) := by
  match k, h with
  | 0, h => exact .inl ⟨rfl, by simpa using h.symm⟩
  | 1, h => exact .inr ⟨rfl, by simpa using h.symm⟩
def cmpI (x y : Int) : Int := if x < y then -1 else if y < x then 1 else 0
theorem cmp_less (a b c d : Int) : decide ((if cmpI a b = 0 then cmpI c d else cmpI a b) < 0) = dless (a, c) (b, d) := by
  unfold dless cmpI; apply decide_eq_decide.2; dsimp only
  repeat' split
  all_goals omega
theorem eq_dot (w : World) (s i t1 j : Int) : (Op.equal 83 (.agg #[.int .i64 s, .int .i64 i]) (.agg #[.int .i64 t1, .int .i64 j])).run Try.prog w = .ok (decide ((s, i) = (t1, j))) w :=
  eq_pair (by kernel_rfl) (by kernel_rfl) (show _ = [Field.mk "Node" 3 0 false "" "" 0, Field.mk "N" 2 1 false "" "" 8] by kernel_rfl) ⟨by decide, rfl, rfl⟩ ⟨by decide, rfl, rfl⟩ ag3 ag2 Try.underlying3 Try.underlying2 s i t1 j w
theorem eq_mem (w : World) (s i t1 j : Int) : (Op.equal 68 (.agg #[.int .i64 s, .int .i64 i]) (.agg #[.int .i64 t1, .int .i64 j])).run Try.prog w = .ok (decide ((s, i) = (t1, j))) w :=
  eq_pair (by kernel_rfl) (by kernel_rfl) (show _ = [Field.mk "State" 3 0 false "" "" 0, Field.mk "Inc" 2 1 false "" "" 8] by kernel_rfl) ⟨by decide, rfl, rfl⟩ ⟨by decide, rfl, rfl⟩ ag3 ag2 Try.underlying3 Try.underlying2 s i t1 j w


end Go.Proofs.Ytcflbdpjoanbgaa
