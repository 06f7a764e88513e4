/-
  Facts on the program.
  Conditions: none.
-/
import Derived.Test.YtcflbdpjoanbgaaGreatRows
import Derived.Test.YtcflbdpjoanbgaaGreatOp1
import Derived.Test.YtcflbdpjoanbgaaGreatFl1
import Derived.Test.YtcflbdpjoanbgaaGreatMs5
import Derived.Test.YtcflbdpjoanbgaaGreatFs2
namespace Go.Proofs.YtcflbdpjoanbgaaGreat
open Go Go.Sl
set_option linter.unusedVariables false
set_option linter.unusedSimpArgs false
theorem ag107 : aggO Tryz.prog 107 = some true := by kernel_rfl
theorem ag2 : aggO Tryz.prog 2 = some false := by kernel_rfl
theorem ag25 : aggO Tryz.prog 25 = some false := by kernel_rfl
theorem ag28 : aggO Tryz.prog 28 = some false := by kernel_rfl
theorem ag29 : aggO Tryz.prog 29 = some false := by kernel_rfl
theorem ag3 : aggO Tryz.prog 3 = some false := by kernel_rfl
theorem ag30 : aggO Tryz.prog 30 = some false := by kernel_rfl
theorem ag32 : aggO Tryz.prog 32 = some true := by kernel_rfl
theorem ag34 : aggO Tryz.prog 34 = some false := by kernel_rfl
theorem ag35 : aggO Tryz.prog 35 = some false := by kernel_rfl
theorem ag4 : aggO Tryz.prog 4 = some false := by kernel_rfl
theorem ag5 : aggO Tryz.prog 5 = some false := by kernel_rfl
theorem ag53 : aggO Tryz.prog 53 = some true := by kernel_rfl
theorem ag54 : aggO Tryz.prog 54 = some false := by kernel_rfl
theorem ag56 : aggO Tryz.prog 56 = some true := by kernel_rfl
theorem ag58 : aggO Tryz.prog 58 = some true := by kernel_rfl
theorem ag59 : aggO Tryz.prog 59 = some false := by kernel_rfl
theorem ag61 : aggO Tryz.prog 61 = some true := by kernel_rfl
theorem ag73 : aggO Tryz.prog 73 = some true := by kernel_rfl
theorem ag87 : aggO Tryz.prog 87 = some true := by kernel_rfl
theorem ag9 : aggO Tryz.prog 9 = some false := by kernel_rfl
theorem bz107_1 : ((Array.range (1 * 4)).map (fun j => ((.agg #[.int .i64 0, .int .i64 0, .slice none 0 0, .bool false] : Value)).cells[j % ((.agg #[.int .i64 0, .int .i64 0, .slice none 0 0, .bool false] : Value)).cells.size]!)) = ([.int .i64 0, .int .i64 0, .slice none 0 0, .bool false] : List Value).toArray := by kernel_rfl
theorem bz32_1 : ((Array.range (1 * 10)).map (fun j => ((.agg #[.int .i64 0, .int .i64 0, .int .i64 0, .int .i64 0, .int .i64 0, .string ⟨#[]⟩, .int .i64 0, .slice none 0 0, .slice none 0 0, .slice none 0 0] : Value)).cells[j % ((.agg #[.int .i64 0, .int .i64 0, .int .i64 0, .int .i64 0, .int .i64 0, .string ⟨#[]⟩, .int .i64 0, .slice none 0 0, .slice none 0 0, .slice none 0 0] : Value)).cells.size]!)) = ([.int .i64 0, .int .i64 0, .int .i64 0, .int .i64 0, .int .i64 0, .string ⟨#[]⟩, .int .i64 0, .slice none 0 0, .slice none 0 0, .slice none 0 0] : List Value).toArray := by kernel_rfl
theorem bz32_2 : ((Array.range (2 * 10)).map (fun j => ((.agg #[.int .i64 0, .int .i64 0, .int .i64 0, .int .i64 0, .int .i64 0, .string ⟨#[]⟩, .int .i64 0, .slice none 0 0, .slice none 0 0, .slice none 0 0] : Value)).cells[j % ((.agg #[.int .i64 0, .int .i64 0, .int .i64 0, .int .i64 0, .int .i64 0, .string ⟨#[]⟩, .int .i64 0, .slice none 0 0, .slice none 0 0, .slice none 0 0] : Value)).cells.size]!)) = ([.int .i64 0, .int .i64 0, .int .i64 0, .int .i64 0, .int .i64 0, .string ⟨#[]⟩, .int .i64 0, .slice none 0 0, .slice none 0 0, .slice none 0 0, .int .i64 0, .int .i64 0, .int .i64 0, .int .i64 0, .int .i64 0, .string ⟨#[]⟩, .int .i64 0, .slice none 0 0, .slice none 0 0, .slice none 0 0] : List Value).toArray := by kernel_rfl
theorem bz3_2 : ((Array.range (2 * 1)).map (fun j => ((.int .i64 0 : Value)).cells[j % ((.int .i64 0 : Value)).cells.size]!)) = ([.int .i64 0, .int .i64 0] : List Value).toArray := by kernel_rfl
theorem bz58_1 : ((Array.range (1 * 10)).map (fun j => ((.agg #[.string ⟨#[]⟩, .int .i64 0, .int .i64 0, .int .i64 0, .int .i64 0, .int .i64 0, .int .i64 0, .int .i64 0, .int .i64 0, .slice none 0 0] : Value)).cells[j % ((.agg #[.string ⟨#[]⟩, .int .i64 0, .int .i64 0, .int .i64 0, .int .i64 0, .int .i64 0, .int .i64 0, .int .i64 0, .int .i64 0, .slice none 0 0] : Value)).cells.size]!)) = ([.string ⟨#[]⟩, .int .i64 0, .int .i64 0, .int .i64 0, .int .i64 0, .int .i64 0, .int .i64 0, .int .i64 0, .int .i64 0, .slice none 0 0] : List Value).toArray := by kernel_rfl
theorem bz5_0 : ((Array.range (0 * 1)).map (fun j => ((.int .u8 0 : Value)).cells[j % ((.int .u8 0 : Value)).cells.size]!)) = ([] : List Value).toArray := by kernel_rfl
theorem bz5_1 : ((Array.range (1 * 1)).map (fun j => ((.int .u8 0 : Value)).cells[j % ((.int .u8 0 : Value)).cells.size]!)) = ([.int .u8 0] : List Value).toArray := by kernel_rfl
theorem bz61_1 : ((Array.range (1 * 10)).map (fun j => ((.agg #[.string ⟨#[]⟩, .int .i64 0, .int .i64 0, .int .i64 0, .int .i64 0, .int .i64 0, .int .i64 0, .int .i64 0, .int .i64 0, .slice none 0 0] : Value)).cells[j % ((.agg #[.string ⟨#[]⟩, .int .i64 0, .int .i64 0, .int .i64 0, .int .i64 0, .int .i64 0, .int .i64 0, .int .i64 0, .int .i64 0, .slice none 0 0] : Value)).cells.size]!)) = ([.string ⟨#[]⟩, .int .i64 0, .int .i64 0, .int .i64 0, .int .i64 0, .int .i64 0, .int .i64 0, .int .i64 0, .int .i64 0, .slice none 0 0] : List Value).toArray := by kernel_rfl
theorem bz73_0 : ((Array.range (0 * 2)).map (fun j => ((.agg #[.int .i64 0, .int .i64 0] : Value)).cells[j % ((.agg #[.int .i64 0, .int .i64 0] : Value)).cells.size]!)) = ([] : List Value).toArray := by kernel_rfl
theorem bz73_1 : ((Array.range (1 * 2)).map (fun j => ((.agg #[.int .i64 0, .int .i64 0] : Value)).cells[j % ((.agg #[.int .i64 0, .int .i64 0] : Value)).cells.size]!)) = ([.int .i64 0, .int .i64 0] : List Value).toArray := by kernel_rfl
theorem bz87_0 : ((Array.range (0 * 2)).map (fun j => ((.agg #[.int .i64 0, .int .i64 0] : Value)).cells[j % ((.agg #[.int .i64 0, .int .i64 0] : Value)).cells.size]!)) = ([] : List Value).toArray := by kernel_rfl
theorem bz87_1 : ((Array.range (1 * 2)).map (fun j => ((.agg #[.int .i64 0, .int .i64 0] : Value)).cells[j % ((.agg #[.int .i64 0, .int .i64 0] : Value)).cells.size]!)) = ([.int .i64 0, .int .i64 0] : List Value).toArray := by kernel_rfl
theorem cells2 : Tryz.prog.cellsOf 2 = 1 := by kernel_rfl
theorem eqg53 : Tryz.prog.eqGuardType Tryz.prog.depth 53 = false := by kernel_rfl
theorem eqg73 : Tryz.prog.eqGuardType Tryz.prog.depth 73 = false := by kernel_rfl
theorem eqg87 : Tryz.prog.eqGuardType Tryz.prog.depth 87 = false := by kernel_rfl
theorem fb107_0 : fieldB Tryz.prog 107 0 0 = true := by kernel_rfl
theorem fb107_1 : fieldB Tryz.prog 107 1 2 = true := by kernel_rfl
theorem fb107_2 : fieldB Tryz.prog 107 2 3 = true := by kernel_rfl
theorem fb116_0 : fieldB Tryz.prog 116 0 0 = true := by kernel_rfl
theorem fb116_1 : fieldB Tryz.prog 116 1 1 = true := by kernel_rfl
theorem fb116_2 : fieldB Tryz.prog 116 2 2 = true := by kernel_rfl
theorem fb122_0 : fieldB Tryz.prog 122 0 0 = true := by kernel_rfl
theorem fb122_1 : fieldB Tryz.prog 122 1 1 = true := by kernel_rfl
theorem fb32_0 : fieldB Tryz.prog 32 0 0 = true := by kernel_rfl
theorem fb32_1 : fieldB Tryz.prog 32 1 1 = true := by kernel_rfl
theorem fb32_2 : fieldB Tryz.prog 32 2 2 = true := by kernel_rfl
theorem fb32_3 : fieldB Tryz.prog 32 3 3 = true := by kernel_rfl
theorem fb32_4 : fieldB Tryz.prog 32 4 4 = true := by kernel_rfl
theorem fb32_5 : fieldB Tryz.prog 32 5 5 = true := by kernel_rfl
theorem fb32_6 : fieldB Tryz.prog 32 6 6 = true := by kernel_rfl
theorem fb32_7 : fieldB Tryz.prog 32 7 7 = true := by kernel_rfl
theorem fb32_8 : fieldB Tryz.prog 32 8 8 = true := by kernel_rfl
theorem fb32_9 : fieldB Tryz.prog 32 9 9 = true := by kernel_rfl
theorem fb51_0 : fieldB Tryz.prog 51 0 0 = true := by kernel_rfl
theorem fb51_1 : fieldB Tryz.prog 51 1 1 = true := by kernel_rfl
theorem fb56_0 : fieldB Tryz.prog 56 0 0 = true := by kernel_rfl
theorem fb56_1 : fieldB Tryz.prog 56 1 8 = true := by kernel_rfl
theorem fb58_0 : fieldB Tryz.prog 58 0 0 = true := by kernel_rfl
theorem fb58_1 : fieldB Tryz.prog 58 1 1 = true := by kernel_rfl
theorem fb61_0 : fieldB Tryz.prog 61 0 0 = true := by kernel_rfl
theorem fb61_1 : fieldB Tryz.prog 61 1 1 = true := by kernel_rfl
theorem fb61_2 : fieldB Tryz.prog 61 2 9 = true := by kernel_rfl
theorem fb65_0 : fieldB Tryz.prog 65 0 0 = true := by kernel_rfl
theorem fb65_1 : fieldB Tryz.prog 65 1 1 = true := by kernel_rfl
theorem fb65_2 : fieldB Tryz.prog 65 2 2 = true := by kernel_rfl
theorem fb73_0 : fieldB Tryz.prog 73 0 0 = true := by kernel_rfl
theorem fb73_1 : fieldB Tryz.prog 73 1 1 = true := by kernel_rfl
theorem fb87_0 : fieldB Tryz.prog 87 0 0 = true := by kernel_rfl
theorem fb87_1 : fieldB Tryz.prog 87 1 1 = true := by kernel_rfl
theorem fn100 : fnB Tryz.prog 100 = true := by kernel_rfl
theorem fn101 : fnB Tryz.prog 101 = true := by kernel_rfl
theorem fn102 : fnB Tryz.prog 102 = true := by kernel_rfl
theorem fn103 : fnB Tryz.prog 103 = true := by kernel_rfl
theorem fn104 : fnB Tryz.prog 104 = true := by kernel_rfl
theorem fn105 : fnB Tryz.prog 105 = true := by kernel_rfl
theorem fn106 : fnB Tryz.prog 106 = true := by kernel_rfl
theorem fn107 : fnB Tryz.prog 107 = true := by kernel_rfl
theorem fn108 : fnB Tryz.prog 108 = true := by kernel_rfl
theorem fn109 : fnB Tryz.prog 109 = true := by kernel_rfl
theorem fn110 : fnB Tryz.prog 110 = true := by kernel_rfl
theorem fn111 : fnB Tryz.prog 111 = true := by kernel_rfl
theorem fn112 : fnB Tryz.prog 112 = true := by kernel_rfl
theorem fn113 : fnB Tryz.prog 113 = true := by kernel_rfl
theorem fn12 : fnB Tryz.prog 12 = true := by kernel_rfl
theorem fn15 : fnB Tryz.prog 15 = true := by kernel_rfl
theorem fn18 : fnB Tryz.prog 18 = true := by kernel_rfl
theorem fn19 : fnB Tryz.prog 19 = true := by kernel_rfl
theorem fn20 : fnB Tryz.prog 20 = true := by kernel_rfl
theorem fn21 : fnB Tryz.prog 21 = true := by kernel_rfl
theorem fn22 : fnB Tryz.prog 22 = true := by kernel_rfl
theorem fn23 : fnB Tryz.prog 23 = true := by kernel_rfl
theorem fn24 : fnB Tryz.prog 24 = true := by kernel_rfl
theorem fn25 : fnB Tryz.prog 25 = true := by kernel_rfl
theorem fn26 : fnB Tryz.prog 26 = true := by kernel_rfl
theorem fn27 : fnB Tryz.prog 27 = true := by kernel_rfl
theorem fn28 : fnB Tryz.prog 28 = true := by kernel_rfl
theorem fn29 : fnB Tryz.prog 29 = true := by kernel_rfl
theorem fn30 : fnB Tryz.prog 30 = true := by kernel_rfl
theorem fn31 : fnB Tryz.prog 31 = true := by kernel_rfl
theorem fn32 : fnB Tryz.prog 32 = true := by kernel_rfl
theorem fn33 : fnB Tryz.prog 33 = true := by kernel_rfl
theorem fn34 : fnB Tryz.prog 34 = true := by kernel_rfl
theorem fn35 : fnB Tryz.prog 35 = true := by kernel_rfl
theorem fn36 : fnB Tryz.prog 36 = true := by kernel_rfl
theorem fn37 : fnB Tryz.prog 37 = true := by kernel_rfl
theorem fn38 : fnB Tryz.prog 38 = true := by kernel_rfl
theorem fn39 : fnB Tryz.prog 39 = true := by kernel_rfl
theorem fn4 : fnB Tryz.prog 4 = true := by kernel_rfl
theorem fn40 : fnB Tryz.prog 40 = true := by kernel_rfl
theorem fn41 : fnB Tryz.prog 41 = true := by kernel_rfl
theorem fn42 : fnB Tryz.prog 42 = true := by kernel_rfl
theorem fn43 : fnB Tryz.prog 43 = true := by kernel_rfl
theorem fn44 : fnB Tryz.prog 44 = true := by kernel_rfl
theorem fn45 : fnB Tryz.prog 45 = true := by kernel_rfl
theorem fn46 : fnB Tryz.prog 46 = true := by kernel_rfl
theorem fn47 : fnB Tryz.prog 47 = true := by kernel_rfl
theorem fn48 : fnB Tryz.prog 48 = true := by kernel_rfl
theorem fn49 : fnB Tryz.prog 49 = true := by kernel_rfl
theorem fn50 : fnB Tryz.prog 50 = true := by kernel_rfl
theorem fn51 : fnB Tryz.prog 51 = true := by kernel_rfl
theorem fn52 : fnB Tryz.prog 52 = true := by kernel_rfl
theorem fn53 : fnB Tryz.prog 53 = true := by kernel_rfl
theorem fn54 : fnB Tryz.prog 54 = true := by kernel_rfl
theorem fn55 : fnB Tryz.prog 55 = true := by kernel_rfl
theorem fn56 : fnB Tryz.prog 56 = true := by kernel_rfl
theorem fn57 : fnB Tryz.prog 57 = true := by kernel_rfl
theorem fn58 : fnB Tryz.prog 58 = true := by kernel_rfl
theorem fn59 : fnB Tryz.prog 59 = true := by kernel_rfl
theorem fn60 : fnB Tryz.prog 60 = true := by kernel_rfl
theorem fn61 : fnB Tryz.prog 61 = true := by kernel_rfl
theorem fn62 : fnB Tryz.prog 62 = true := by kernel_rfl
theorem fn63 : fnB Tryz.prog 63 = true := by kernel_rfl
theorem fn64 : fnB Tryz.prog 64 = true := by kernel_rfl
theorem fn65 : fnB Tryz.prog 65 = true := by kernel_rfl
theorem fn66 : fnB Tryz.prog 66 = true := by kernel_rfl
theorem fn67 : fnB Tryz.prog 67 = true := by kernel_rfl
theorem fn68 : fnB Tryz.prog 68 = true := by kernel_rfl
theorem fn69 : fnB Tryz.prog 69 = true := by kernel_rfl
theorem fn7 : fnB Tryz.prog 7 = true := by kernel_rfl
theorem fn70 : fnB Tryz.prog 70 = true := by kernel_rfl
theorem fn71 : fnB Tryz.prog 71 = true := by kernel_rfl
theorem fn72 : fnB Tryz.prog 72 = true := by kernel_rfl
theorem fn73 : fnB Tryz.prog 73 = true := by kernel_rfl
theorem fn74 : fnB Tryz.prog 74 = true := by kernel_rfl
theorem fn75 : fnB Tryz.prog 75 = true := by kernel_rfl
theorem fn76 : fnB Tryz.prog 76 = true := by kernel_rfl
theorem fn77 : fnB Tryz.prog 77 = true := by kernel_rfl
theorem fn78 : fnB Tryz.prog 78 = true := by kernel_rfl
theorem fn79 : fnB Tryz.prog 79 = true := by kernel_rfl
theorem fn8 : fnB Tryz.prog 8 = true := by kernel_rfl
theorem fn80 : fnB Tryz.prog 80 = true := by kernel_rfl
theorem fn81 : fnB Tryz.prog 81 = true := by kernel_rfl
theorem fn82 : fnB Tryz.prog 82 = true := by kernel_rfl
theorem fn83 : fnB Tryz.prog 83 = true := by kernel_rfl
theorem fn84 : fnB Tryz.prog 84 = true := by kernel_rfl
theorem fn85 : fnB Tryz.prog 85 = true := by kernel_rfl
theorem fn86 : fnB Tryz.prog 86 = true := by kernel_rfl
theorem fn87 : fnB Tryz.prog 87 = true := by kernel_rfl
theorem fn88 : fnB Tryz.prog 88 = true := by kernel_rfl
theorem fn89 : fnB Tryz.prog 89 = true := by kernel_rfl
theorem fn9 : fnB Tryz.prog 9 = true := by kernel_rfl
theorem fn90 : fnB Tryz.prog 90 = true := by kernel_rfl
theorem fn91 : fnB Tryz.prog 91 = true := by kernel_rfl
theorem fn92 : fnB Tryz.prog 92 = true := by kernel_rfl
theorem fn93 : fnB Tryz.prog 93 = true := by kernel_rfl
theorem fn94 : fnB Tryz.prog 94 = true := by kernel_rfl
theorem fn95 : fnB Tryz.prog 95 = true := by kernel_rfl
theorem fn96 : fnB Tryz.prog 96 = true := by kernel_rfl
theorem fn97 : fnB Tryz.prog 97 = true := by kernel_rfl
theorem fn98 : fnB Tryz.prog 98 = true := by kernel_rfl
theorem fn99 : fnB Tryz.prog 99 = true := by kernel_rfl
theorem info2 : (Tryz.prog.info? 2).isSome = true := by kernel_rfl
theorem mixed : Tryz.prog.follows .mixedOrders = true := by kernel_rfl
theorem pl107 : placesO Tryz.prog 107 = some [(0, 2), (2, 1), (3, 1)] := by kernel_rfl
theorem pl116 : placesO Tryz.prog 116 = some [(0, 1), (1, 1), (2, 1)] := by kernel_rfl
theorem pl122 : placesO Tryz.prog 122 = some [(0, 1), (1, 1)] := by kernel_rfl
theorem pl32 : placesO Tryz.prog 32 = some [(0, 1), (1, 1), (2, 1), (3, 1), (4, 1), (5, 1), (6, 1), (7, 1), (8, 1), (9, 1)] := by kernel_rfl
theorem pl51 : placesO Tryz.prog 51 = some [(0, 1), (1, 1)] := by kernel_rfl
theorem pl53 : placesO Tryz.prog 53 = some [(0, 1), (1, 1), (2, 1), (3, 1), (4, 1), (5, 1), (6, 1), (7, 1)] := by kernel_rfl
theorem pl56 : placesO Tryz.prog 56 = some [(0, 8), (8, 1)] := by kernel_rfl
theorem pl58 : placesO Tryz.prog 58 = some [(0, 1), (1, 9)] := by kernel_rfl
theorem pl61 : placesO Tryz.prog 61 = some [(0, 1), (1, 8), (9, 1)] := by kernel_rfl
theorem pl65 : placesO Tryz.prog 65 = some [(0, 1), (1, 1), (2, 1)] := by kernel_rfl
theorem pl73 : placesO Tryz.prog 73 = some [(0, 1), (1, 1)] := by kernel_rfl
theorem pl87 : placesO Tryz.prog 87 = some [(0, 1), (1, 1)] := by kernel_rfl
theorem sz107 : (Tryz.prog.info? 107).map (·.size) = some 4 := by kernel_rfl
theorem sz2 : (Tryz.prog.info? 2).map (·.size) = some 1 := by kernel_rfl
theorem sz25 : (Tryz.prog.info? 25).map (·.size) = some 1 := by kernel_rfl
theorem sz28 : (Tryz.prog.info? 28).map (·.size) = some 1 := by kernel_rfl
theorem sz29 : (Tryz.prog.info? 29).map (·.size) = some 1 := by kernel_rfl
theorem sz3 : (Tryz.prog.info? 3).map (·.size) = some 1 := by kernel_rfl
theorem sz30 : (Tryz.prog.info? 30).map (·.size) = some 1 := by kernel_rfl
theorem sz32 : (Tryz.prog.info? 32).map (·.size) = some 10 := by kernel_rfl
theorem sz34 : (Tryz.prog.info? 34).map (·.size) = some 1 := by kernel_rfl
theorem sz35 : (Tryz.prog.info? 35).map (·.size) = some 1 := by kernel_rfl
theorem sz4 : (Tryz.prog.info? 4).map (·.size) = some 1 := by kernel_rfl
theorem sz5 : (Tryz.prog.info? 5).map (·.size) = some 1 := by kernel_rfl
theorem sz53 : (Tryz.prog.info? 53).map (·.size) = some 8 := by kernel_rfl
theorem sz54 : (Tryz.prog.info? 54).map (·.size) = some 1 := by kernel_rfl
theorem sz56 : (Tryz.prog.info? 56).map (·.size) = some 9 := by kernel_rfl
theorem sz58 : (Tryz.prog.info? 58).map (·.size) = some 10 := by kernel_rfl
theorem sz59 : (Tryz.prog.info? 59).map (·.size) = some 1 := by kernel_rfl
theorem sz61 : (Tryz.prog.info? 61).map (·.size) = some 10 := by kernel_rfl
theorem sz73 : (Tryz.prog.info? 73).map (·.size) = some 2 := by kernel_rfl
theorem sz87 : (Tryz.prog.info? 87).map (·.size) = some 2 := by kernel_rfl
theorem sz9 : (Tryz.prog.info? 9).map (·.size) = some 1 := by kernel_rfl
theorem tyb107 : TyB Tryz.prog 107 (.agg #[.int .i64 0, .int .i64 0, .slice none 0 0, .bool false]) 4 48 := by unfold TyB; kernel_rfl
theorem tyb32 : TyB Tryz.prog 32 (.agg #[.int .i64 0, .int .i64 0, .int .i64 0, .int .i64 0, .int .i64 0, .string ⟨#[]⟩, .int .i64 0, .slice none 0 0, .slice none 0 0, .slice none 0 0]) 10 136 := by unfold TyB; kernel_rfl
theorem tyb5 : TyB Tryz.prog 5 (.int .u8 0) 1 1 := by unfold TyB; kernel_rfl
theorem tyb58 : TyB Tryz.prog 58 (.agg #[.string ⟨#[]⟩, .int .i64 0, .int .i64 0, .int .i64 0, .int .i64 0, .int .i64 0, .int .i64 0, .int .i64 0, .int .i64 0, .slice none 0 0]) 10 104 := by unfold TyB; kernel_rfl
theorem tyb61 : TyB Tryz.prog 61 (.agg #[.string ⟨#[]⟩, .int .i64 0, .int .i64 0, .int .i64 0, .int .i64 0, .int .i64 0, .int .i64 0, .int .i64 0, .int .i64 0, .slice none 0 0]) 10 104 := by unfold TyB; kernel_rfl
theorem tyb73 : TyB Tryz.prog 73 (.agg #[.int .i64 0, .int .i64 0]) 2 16 := by unfold TyB; kernel_rfl
theorem tyb87 : TyB Tryz.prog 87 (.agg #[.int .i64 0, .int .i64 0]) 2 16 := by unfold TyB; kernel_rfl
theorem zr107 : (Tryz.prog.info? 107).bind (·.zero) = some (.agg #[.int .i64 0, .int .i64 0, .slice none 0 0, .bool false]) := by kernel_rfl
theorem zr116 : (Tryz.prog.info? 116).bind (·.zero) = some (.agg #[.slice none 0 0, .int .i64 0, .bool false]) := by kernel_rfl
theorem zr122 : (Tryz.prog.info? 122).bind (·.zero) = some (.agg #[.slice none 0 0, .int .i64 0]) := by kernel_rfl
theorem zr3 : (Tryz.prog.info? 3).bind (·.zero) = some (.int .i64 0) := by kernel_rfl
theorem zr32 : (Tryz.prog.info? 32).bind (·.zero) = some (.agg #[.int .i64 0, .int .i64 0, .int .i64 0, .int .i64 0, .int .i64 0, .string ⟨#[]⟩, .int .i64 0, .slice none 0 0, .slice none 0 0, .slice none 0 0]) := by kernel_rfl
theorem zr5 : (Tryz.prog.info? 5).bind (·.zero) = some (.int .u8 0) := by kernel_rfl
theorem zr51 : (Tryz.prog.info? 51).bind (·.zero) = some (.agg #[.slice none 0 0, .int .i64 0]) := by kernel_rfl
theorem zr53 : (Tryz.prog.info? 53).bind (·.zero) = some (.agg #[.int .i64 0, .int .i64 0, .int .i64 0, .int .i64 0, .int .i64 0, .int .i64 0, .int .i64 0, .int .i64 0]) := by kernel_rfl
theorem zr56 : (Tryz.prog.info? 56).bind (·.zero) = some (.agg #[.int .i64 0, .int .i64 0, .int .i64 0, .int .i64 0, .int .i64 0, .int .i64 0, .int .i64 0, .int .i64 0, .slice none 0 0]) := by kernel_rfl
theorem zr58 : (Tryz.prog.info? 58).bind (·.zero) = some (.agg #[.string ⟨#[]⟩, .int .i64 0, .int .i64 0, .int .i64 0, .int .i64 0, .int .i64 0, .int .i64 0, .int .i64 0, .int .i64 0, .slice none 0 0]) := by kernel_rfl
theorem zr61 : (Tryz.prog.info? 61).bind (·.zero) = some (.agg #[.string ⟨#[]⟩, .int .i64 0, .int .i64 0, .int .i64 0, .int .i64 0, .int .i64 0, .int .i64 0, .int .i64 0, .int .i64 0, .slice none 0 0]) := by kernel_rfl
theorem zr65 : (Tryz.prog.info? 65).bind (·.zero) = some (.agg #[.slice none 0 0, .int .i64 0, .bool false]) := by kernel_rfl
theorem zr73 : (Tryz.prog.info? 73).bind (·.zero) = some (.agg #[.int .i64 0, .int .i64 0]) := by kernel_rfl
theorem zr87 : (Tryz.prog.info? 87).bind (·.zero) = some (.agg #[.int .i64 0, .int .i64 0]) := by kernel_rfl
theorem two_get {x y n : Int} {k : Nat} (h : [x, y][k]? = some n) : (k = 0 ∧ n = x) ∨ (k = 1 ∧ n = y) := by
  match k, h with
  | 0, h => exact .inl ⟨rfl, by simpa using h.symm⟩
  | 1, h => exact .inr ⟨rfl, by simpa using h.symm⟩
def cmpI (x y : Int) : Int := if x < y then -1 else if y < x then 1 else 0
theorem cmp_less (a b c d : Int) : decide ((if cmpI a b = 0 then cmpI c d else cmpI a b) < 0) = dless (a, c) (b, d) := by
  unfold dless cmpI; apply decide_eq_decide.2; dsimp only
  repeat' split
  all_goals omega
theorem eq_dot (w : World) (s i t1 j : Int) : (Op.equal 87 (.agg #[.int .i64 s, .int .i64 i]) (.agg #[.int .i64 t1, .int .i64 j])).run Tryz.prog w = .ok (decide ((s, i) = (t1, j))) w :=
  eq_pair (by kernel_rfl) (by kernel_rfl) (show _ = [Field.mk "Node" 3 0 false "" "" 0, Field.mk "N" 2 1 false "" "" 8] by kernel_rfl) ⟨by decide, rfl, rfl⟩ ⟨by decide, rfl, rfl⟩ ag3 ag2 Tryz.underlying3 Tryz.underlying2 s i t1 j w
theorem eq_mem (w : World) (s i t1 j : Int) : (Op.equal 73 (.agg #[.int .i64 s, .int .i64 i]) (.agg #[.int .i64 t1, .int .i64 j])).run Tryz.prog w = .ok (decide ((s, i) = (t1, j))) w :=
  eq_pair (by kernel_rfl) (by kernel_rfl) (show _ = [Field.mk "State" 3 0 false "" "" 0, Field.mk "Inc" 2 1 false "" "" 8] by kernel_rfl) ⟨by decide, rfl, rfl⟩ ⟨by decide, rfl, rfl⟩ ag3 ag2 Tryz.underlying3 Tryz.underlying2 s i t1 j w


end Go.Proofs.YtcflbdpjoanbgaaGreat
