/-
  Facts on the program.
  Conditions: none.
-/
import Derived.Test.YtglmimbfelakbaaRows
import Derived.Test.YtglmimbfelakbaaOp1
import Derived.Test.YtglmimbfelakbaaFl1
import Derived.Test.YtglmimbfelakbaaMs5
import Derived.Test.YtglmimbfelakbaaFs1
namespace Go.Proofs.Ytglmimbfelakbaa
open Go Go.Sl
set_option linter.unusedVariables false
set_option linter.unusedSimpArgs false
theorem ag2 : aggO Try.prog 2 = some false := by kernel_rfl
theorem ag22 : aggO Try.prog 22 = some false := by kernel_rfl
theorem ag23 : aggO Try.prog 23 = some false := by kernel_rfl
theorem ag24 : aggO Try.prog 24 = some false := by kernel_rfl
theorem ag26 : aggO Try.prog 26 = some true := by kernel_rfl
theorem ag29 : aggO Try.prog 29 = some false := by kernel_rfl
theorem ag3 : aggO Try.prog 3 = some false := by kernel_rfl
theorem ag37 : aggO Try.prog 37 = some true := by kernel_rfl
theorem ag38 : aggO Try.prog 38 = some false := by kernel_rfl
theorem ag4 : aggO Try.prog 4 = some false := by kernel_rfl
theorem ag40 : aggO Try.prog 40 = some true := by kernel_rfl
theorem ag42 : aggO Try.prog 42 = some true := by kernel_rfl
theorem ag44 : aggO Try.prog 44 = some true := by kernel_rfl
theorem ag46 : aggO Try.prog 46 = some true := by kernel_rfl
theorem ag5 : aggO Try.prog 5 = some false := by kernel_rfl
theorem ag50 : aggO Try.prog 50 = some false := by kernel_rfl
theorem ag52 : aggO Try.prog 52 = some true := by kernel_rfl
theorem ag67 : aggO Try.prog 67 = some true := by kernel_rfl
theorem ag9 : aggO Try.prog 9 = some false := by kernel_rfl
theorem bz3_2 : ((Array.range (2 * 1)).map (fun j => ((.int .i64 0 : Value)).cells[j % ((.int .i64 0 : Value)).cells.size]!)) = ([.int .i64 0, .int .i64 0] : List Value).toArray := by kernel_rfl
theorem bz42_0 : ((Array.range (0 * 2)).map (fun j => ((.agg #[.int .i64 0, .int .i64 0] : Value)).cells[j % ((.agg #[.int .i64 0, .int .i64 0] : Value)).cells.size]!)) = ([] : List Value).toArray := by kernel_rfl
theorem bz44_1 : ((Array.range (1 * 4)).map (fun j => ((.agg #[.int .i64 0, .int .i64 0, .slice none 0 0, .bool false] : Value)).cells[j % ((.agg #[.int .i64 0, .int .i64 0, .slice none 0 0, .bool false] : Value)).cells.size]!)) = ([.int .i64 0, .int .i64 0, .slice none 0 0, .bool false] : List Value).toArray := by kernel_rfl
theorem bz46_1 : ((Array.range (1 * 10)).map (fun j => ((.agg #[.string ⟨#[]⟩, .int .i64 0, .int .i64 0, .int .i64 0, .int .i64 0, .int .i64 0, .int .i64 0, .int .i64 0, .int .i64 0, .slice none 0 0] : Value)).cells[j % ((.agg #[.string ⟨#[]⟩, .int .i64 0, .int .i64 0, .int .i64 0, .int .i64 0, .int .i64 0, .int .i64 0, .int .i64 0, .int .i64 0, .slice none 0 0] : Value)).cells.size]!)) = ([.string ⟨#[]⟩, .int .i64 0, .int .i64 0, .int .i64 0, .int .i64 0, .int .i64 0, .int .i64 0, .int .i64 0, .int .i64 0, .slice none 0 0] : List Value).toArray := by kernel_rfl
theorem bz52_1 : ((Array.range (1 * 10)).map (fun j => ((.agg #[.string ⟨#[]⟩, .int .i64 0, .int .i64 0, .int .i64 0, .int .i64 0, .int .i64 0, .int .i64 0, .int .i64 0, .int .i64 0, .slice none 0 0] : Value)).cells[j % ((.agg #[.string ⟨#[]⟩, .int .i64 0, .int .i64 0, .int .i64 0, .int .i64 0, .int .i64 0, .int .i64 0, .int .i64 0, .int .i64 0, .slice none 0 0] : Value)).cells.size]!)) = ([.string ⟨#[]⟩, .int .i64 0, .int .i64 0, .int .i64 0, .int .i64 0, .int .i64 0, .int .i64 0, .int .i64 0, .int .i64 0, .slice none 0 0] : List Value).toArray := by kernel_rfl
theorem bz5_0 : ((Array.range (0 * 1)).map (fun j => ((.int .u8 0 : Value)).cells[j % ((.int .u8 0 : Value)).cells.size]!)) = ([] : List Value).toArray := by kernel_rfl
theorem bz5_1 : ((Array.range (1 * 1)).map (fun j => ((.int .u8 0 : Value)).cells[j % ((.int .u8 0 : Value)).cells.size]!)) = ([.int .u8 0] : List Value).toArray := by kernel_rfl
theorem bz67_0 : ((Array.range (0 * 2)).map (fun j => ((.agg #[.int .i64 0, .int .i64 0] : Value)).cells[j % ((.agg #[.int .i64 0, .int .i64 0] : Value)).cells.size]!)) = ([] : List Value).toArray := by kernel_rfl
theorem cells2 : Try.prog.cellsOf 2 = 1 := by kernel_rfl
theorem eqg37 : Try.prog.eqGuardType Try.prog.depth 37 = false := by kernel_rfl
theorem eqg42 : Try.prog.eqGuardType Try.prog.depth 42 = false := by kernel_rfl
theorem eqg67 : Try.prog.eqGuardType Try.prog.depth 67 = false := by kernel_rfl
theorem fb26_0 : fieldB Try.prog 26 0 0 = true := by kernel_rfl
theorem fb26_1 : fieldB Try.prog 26 1 1 = true := by kernel_rfl
theorem fb26_2 : fieldB Try.prog 26 2 2 = true := by kernel_rfl
theorem fb26_3 : fieldB Try.prog 26 3 3 = true := by kernel_rfl
theorem fb26_4 : fieldB Try.prog 26 4 4 = true := by kernel_rfl
theorem fb26_5 : fieldB Try.prog 26 5 5 = true := by kernel_rfl
theorem fb26_6 : fieldB Try.prog 26 6 6 = true := by kernel_rfl
theorem fb26_7 : fieldB Try.prog 26 7 7 = true := by kernel_rfl
theorem fb26_8 : fieldB Try.prog 26 8 8 = true := by kernel_rfl
theorem fb26_9 : fieldB Try.prog 26 9 9 = true := by kernel_rfl
theorem fb40_0 : fieldB Try.prog 40 0 0 = true := by kernel_rfl
theorem fb40_1 : fieldB Try.prog 40 1 8 = true := by kernel_rfl
theorem fb42_0 : fieldB Try.prog 42 0 0 = true := by kernel_rfl
theorem fb42_1 : fieldB Try.prog 42 1 1 = true := by kernel_rfl
theorem fb44_0 : fieldB Try.prog 44 0 0 = true := by kernel_rfl
theorem fb44_1 : fieldB Try.prog 44 1 2 = true := by kernel_rfl
theorem fb44_2 : fieldB Try.prog 44 2 3 = true := by kernel_rfl
theorem fb46_0 : fieldB Try.prog 46 0 0 = true := by kernel_rfl
theorem fb46_1 : fieldB Try.prog 46 1 1 = true := by kernel_rfl
theorem fb52_0 : fieldB Try.prog 52 0 0 = true := by kernel_rfl
theorem fb52_1 : fieldB Try.prog 52 1 1 = true := by kernel_rfl
theorem fb52_2 : fieldB Try.prog 52 2 9 = true := by kernel_rfl
theorem fb60_0 : fieldB Try.prog 60 0 0 = true := by kernel_rfl
theorem fb60_1 : fieldB Try.prog 60 1 1 = true := by kernel_rfl
theorem fb60_2 : fieldB Try.prog 60 2 2 = true := by kernel_rfl
theorem fb67_0 : fieldB Try.prog 67 0 0 = true := by kernel_rfl
theorem fb67_1 : fieldB Try.prog 67 1 1 = true := by kernel_rfl
theorem fb94_0 : fieldB Try.prog 94 0 0 = true := by kernel_rfl
theorem fb94_1 : fieldB Try.prog 94 1 1 = true := by kernel_rfl
theorem fb94_2 : fieldB Try.prog 94 2 2 = true := by kernel_rfl
theorem fn10 : fnB Try.prog 10 = true := by kernel_rfl
theorem fn100 : fnB Try.prog 100 = true := by kernel_rfl
theorem fn101 : fnB Try.prog 101 = true := by kernel_rfl
theorem fn102 : fnB Try.prog 102 = true := by kernel_rfl
theorem fn103 : fnB Try.prog 103 = true := by kernel_rfl
theorem fn104 : fnB Try.prog 104 = true := by kernel_rfl
theorem fn105 : fnB Try.prog 105 = true := by kernel_rfl
theorem fn112 : fnB Try.prog 112 = true := by kernel_rfl
theorem fn113 : fnB Try.prog 113 = true := by kernel_rfl
theorem fn114 : fnB Try.prog 114 = true := by kernel_rfl
theorem fn14 : fnB Try.prog 14 = true := by kernel_rfl
theorem fn15 : fnB Try.prog 15 = true := by kernel_rfl
theorem fn16 : fnB Try.prog 16 = true := by kernel_rfl
theorem fn19 : fnB Try.prog 19 = true := by kernel_rfl
theorem fn20 : fnB Try.prog 20 = true := by kernel_rfl
theorem fn21 : fnB Try.prog 21 = true := by kernel_rfl
theorem fn22 : fnB Try.prog 22 = true := by kernel_rfl
theorem fn23 : fnB Try.prog 23 = true := by kernel_rfl
theorem fn24 : fnB Try.prog 24 = true := by kernel_rfl
theorem fn25 : fnB Try.prog 25 = true := by kernel_rfl
theorem fn26 : fnB Try.prog 26 = true := by kernel_rfl
theorem fn27 : fnB Try.prog 27 = true := by kernel_rfl
theorem fn28 : fnB Try.prog 28 = true := by kernel_rfl
theorem fn29 : fnB Try.prog 29 = true := by kernel_rfl
theorem fn30 : fnB Try.prog 30 = true := by kernel_rfl
theorem fn31 : fnB Try.prog 31 = true := by kernel_rfl
theorem fn32 : fnB Try.prog 32 = true := by kernel_rfl
theorem fn33 : fnB Try.prog 33 = true := by kernel_rfl
theorem fn34 : fnB Try.prog 34 = true := by kernel_rfl
theorem fn35 : fnB Try.prog 35 = true := by kernel_rfl
theorem fn36 : fnB Try.prog 36 = true := by kernel_rfl
theorem fn37 : fnB Try.prog 37 = true := by kernel_rfl
theorem fn38 : fnB Try.prog 38 = true := by kernel_rfl
theorem fn39 : fnB Try.prog 39 = true := by kernel_rfl
theorem fn40 : fnB Try.prog 40 = true := by kernel_rfl
theorem fn41 : fnB Try.prog 41 = true := by kernel_rfl
theorem fn42 : fnB Try.prog 42 = true := by kernel_rfl
theorem fn43 : fnB Try.prog 43 = true := by kernel_rfl
theorem fn44 : fnB Try.prog 44 = true := by kernel_rfl
theorem fn45 : fnB Try.prog 45 = true := by kernel_rfl
theorem fn46 : fnB Try.prog 46 = true := by kernel_rfl
theorem fn47 : fnB Try.prog 47 = true := by kernel_rfl
theorem fn48 : fnB Try.prog 48 = true := by kernel_rfl
theorem fn49 : fnB Try.prog 49 = true := by kernel_rfl
theorem fn50 : fnB Try.prog 50 = true := by kernel_rfl
theorem fn51 : fnB Try.prog 51 = true := by kernel_rfl
theorem fn52 : fnB Try.prog 52 = true := by kernel_rfl
theorem fn53 : fnB Try.prog 53 = true := by kernel_rfl
theorem fn54 : fnB Try.prog 54 = true := by kernel_rfl
theorem fn58 : fnB Try.prog 58 = true := by kernel_rfl
theorem fn59 : fnB Try.prog 59 = true := by kernel_rfl
theorem fn60 : fnB Try.prog 60 = true := by kernel_rfl
theorem fn61 : fnB Try.prog 61 = true := by kernel_rfl
theorem fn62 : fnB Try.prog 62 = true := by kernel_rfl
theorem fn63 : fnB Try.prog 63 = true := by kernel_rfl
theorem fn64 : fnB Try.prog 64 = true := by kernel_rfl
theorem fn65 : fnB Try.prog 65 = true := by kernel_rfl
theorem fn66 : fnB Try.prog 66 = true := by kernel_rfl
theorem fn67 : fnB Try.prog 67 = true := by kernel_rfl
theorem fn68 : fnB Try.prog 68 = true := by kernel_rfl
theorem fn69 : fnB Try.prog 69 = true := by kernel_rfl
theorem fn70 : fnB Try.prog 70 = true := by kernel_rfl
theorem fn71 : fnB Try.prog 71 = true := by kernel_rfl
theorem fn72 : fnB Try.prog 72 = true := by kernel_rfl
theorem fn73 : fnB Try.prog 73 = true := by kernel_rfl
theorem fn74 : fnB Try.prog 74 = true := by kernel_rfl
theorem fn75 : fnB Try.prog 75 = true := by kernel_rfl
theorem fn76 : fnB Try.prog 76 = true := by kernel_rfl
theorem fn77 : fnB Try.prog 77 = true := by kernel_rfl
theorem fn78 : fnB Try.prog 78 = true := by kernel_rfl
theorem fn79 : fnB Try.prog 79 = true := by kernel_rfl
theorem fn80 : fnB Try.prog 80 = true := by kernel_rfl
theorem fn81 : fnB Try.prog 81 = true := by kernel_rfl
theorem fn82 : fnB Try.prog 82 = true := by kernel_rfl
theorem fn83 : fnB Try.prog 83 = true := by kernel_rfl
theorem fn84 : fnB Try.prog 84 = true := by kernel_rfl
theorem fn85 : fnB Try.prog 85 = true := by kernel_rfl
theorem fn93 : fnB Try.prog 93 = true := by kernel_rfl
theorem fn94 : fnB Try.prog 94 = true := by kernel_rfl
theorem fn95 : fnB Try.prog 95 = true := by kernel_rfl
theorem fn96 : fnB Try.prog 96 = true := by kernel_rfl
theorem fn97 : fnB Try.prog 97 = true := by kernel_rfl
theorem fn98 : fnB Try.prog 98 = true := by kernel_rfl
theorem fn99 : fnB Try.prog 99 = true := by kernel_rfl
theorem info2 : (Try.prog.info? 2).isSome = true := by kernel_rfl
theorem mixed : Try.prog.follows .mixedOrders = true := by kernel_rfl
theorem pl26 : placesO Try.prog 26 = some [(0, 1), (1, 1), (2, 1), (3, 1), (4, 1), (5, 1), (6, 1), (7, 1), (8, 1), (9, 1)] := by kernel_rfl
theorem pl60 : placesO Try.prog 60 = some [(0, 1), (1, 1), (2, 1)] := by kernel_rfl
theorem pl94 : placesO Try.prog 94 = some [(0, 1), (1, 1), (2, 1)] := by kernel_rfl
theorem sz2 : (Try.prog.info? 2).map (·.size) = some 1 := by kernel_rfl
theorem sz22 : (Try.prog.info? 22).map (·.size) = some 1 := by kernel_rfl
theorem sz23 : (Try.prog.info? 23).map (·.size) = some 1 := by kernel_rfl
theorem sz24 : (Try.prog.info? 24).map (·.size) = some 1 := by kernel_rfl
theorem sz26 : (Try.prog.info? 26).map (·.size) = some 10 := by kernel_rfl
theorem sz29 : (Try.prog.info? 29).map (·.size) = some 1 := by kernel_rfl
theorem sz3 : (Try.prog.info? 3).map (·.size) = some 1 := by kernel_rfl
theorem sz37 : (Try.prog.info? 37).map (·.size) = some 8 := by kernel_rfl
theorem sz38 : (Try.prog.info? 38).map (·.size) = some 1 := by kernel_rfl
theorem sz4 : (Try.prog.info? 4).map (·.size) = some 1 := by kernel_rfl
theorem sz40 : (Try.prog.info? 40).map (·.size) = some 9 := by kernel_rfl
theorem sz42 : (Try.prog.info? 42).map (·.size) = some 2 := by kernel_rfl
theorem sz44 : (Try.prog.info? 44).map (·.size) = some 4 := by kernel_rfl
theorem sz46 : (Try.prog.info? 46).map (·.size) = some 10 := by kernel_rfl
theorem sz5 : (Try.prog.info? 5).map (·.size) = some 1 := by kernel_rfl
theorem sz50 : (Try.prog.info? 50).map (·.size) = some 1 := by kernel_rfl
theorem sz52 : (Try.prog.info? 52).map (·.size) = some 10 := by kernel_rfl
theorem sz67 : (Try.prog.info? 67).map (·.size) = some 2 := by kernel_rfl
theorem sz9 : (Try.prog.info? 9).map (·.size) = some 1 := by kernel_rfl
theorem tyb42 : TyB Try.prog 42 (.agg #[.int .i64 0, .int .i64 0]) 2 16 := by unfold TyB; kernel_rfl
theorem tyb44 : TyB Try.prog 44 (.agg #[.int .i64 0, .int .i64 0, .slice none 0 0, .bool false]) 4 48 := by unfold TyB; kernel_rfl
theorem tyb46 : TyB Try.prog 46 (.agg #[.string ⟨#[]⟩, .int .i64 0, .int .i64 0, .int .i64 0, .int .i64 0, .int .i64 0, .int .i64 0, .int .i64 0, .int .i64 0, .slice none 0 0]) 10 104 := by unfold TyB; kernel_rfl
theorem tyb5 : TyB Try.prog 5 (.int .u8 0) 1 1 := by unfold TyB; kernel_rfl
theorem tyb52 : TyB Try.prog 52 (.agg #[.string ⟨#[]⟩, .int .i64 0, .int .i64 0, .int .i64 0, .int .i64 0, .int .i64 0, .int .i64 0, .int .i64 0, .int .i64 0, .slice none 0 0]) 10 104 := by unfold TyB; kernel_rfl
theorem tyb67 : TyB Try.prog 67 (.agg #[.int .i64 0, .int .i64 0]) 2 16 := by unfold TyB; kernel_rfl
theorem zr26 : (Try.prog.info? 26).bind (·.zero) = some (.agg #[.int .i64 0, .int .i64 0, .int .i64 0, .int .i64 0, .int .i64 0, .string ⟨#[]⟩, .int .i64 0, .slice none 0 0, .slice none 0 0, .slice none 0 0]) := by kernel_rfl
theorem zr3 : (Try.prog.info? 3).bind (·.zero) = some (.int .i64 0) := by kernel_rfl
theorem zr42 : (Try.prog.info? 42).bind (·.zero) = some (.agg #[.int .i64 0, .int .i64 0]) := by kernel_rfl
theorem zr44 : (Try.prog.info? 44).bind (·.zero) = some (.agg #[.int .i64 0, .int .i64 0, .slice none 0 0, .bool false]) := by kernel_rfl
theorem zr46 : (Try.prog.info? 46).bind (·.zero) = some (.agg #[.string ⟨#[]⟩, .int .i64 0, .int .i64 0, .int .i64 0, .int .i64 0, .int .i64 0, .int .i64 0, .int .i64 0, .int .i64 0, .slice none 0 0]) := by kernel_rfl
theorem zr5 : (Try.prog.info? 5).bind (·.zero) = some (.int .u8 0) := by kernel_rfl
theorem zr52 : (Try.prog.info? 52).bind (·.zero) = some (.agg #[.string ⟨#[]⟩, .int .i64 0, .int .i64 0, .int .i64 0, .int .i64 0, .int .i64 0, .int .i64 0, .int .i64 0, .int .i64 0, .slice none 0 0]) := by kernel_rfl
theorem zr60 : (Try.prog.info? 60).bind (·.zero) = some (.agg #[.slice none 0 0, .int .i64 0, .bool false]) := by kernel_rfl
theorem zr67 : (Try.prog.info? 67).bind (·.zero) = some (.agg #[.int .i64 0, .int .i64 0]) := by kernel_rfl
theorem zr94 : (Try.prog.info? 94).bind (·.zero) = some (.agg #[.slice none 0 0, .int .i64 0, .bool false]) := by kernel_rfl
theorem two_get {x y n : Int} {k : Nat} (h : [x, y][k]? = some n) : (k = 0 ∧ n = x) ∨ (k = 1 ∧ n = y) := by
  match k, h with
  | 0, h => exact .inl ⟨rfl, by simpa using h.symm⟩
  | 1, h => exact .inr ⟨rfl, by simpa using h.symm⟩
def cmpI (x y : Int) : Int := if x < y then -1 else if y < x then 1 else 0
theorem cmp_less (a b c d : Int) : decide ((if cmpI a b = 0 then cmpI c d else cmpI a b) < 0) = dless (a, c) (b, d) := by
  unfold dless cmpI; apply decide_eq_decide.2; dsimp only
  repeat' split
  all_goals omega
theorem eq_dot (w : World) (s i t1 j : Int) : (Op.equal 42 (.agg #[.int .i64 s, .int .i64 i]) (.agg #[.int .i64 t1, .int .i64 j])).run Try.prog w = .ok (decide ((s, i) = (t1, j))) w :=
  eq_pair (by kernel_rfl) (by kernel_rfl) (show _ = [Field.mk "Node" 3 0 false "" "" 0, Field.mk "N" 2 1 false "" "" 8] by kernel_rfl) ⟨by decide, rfl, rfl⟩ ⟨by decide, rfl, rfl⟩ ag3 ag2 Try.underlying3 Try.underlying2 s i t1 j w
theorem eq_mem (w : World) (s i t1 j : Int) : (Op.equal 67 (.agg #[.int .i64 s, .int .i64 i]) (.agg #[.int .i64 t1, .int .i64 j])).run Try.prog w = .ok (decide ((s, i) = (t1, j))) w :=
  eq_pair (by kernel_rfl) (by kernel_rfl) (show _ = [Field.mk "State" 3 0 false "" "" 0, Field.mk "Inc" 2 1 false "" "" 8] by kernel_rfl) ⟨by decide, rfl, rfl⟩ ⟨by decide, rfl, rfl⟩ ag3 ag2 Try.underlying3 Try.underlying2 s i t1 j w

end Go.Proofs.Ytglmimbfelakbaa
