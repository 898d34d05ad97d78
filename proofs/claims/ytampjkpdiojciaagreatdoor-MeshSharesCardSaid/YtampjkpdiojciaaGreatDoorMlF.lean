/- Part 6 of the proofs of the mesh laws: what their code computes. No conditions. -/
import Derived.Laws.StructEq
import Derived.Test.YtampjkpdiojciaaGreatDoorMlA
import Derived.Test.YtampjkpdiojciaaGreatDoorMlB
import Derived.Test.YtampjkpdiojciaaGreatDoorMlC
import Derived.Test.YtampjkpdiojciaaGreatDoorMlD
import Derived.Test.YtampjkpdiojciaaGreatDoorMlE
namespace Go.Flow.Tryz
open Go Go.Proofs Go.RowKit Go.Flow
set_option maxRecDepth 100000
theorem b_end0_out (sr : List (List Value)) (us : List Value) (i : Int) (m : Nat) (h : AllP
    [decide (i < (↑(List.length (List.map AV.v us)) : Int)) = false]) :
    Rounds Tryz.prog (bodyOf (loopAt Tryz.f25 (1 : Nat))) (m + 1) (st 160 [AV.any, AV.any, AV.any, AV.any, AV.any, AV.any, AV.any, AV.any, AV.any, AV.ps 3 sr, AV.op 0 0, AV.any, AV.any, AV.any, AV.any, AV.v (Value.slice none 0 0), AV.op 1 0]) [some (AObj.box false 27 [AV.ls us]), some (AObj.box false 3 [iv (i)])] (Ex.exit (2 : Nat)) (st 160 [AV.any, AV.any, AV.any, AV.any, AV.any, AV.any, AV.any, AV.any, AV.any, AV.ps 3 sr, AV.op 0 0, AV.any, AV.any, AV.any, AV.any, AV.v (Value.slice none 0 0), AV.op 1 0]) [some (AObj.box false 27 [AV.ls us]), some (AObj.box false 3 [iv (i)])] :=
  Rounds.out_of fits hmix [Orc.b false] (17 : Nat) [(0 : Nat), (1 : Nat)] m (by simp) (by kernel_rfl) h
theorem b_end_out (sr : List (List Value)) (us : List Value) (ou : List AV) (i : Int) (m : Nat) (h : AllP
    [decide (i < (↑(List.length (List.map AV.v us)) : Int)) = false]) :
    Rounds Tryz.prog (bodyOf (loopAt Tryz.f25 (1 : Nat))) (m + 1) (st 160 [AV.any, AV.any, AV.any, AV.any, AV.any, AV.any, AV.any, AV.any, AV.any, AV.ps 3 sr, AV.op 0 0, AV.any, AV.any, AV.any, AV.any, AV.own 2, AV.op 1 0]) [some (AObj.box false 27 [AV.ls us]), some (AObj.box false 3 [iv (i)]), some (AObj.row false 60 3 ou)] (Ex.exit (2 : Nat)) (st 160 [AV.any, AV.any, AV.any, AV.any, AV.any, AV.any, AV.any, AV.any, AV.any, AV.ps 3 sr, AV.op 0 0, AV.any, AV.any, AV.any, AV.any, AV.own 2, AV.op 1 0]) [some (AObj.box false 27 [AV.ls us]), some (AObj.box false 3 [iv (i)]), some (AObj.row false 60 3 (List.map (ren [(0 : Nat), (1 : Nat), (2 : Nat)] (9 : Nat)) ou))] :=
  Rounds.out_of fits hmix [Orc.b false] (17 : Nat) [(0 : Nat), (1 : Nat), (2 : Nat)] m (by simp) (by kernel_rfl) h
theorem b_none0_step (sr : List (List Value)) (us : List Value) (i : Int) (k : Int) {ex : Ex} {T2 : List AV} {H2 : Heap} (m : Nat) (h : AllP
    [decide (i < (↑(List.length (List.map AV.v us)) : Int)) = true,
     CallsTo Tryz.prog (72 : Nat) [AV.ps 3 sr, AV.fn (73 : Nat) [AV.lp [AV.ls us], AV.lp [iv (i)]]] (iv (k)),
     decide (k < (0 : Int)) = true,
     IntKind.wrap IntKind.i64 (i + (1 : Int)) = i + (1 : Int)])
    (h2 : Rounds Tryz.prog (bodyOf (loopAt Tryz.f25 (1 : Nat))) m (st 160 [AV.any, AV.any, AV.any, AV.any, AV.any, AV.any, AV.any, AV.any, AV.any, AV.ps 3 sr, AV.op 0 0, AV.any, AV.any, AV.any, AV.any, AV.v (Value.slice none 0 0), AV.op 1 0]) [some (AObj.box false 27 [AV.ls us]), some (AObj.box false 3 [iv ((i + (1 : Int)))])] ex T2 H2) :
    Rounds Tryz.prog (bodyOf (loopAt Tryz.f25 (1 : Nat))) (m + 1) (st 160 [AV.any, AV.any, AV.any, AV.any, AV.any, AV.any, AV.any, AV.any, AV.any, AV.ps 3 sr, AV.op 0 0, AV.any, AV.any, AV.any, AV.any, AV.v (Value.slice none 0 0), AV.op 1 0]) [some (AObj.box false 27 [AV.ls us]), some (AObj.box false 3 [iv (i)])] ex T2 H2 :=
  Rounds.step_of fits hmix [Orc.b true, Orc.a (iv (k)), Orc.b true] (17 : Nat) [(0 : Nat), (2 : Nat)] (by kernel_rfl) h h2
theorem b_none_step (sr : List (List Value)) (us : List Value) (ou : List AV) (i : Int) (k : Int) {ex : Ex} {T2 : List AV} {H2 : Heap} (m : Nat) (h : AllP
    [decide (i < (↑(List.length (List.map AV.v us)) : Int)) = true,
     CallsTo Tryz.prog (72 : Nat) [AV.ps 3 sr, AV.fn (73 : Nat) [AV.lp [AV.ls us], AV.lp [iv (i)]]] (iv (k)),
     decide (k < (0 : Int)) = true,
     IntKind.wrap IntKind.i64 (i + (1 : Int)) = i + (1 : Int)])
    (h2 : Rounds Tryz.prog (bodyOf (loopAt Tryz.f25 (1 : Nat))) m (st 160 [AV.any, AV.any, AV.any, AV.any, AV.any, AV.any, AV.any, AV.any, AV.any, AV.ps 3 sr, AV.op 0 0, AV.any, AV.any, AV.any, AV.any, AV.own 2, AV.op 1 0]) [some (AObj.box false 27 [AV.ls us]), some (AObj.box false 3 [iv ((i + (1 : Int)))]), some (AObj.row false 60 3 (List.map (ren [(0 : Nat), (3 : Nat), (2 : Nat)] (9 : Nat)) ou))] ex T2 H2) :
    Rounds Tryz.prog (bodyOf (loopAt Tryz.f25 (1 : Nat))) (m + 1) (st 160 [AV.any, AV.any, AV.any, AV.any, AV.any, AV.any, AV.any, AV.any, AV.any, AV.ps 3 sr, AV.op 0 0, AV.any, AV.any, AV.any, AV.any, AV.own 2, AV.op 1 0]) [some (AObj.box false 27 [AV.ls us]), some (AObj.box false 3 [iv (i)]), some (AObj.row false 60 3 ou)] ex T2 H2 :=
  Rounds.step_of fits hmix [Orc.b true, Orc.a (iv (k)), Orc.b true] (17 : Nat) [(0 : Nat), (3 : Nat), (2 : Nat)] (by kernel_rfl) h h2
theorem b_new0_step (sr : List (List Value)) (us : List Value) (i : Int) (k : Int) (t1 : Int) (e0 : List UInt8) (e1 : List UInt8) (lo : List UInt8) (hi : List UInt8) {ex : Ex} {T2 : List AV} {H2 : Heap} (m : Nat) (h : AllP
    [decide (i < (↑(List.length (List.map AV.v us)) : Int)) = true,
     CallsTo Tryz.prog (72 : Nat) [AV.ps 3 sr, AV.fn (73 : Nat) [AV.lp [AV.ls us], AV.lp [iv (i)]]] (iv (k)),
     decide (k < (0 : Int)) = false,
     false = false,
     false = false,
     false = false,
     false = false,
     false = false,
     false = false,
     false = false,
     false = false,
     false = false,
     false = false,
     false = false,
     false = false,
     false = false,
     false = false,
     false = false,
     false = false,
     false = false,
     false = false,
     false = false,
     false = false,
     false = false,
     false = false,
     false = false,
     false = false,
     false = false,
     false = false,
     false = false,
     (0 : Int) ≤ k ∧ (List.map rowAV sr)[Int.toNat k]? = some (AV.agg [iv (t1), sv lo, sv hi]),
     IntKind.wrap IntKind.i64 (i - (1 : Int)) = i - (1 : Int),
     (0 : Int) ≤ i - (1 : Int) ∧ (List.map AV.v us)[Int.toNat (i - (1 : Int))]? = some (sv e0),
     (0 : Int) ≤ i ∧ (List.map AV.v us)[Int.toNat i]? = some (sv e1),
     nat_lit 1 ≤ nat_lit 9223372036854775807 ∧ nat_lit 40 ≤ nat_lit 140737488355328,
     IntKind.wrap IntKind.i64 (i + (1 : Int)) = i + (1 : Int)])
    (h2 : Rounds Tryz.prog (bodyOf (loopAt Tryz.f25 (1 : Nat))) m (st 160 [AV.any, AV.any, AV.any, AV.any, AV.any, AV.any, AV.any, AV.any, AV.any, AV.ps 3 sr, AV.op 0 0, AV.any, AV.any, AV.any, AV.any, AV.own 2, AV.op 1 0]) [some (AObj.box false 27 [AV.ls us]), some (AObj.box false 3 [iv ((i + (1 : Int)))]), some (AObj.row false 60 3 [AV.agg [iv (t1), sv e0, sv e1]])] ex T2 H2) :
    Rounds Tryz.prog (bodyOf (loopAt Tryz.f25 (1 : Nat))) (m + 1) (st 160 [AV.any, AV.any, AV.any, AV.any, AV.any, AV.any, AV.any, AV.any, AV.any, AV.ps 3 sr, AV.op 0 0, AV.any, AV.any, AV.any, AV.any, AV.v (Value.slice none 0 0), AV.op 1 0]) [some (AObj.box false 27 [AV.ls us]), some (AObj.box false 3 [iv (i)])] ex T2 H2 :=
  Rounds.step_of fits hmix [Orc.b true, Orc.a (iv (k)), Orc.b false, Orc.b false, Orc.b false, Orc.b false, Orc.b false, Orc.b false, Orc.b false, Orc.b false, Orc.b false, Orc.b false, Orc.b false, Orc.b false, Orc.b false, Orc.b false, Orc.b false, Orc.b false, Orc.b false, Orc.b false, Orc.b false, Orc.b false, Orc.b false, Orc.b false, Orc.b false, Orc.b false, Orc.b false, Orc.b false, Orc.b false, Orc.b false, Orc.a (AV.agg [iv (t1), sv lo, sv hi]), Orc.a (sv e0), Orc.a (sv e1)] (17 : Nat) [(0 : Nat), (20 : Nat), (19 : Nat)] (by kernel_rfl) h h2
theorem b_new1_step (sr : List (List Value)) (us : List Value) (i : Int) (k : Int) (t0 : Int) (t1 : Int) (e0 : List UInt8) (e1 : List UInt8) (lo : List UInt8) (hi : List UInt8) (f0 : List UInt8) (f1 : List UInt8) (ou : List AV) {ex : Ex} {T2 : List AV} {H2 : Heap} (m : Nat) (h : AllP
    [decide (i < (↑(List.length (List.map AV.v us)) : Int)) = true,
     CallsTo Tryz.prog (72 : Nat) [AV.ps 3 sr, AV.fn (73 : Nat) [AV.lp [AV.ls us], AV.lp [iv (i)]]] (iv (k)),
     decide (k < (0 : Int)) = false,
     decide ((↑(List.length ou) : Int) > (0 : Int)) = true,
     decide ((↑(List.length ou) : Int) > (0 : Int)) = true,
     decide ((↑(List.length ou) : Int) > (0 : Int)) = true,
     IntKind.wrap IntKind.i64 ((↑(List.length ou) : Int) - (1 : Int)) = (↑(List.length ou) : Int) - (1 : Int),
     decide ((↑(List.length ou) : Int) > (0 : Int)) = true,
     (0 : Int) ≤ (↑(List.length ou) : Int) - (1 : Int) ∧ (↑(List.length ou) : Int) - (1 : Int) < (↑(List.length ou) : Int),
     decide ((↑(List.length ou) : Int) > (0 : Int)) = true,
     decide ((↑(List.length ou) : Int) > (0 : Int)) = true,
     ou[Int.toNat ((↑(List.length ou) : Int) - (1 : Int))]? = some (AV.agg [iv (t0), sv f0, sv f1]),
     decide ((↑(List.length ou) : Int) > (0 : Int)) = true,
     decide ((↑(List.length ou) : Int) > (0 : Int)) = true,
     decide ((↑(List.length ou) : Int) > (0 : Int)) = true,
     (0 : Int) ≤ k ∧ (List.map rowAV sr)[Int.toNat k]? = some (AV.agg [iv (t1), sv lo, sv hi]),
     decide ((↑(List.length ou) : Int) > (0 : Int)) = true,
     decide ((↑(List.length ou) : Int) > (0 : Int)) = true,
     decide ((↑(List.length ou) : Int) > (0 : Int)) = true,
     decide ((↑(List.length ou) : Int) > (0 : Int)) = true,
     (t0 == t1) = false,
     (t0 == t1) = false,
     (t0 == t1) = false,
     (t0 == t1) = false,
     (t0 == t1) = false,
     (t0 == t1) = false,
     (t0 == t1) = false,
     (t0 == t1) = false,
     (t0 == t1) = false,
     (t0 == t1) = false,
     (t0 == t1) = false,
     (t0 == t1) = false,
     (t0 == t1) = false,
     false = false,
     (0 : Int) ≤ k ∧ (List.map rowAV sr)[Int.toNat k]? = some (AV.agg [iv (t1), sv lo, sv hi]),
     IntKind.wrap IntKind.i64 (i - (1 : Int)) = i - (1 : Int),
     (0 : Int) ≤ i - (1 : Int) ∧ (List.map AV.v us)[Int.toNat (i - (1 : Int))]? = some (sv e0),
     (0 : Int) ≤ i ∧ (List.map AV.v us)[Int.toNat i]? = some (sv e1),
     List.length ou + nat_lit 1 ≤ nat_lit 9223372036854775807 ∧ (List.length ou + nat_lit 1) * nat_lit 40 ≤ nat_lit 140737488355328,
     IntKind.wrap IntKind.i64 (i + (1 : Int)) = i + (1 : Int)])
    (h2 : Rounds Tryz.prog (bodyOf (loopAt Tryz.f25 (1 : Nat))) m (st 160 [AV.any, AV.any, AV.any, AV.any, AV.any, AV.any, AV.any, AV.any, AV.any, AV.ps 3 sr, AV.op 0 0, AV.any, AV.any, AV.any, AV.any, AV.own 2, AV.op 1 0]) [some (AObj.box false 27 [AV.ls us]), some (AObj.box false 3 [iv ((i + (1 : Int)))]), some (AObj.row false 60 3 (List.map (ren [(0 : Nat), (21 : Nat), (20 : Nat)] (9 : Nat)) (ou ++ [AV.agg [iv (t1), sv e0, sv e1]])))] ex T2 H2) :
    Rounds Tryz.prog (bodyOf (loopAt Tryz.f25 (1 : Nat))) (m + 1) (st 160 [AV.any, AV.any, AV.any, AV.any, AV.any, AV.any, AV.any, AV.any, AV.any, AV.ps 3 sr, AV.op 0 0, AV.any, AV.any, AV.any, AV.any, AV.own 2, AV.op 1 0]) [some (AObj.box false 27 [AV.ls us]), some (AObj.box false 3 [iv (i)]), some (AObj.row false 60 3 ou)] ex T2 H2 :=
  Rounds.step_of fits hmix [Orc.b true, Orc.a (iv (k)), Orc.b false, Orc.b true, Orc.b true, Orc.b true, Orc.b true, Orc.b true, Orc.b true, Orc.a (AV.agg [iv (t0), sv f0, sv f1]), Orc.b true, Orc.b true, Orc.b true, Orc.a (AV.agg [iv (t1), sv lo, sv hi]), Orc.b true, Orc.b true, Orc.b true, Orc.b true, Orc.b false, Orc.b false, Orc.b false, Orc.b false, Orc.b false, Orc.b false, Orc.b false, Orc.b false, Orc.b false, Orc.b false, Orc.b false, Orc.b false, Orc.b false, Orc.b false, Orc.a (AV.agg [iv (t1), sv lo, sv hi]), Orc.a (sv e0), Orc.a (sv e1)] (17 : Nat) [(0 : Nat), (21 : Nat), (20 : Nat)] (by kernel_rfl) h h2
theorem b_new2_step (sr : List (List Value)) (us : List Value) (i : Int) (k : Int) (t0 : Int) (t1 : Int) (e0 : List UInt8) (e1 : List UInt8) (lo : List UInt8) (hi : List UInt8) (f0 : List UInt8) (f1 : List UInt8) (ou : List AV) {ex : Ex} {T2 : List AV} {H2 : Heap} (m : Nat) (h : AllP
    [decide (i < (↑(List.length (List.map AV.v us)) : Int)) = true,
     CallsTo Tryz.prog (72 : Nat) [AV.ps 3 sr, AV.fn (73 : Nat) [AV.lp [AV.ls us], AV.lp [iv (i)]]] (iv (k)),
     decide (k < (0 : Int)) = false,
     decide ((↑(List.length ou) : Int) > (0 : Int)) = true,
     decide ((↑(List.length ou) : Int) > (0 : Int)) = true,
     decide ((↑(List.length ou) : Int) > (0 : Int)) = true,
     IntKind.wrap IntKind.i64 ((↑(List.length ou) : Int) - (1 : Int)) = (↑(List.length ou) : Int) - (1 : Int),
     decide ((↑(List.length ou) : Int) > (0 : Int)) = true,
     (0 : Int) ≤ (↑(List.length ou) : Int) - (1 : Int) ∧ (↑(List.length ou) : Int) - (1 : Int) < (↑(List.length ou) : Int),
     decide ((↑(List.length ou) : Int) > (0 : Int)) = true,
     decide ((↑(List.length ou) : Int) > (0 : Int)) = true,
     ou[Int.toNat ((↑(List.length ou) : Int) - (1 : Int))]? = some (AV.agg [iv (t0), sv f0, sv f1]),
     decide ((↑(List.length ou) : Int) > (0 : Int)) = true,
     decide ((↑(List.length ou) : Int) > (0 : Int)) = true,
     decide ((↑(List.length ou) : Int) > (0 : Int)) = true,
     (0 : Int) ≤ k ∧ (List.map rowAV sr)[Int.toNat k]? = some (AV.agg [iv (t1), sv lo, sv hi]),
     decide ((↑(List.length ou) : Int) > (0 : Int)) = true,
     decide ((↑(List.length ou) : Int) > (0 : Int)) = true,
     decide ((↑(List.length ou) : Int) > (0 : Int)) = true,
     decide ((↑(List.length ou) : Int) > (0 : Int)) = true,
     (t0 == t1) = true,
     (t0 == t1) = true,
     (t0 == t1) = true,
     IntKind.wrap IntKind.i64 ((↑(List.length ou) : Int) - (1 : Int)) = (↑(List.length ou) : Int) - (1 : Int),
     (t0 == t1) = true,
     (0 : Int) ≤ (↑(List.length ou) : Int) - (1 : Int) ∧ (↑(List.length ou) : Int) - (1 : Int) < (↑(List.length ou) : Int),
     (t0 == t1) = true,
     (t0 == t1) = true,
     ou[Int.toNat ((↑(List.length ou) : Int) - (1 : Int))]? = some (AV.agg [iv (t0), sv f0, sv f1]),
     (t0 == t1) = true,
     (t0 == t1) = true,
     (t0 == t1) = true,
     IntKind.wrap IntKind.i64 (i - (1 : Int)) = i - (1 : Int),
     (t0 == t1) = true,
     (0 : Int) ≤ i - (1 : Int) ∧ (List.map AV.v us)[Int.toNat (i - (1 : Int))]? = some (sv e0),
     (t0 == t1) = true,
     (t0 == t1) = true,
     (t0 == t1) = true,
     (ByteArray.toList (bstr f1) == ByteArray.toList (bstr e0)) = false,
     (0 : Int) ≤ k ∧ (List.map rowAV sr)[Int.toNat k]? = some (AV.agg [iv (t1), sv lo, sv hi]),
     IntKind.wrap IntKind.i64 (i - (1 : Int)) = i - (1 : Int),
     (0 : Int) ≤ i - (1 : Int) ∧ (List.map AV.v us)[Int.toNat (i - (1 : Int))]? = some (sv e0),
     (0 : Int) ≤ i ∧ (List.map AV.v us)[Int.toNat i]? = some (sv e1),
     List.length ou + nat_lit 1 ≤ nat_lit 9223372036854775807 ∧ (List.length ou + nat_lit 1) * nat_lit 40 ≤ nat_lit 140737488355328,
     IntKind.wrap IntKind.i64 (i + (1 : Int)) = i + (1 : Int)])
    (h2 : Rounds Tryz.prog (bodyOf (loopAt Tryz.f25 (1 : Nat))) m (st 160 [AV.any, AV.any, AV.any, AV.any, AV.any, AV.any, AV.any, AV.any, AV.any, AV.ps 3 sr, AV.op 0 0, AV.any, AV.any, AV.any, AV.any, AV.own 2, AV.op 1 0]) [some (AObj.box false 27 [AV.ls us]), some (AObj.box false 3 [iv ((i + (1 : Int)))]), some (AObj.row false 60 3 (List.map (ren [(0 : Nat), (21 : Nat), (20 : Nat)] (9 : Nat)) (ou ++ [AV.agg [iv (t1), sv e0, sv e1]])))] ex T2 H2) :
    Rounds Tryz.prog (bodyOf (loopAt Tryz.f25 (1 : Nat))) (m + 1) (st 160 [AV.any, AV.any, AV.any, AV.any, AV.any, AV.any, AV.any, AV.any, AV.any, AV.ps 3 sr, AV.op 0 0, AV.any, AV.any, AV.any, AV.any, AV.own 2, AV.op 1 0]) [some (AObj.box false 27 [AV.ls us]), some (AObj.box false 3 [iv (i)]), some (AObj.row false 60 3 ou)] ex T2 H2 :=
  Rounds.step_of fits hmix [Orc.b true, Orc.a (iv (k)), Orc.b false, Orc.b true, Orc.b true, Orc.b true, Orc.b true, Orc.b true, Orc.b true, Orc.a (AV.agg [iv (t0), sv f0, sv f1]), Orc.b true, Orc.b true, Orc.b true, Orc.a (AV.agg [iv (t1), sv lo, sv hi]), Orc.b true, Orc.b true, Orc.b true, Orc.b true, Orc.b true, Orc.b true, Orc.b true, Orc.b true, Orc.b true, Orc.b true, Orc.a (AV.agg [iv (t0), sv f0, sv f1]), Orc.b true, Orc.b true, Orc.b true, Orc.b true, Orc.a (sv e0), Orc.b true, Orc.b true, Orc.b true, Orc.b false, Orc.a (AV.agg [iv (t1), sv lo, sv hi]), Orc.a (sv e0), Orc.a (sv e1)] (17 : Nat) [(0 : Nat), (21 : Nat), (20 : Nat)] (by kernel_rfl) h h2
theorem b_ext_step (sr : List (List Value)) (us : List Value) (i : Int) (k : Int) (t0 : Int) (t1 : Int) (e0 : List UInt8) (e1 : List UInt8) (lo : List UInt8) (hi : List UInt8) (f0 : List UInt8) (f1 : List UInt8) (ou : List AV) {ex : Ex} {T2 : List AV} {H2 : Heap} (m : Nat) (h : AllP
    [decide (i < (↑(List.length (List.map AV.v us)) : Int)) = true,
     CallsTo Tryz.prog (72 : Nat) [AV.ps 3 sr, AV.fn (73 : Nat) [AV.lp [AV.ls us], AV.lp [iv (i)]]] (iv (k)),
     decide (k < (0 : Int)) = false,
     decide ((↑(List.length ou) : Int) > (0 : Int)) = true,
     decide ((↑(List.length ou) : Int) > (0 : Int)) = true,
     decide ((↑(List.length ou) : Int) > (0 : Int)) = true,
     IntKind.wrap IntKind.i64 ((↑(List.length ou) : Int) - (1 : Int)) = (↑(List.length ou) : Int) - (1 : Int),
     decide ((↑(List.length ou) : Int) > (0 : Int)) = true,
     (0 : Int) ≤ (↑(List.length ou) : Int) - (1 : Int) ∧ (↑(List.length ou) : Int) - (1 : Int) < (↑(List.length ou) : Int),
     decide ((↑(List.length ou) : Int) > (0 : Int)) = true,
     decide ((↑(List.length ou) : Int) > (0 : Int)) = true,
     ou[Int.toNat ((↑(List.length ou) : Int) - (1 : Int))]? = some (AV.agg [iv (t0), sv f0, sv f1]),
     decide ((↑(List.length ou) : Int) > (0 : Int)) = true,
     decide ((↑(List.length ou) : Int) > (0 : Int)) = true,
     decide ((↑(List.length ou) : Int) > (0 : Int)) = true,
     (0 : Int) ≤ k ∧ (List.map rowAV sr)[Int.toNat k]? = some (AV.agg [iv (t1), sv lo, sv hi]),
     decide ((↑(List.length ou) : Int) > (0 : Int)) = true,
     decide ((↑(List.length ou) : Int) > (0 : Int)) = true,
     decide ((↑(List.length ou) : Int) > (0 : Int)) = true,
     decide ((↑(List.length ou) : Int) > (0 : Int)) = true,
     (t0 == t1) = true,
     (t0 == t1) = true,
     (t0 == t1) = true,
     IntKind.wrap IntKind.i64 ((↑(List.length ou) : Int) - (1 : Int)) = (↑(List.length ou) : Int) - (1 : Int),
     (t0 == t1) = true,
     (0 : Int) ≤ (↑(List.length ou) : Int) - (1 : Int) ∧ (↑(List.length ou) : Int) - (1 : Int) < (↑(List.length ou) : Int),
     (t0 == t1) = true,
     (t0 == t1) = true,
     ou[Int.toNat ((↑(List.length ou) : Int) - (1 : Int))]? = some (AV.agg [iv (t0), sv f0, sv f1]),
     (t0 == t1) = true,
     (t0 == t1) = true,
     (t0 == t1) = true,
     IntKind.wrap IntKind.i64 (i - (1 : Int)) = i - (1 : Int),
     (t0 == t1) = true,
     (0 : Int) ≤ i - (1 : Int) ∧ (List.map AV.v us)[Int.toNat (i - (1 : Int))]? = some (sv e0),
     (t0 == t1) = true,
     (t0 == t1) = true,
     (t0 == t1) = true,
     (ByteArray.toList (bstr f1) == ByteArray.toList (bstr e0)) = true,
     IntKind.wrap IntKind.i64 ((↑(List.length ou) : Int) - (1 : Int)) = (↑(List.length ou) : Int) - (1 : Int),
     (0 : Int) ≤ i ∧ (List.map AV.v us)[Int.toNat i]? = some (sv e1),
     (0 : Int) ≤ (↑(List.length ou) : Int) - (1 : Int) ∧ (↑(List.length ou) : Int) - (1 : Int) < (↑(List.length ou) : Int),
     ou[Int.toNat ((↑(List.length ou) : Int) - (1 : Int))]? = some (AV.agg [iv (t0), sv f0, sv f1]),
     IntKind.wrap IntKind.i64 (i + (1 : Int)) = i + (1 : Int)])
    (h2 : Rounds Tryz.prog (bodyOf (loopAt Tryz.f25 (1 : Nat))) m (st 160 [AV.any, AV.any, AV.any, AV.any, AV.any, AV.any, AV.any, AV.any, AV.any, AV.ps 3 sr, AV.op 0 0, AV.any, AV.any, AV.any, AV.any, AV.own 2, AV.op 1 0]) [some (AObj.box false 27 [AV.ls us]), some (AObj.box false 3 [iv ((i + (1 : Int)))]), some (AObj.row false 60 3 (List.map (ren [(0 : Nat), (3 : Nat), (2 : Nat)] (9 : Nat)) (List.set ou (Int.toNat ((↑(List.length ou) : Int) - (1 : Int))) (AV.agg [iv (t0), sv f0, sv e1]))))] ex T2 H2) :
    Rounds Tryz.prog (bodyOf (loopAt Tryz.f25 (1 : Nat))) (m + 1) (st 160 [AV.any, AV.any, AV.any, AV.any, AV.any, AV.any, AV.any, AV.any, AV.any, AV.ps 3 sr, AV.op 0 0, AV.any, AV.any, AV.any, AV.any, AV.own 2, AV.op 1 0]) [some (AObj.box false 27 [AV.ls us]), some (AObj.box false 3 [iv (i)]), some (AObj.row false 60 3 ou)] ex T2 H2 :=
  Rounds.step_of fits hmix [Orc.b true, Orc.a (iv (k)), Orc.b false, Orc.b true, Orc.b true, Orc.b true, Orc.b true, Orc.b true, Orc.b true, Orc.a (AV.agg [iv (t0), sv f0, sv f1]), Orc.b true, Orc.b true, Orc.b true, Orc.a (AV.agg [iv (t1), sv lo, sv hi]), Orc.b true, Orc.b true, Orc.b true, Orc.b true, Orc.b true, Orc.b true, Orc.b true, Orc.b true, Orc.b true, Orc.b true, Orc.a (AV.agg [iv (t0), sv f0, sv f1]), Orc.b true, Orc.b true, Orc.b true, Orc.b true, Orc.a (sv e0), Orc.b true, Orc.b true, Orc.b true, Orc.b true, Orc.a (sv e1), Orc.a (AV.agg [iv (t0), sv f0, sv f1])] (17 : Nat) [(0 : Nat), (3 : Nat), (2 : Nat)] (by kernel_rfl) h h2
theorem a1_t_ok (us : List Value) (i : Int) (t1 : Int) (c1 : Int) (c2 : Int) (lo : List UInt8) (hi : List UInt8) (e0 : List UInt8) (e1 : List UInt8) (h : AllP
    [IntKind.wrap IntKind.i64 (i - (1 : Int)) = i - (1 : Int),
     (0 : Int) ≤ i - (1 : Int) ∧ (List.map AV.v us)[Int.toNat (i - (1 : Int))]? = some (sv e0),
     CallsTo Tryz.prog (14 : Nat) [sv lo, sv e0] (iv (c1)),
     decide (c1 ≤ (0 : Int)) = true,
     decide (c1 ≤ (0 : Int)) = true,
     decide (c1 ≤ (0 : Int)) = true,
     (0 : Int) ≤ i ∧ (List.map AV.v us)[Int.toNat i]? = some (sv e1),
     decide (c1 ≤ (0 : Int)) = true,
     decide (c1 ≤ (0 : Int)) = true,
     decide (c1 ≤ (0 : Int)) = true,
     decide (c1 ≤ (0 : Int)) = true,
     CallsTo Tryz.prog (14 : Nat) [sv e1, sv hi] (iv (c2)),
     decide (c1 ≤ (0 : Int)) = true,
     decide (c1 ≤ (0 : Int)) = true]) :
    CallsTo Tryz.prog 73 [AV.agg [iv (t1), sv lo, sv hi], AV.lp [AV.ls us], AV.lp [iv (i)]] (bv ((decide (c2 ≤ (0 : Int))))) :=
  fn_ok fits hmix Tryz.func73 (by kernel_rfl)
    [Orc.a (sv e0), Orc.a (iv (c1)), Orc.b true, Orc.b true, Orc.b true, Orc.a (sv e1), Orc.b true, Orc.b true, Orc.b true, Orc.b true, Orc.a (iv (c2)), Orc.b true, Orc.b true] (by kernel_rfl) h
theorem a1_f_ok (us : List Value) (i : Int) (t1 : Int) (c1 : Int) (lo : List UInt8) (hi : List UInt8) (e0 : List UInt8) (h : AllP
    [IntKind.wrap IntKind.i64 (i - (1 : Int)) = i - (1 : Int),
     (0 : Int) ≤ i - (1 : Int) ∧ (List.map AV.v us)[Int.toNat (i - (1 : Int))]? = some (sv e0),
     CallsTo Tryz.prog (14 : Nat) [sv lo, sv e0] (iv (c1)),
     decide (c1 ≤ (0 : Int)) = false,
     decide (c1 ≤ (0 : Int)) = false,
     decide (c1 ≤ (0 : Int)) = false,
     decide (c1 ≤ (0 : Int)) = false,
     decide (c1 ≤ (0 : Int)) = false,
     decide (c1 ≤ (0 : Int)) = false,
     decide (c1 ≤ (0 : Int)) = false,
     decide (c1 ≤ (0 : Int)) = false,
     decide (c1 ≤ (0 : Int)) = false]) :
    CallsTo Tryz.prog 73 [AV.agg [iv (t1), sv lo, sv hi], AV.lp [AV.ls us], AV.lp [iv (i)]] (bv (false)) :=
  fn_ok fits hmix Tryz.func73 (by kernel_rfl)
    [Orc.a (sv e0), Orc.a (iv (c1)), Orc.b false, Orc.b false, Orc.b false, Orc.b false, Orc.b false, Orc.b false, Orc.b false, Orc.b false, Orc.b false] (by kernel_rfl) h
theorem ix_yes_out (sr : List (List Value)) (us : List Value) (j : Int) (len : Int) (i : Int) (t1 : Int) (lo : List UInt8) (hi : List UInt8) (m : Nat) (h : AllP
    [decide (i < len) = true,
     (0 : Int) ≤ i ∧ (List.map rowAV sr)[Int.toNat i]? = some (AV.agg [iv (t1), sv lo, sv hi]),
     CallsTo Tryz.prog (73 : Nat) [AV.agg [iv (t1), sv lo, sv hi], AV.lp [AV.ls us], AV.lp [iv (j)]] (bv (true)),
     true = true]) :
    Rounds Tryz.prog (bodyOf (loopAt Tryz.f72 (0 : Nat))) (m + 1) (st 19 [AV.ps 3 sr, AV.fn (73 : Nat) [AV.lp [AV.ls us], AV.lp [iv (j)]], AV.any, AV.any, AV.any, AV.any, AV.ps 3 sr, iv (len), iv (i)]) [] (Ex.ret) (st 19 [AV.ps 3 sr, AV.fn (73 : Nat) [AV.lp [AV.ls us], AV.lp [iv (j)]], AV.any, AV.any, iv (i), iv (i), AV.ps 3 sr, iv (len), iv (i)]) [] :=
  Rounds.out_of fits hmix [Orc.b true, Orc.a (AV.agg [iv (t1), sv lo, sv hi]), Orc.a (bv (true)), Orc.b true] (9 : Nat) [] m (by simp) (by kernel_rfl) h
theorem ix_no_step (sr : List (List Value)) (us : List Value) (j : Int) (len : Int) (i : Int) (t1 : Int) (lo : List UInt8) (hi : List UInt8) {ex : Ex} {T2 : List AV} {H2 : Heap} (m : Nat) (h : AllP
    [decide (i < len) = true,
     (0 : Int) ≤ i ∧ (List.map rowAV sr)[Int.toNat i]? = some (AV.agg [iv (t1), sv lo, sv hi]),
     CallsTo Tryz.prog (73 : Nat) [AV.agg [iv (t1), sv lo, sv hi], AV.lp [AV.ls us], AV.lp [iv (j)]] (bv (false)),
     false = false,
     IntKind.wrap IntKind.i64 (i + (1 : Int)) = i + (1 : Int)])
    (h2 : Rounds Tryz.prog (bodyOf (loopAt Tryz.f72 (0 : Nat))) m (st 19 [AV.ps 3 sr, AV.fn (73 : Nat) [AV.lp [AV.ls us], AV.lp [iv (j)]], AV.any, AV.any, AV.any, iv (i), AV.ps 3 sr, iv (len), iv ((i + (1 : Int)))]) [] ex T2 H2) :
    Rounds Tryz.prog (bodyOf (loopAt Tryz.f72 (0 : Nat))) (m + 1) (st 19 [AV.ps 3 sr, AV.fn (73 : Nat) [AV.lp [AV.ls us], AV.lp [iv (j)]], AV.any, AV.any, AV.any, AV.any, AV.ps 3 sr, iv (len), iv (i)]) [] ex T2 H2 :=
  Rounds.step_of fits hmix [Orc.b true, Orc.a (AV.agg [iv (t1), sv lo, sv hi]), Orc.a (bv (false)), Orc.b false] (9 : Nat) [] (by kernel_rfl) h h2
theorem ix_end_out (sr : List (List Value)) (us : List Value) (j : Int) (len : Int) (i : Int) (m : Nat) (h : AllP
    [decide (i < len) = false]) :
    Rounds Tryz.prog (bodyOf (loopAt Tryz.f72 (0 : Nat))) (m + 1) (st 19 [AV.ps 3 sr, AV.fn (73 : Nat) [AV.lp [AV.ls us], AV.lp [iv (j)]], AV.any, AV.any, AV.any, AV.any, AV.ps 3 sr, iv (len), iv (i)]) [] (Ex.exit (0 : Nat)) (st 19 [AV.ps 3 sr, AV.fn (73 : Nat) [AV.lp [AV.ls us], AV.lp [iv (j)]], AV.any, AV.any, AV.any, AV.any, AV.ps 3 sr, iv (len), iv (i)]) [] :=
  Rounds.out_of fits hmix [Orc.b false] (9 : Nat) [] m (by simp) (by kernel_rfl) h
theorem c3_step_step (orr : List (List Value)) (len : Int) (i : Int) (t1 : Int) (lo : List UInt8) (hi : List UInt8) {ex : Ex} {T2 : List AV} {H2 : Heap} (m : Nat) (h : AllP
    [decide (i < len) = true,
     (0 : Int) ≤ i ∧ (List.map rowAV orr)[Int.toNat i]? = some (AV.agg [iv (t1), sv lo, sv hi]),
     CallsTo Tryz.prog (13 : Nat) [sv lo] (iv 0),
     false = false,
     false = false,
     false = false,
     CallsTo Tryz.prog (13 : Nat) [sv hi] (iv 0),
     false = false,
     false = false,
     false = false,
     IntKind.wrap IntKind.i64 (i + (1 : Int)) = i + (1 : Int)])
    (h2 : Rounds Tryz.prog (bodyOf (loopAt Tryz.f25 (2 : Nat))) m (st 160 [AV.any, AV.any, AV.any, AV.any, AV.any, AV.any, AV.any, AV.any, AV.any, AV.any, AV.any, AV.any, AV.any, AV.any, AV.any, AV.ps 3 orr, AV.any, AV.any, AV.any, AV.any, AV.any, AV.any, AV.any, AV.any, AV.any, AV.any, AV.any, AV.any, AV.any, AV.any, AV.any, AV.any, AV.any, AV.any, AV.any, AV.any, AV.any, AV.any, AV.any, AV.any, AV.any, AV.any, AV.any, AV.any, AV.any, AV.any, AV.any, AV.any, AV.any, AV.any, AV.any, AV.any, AV.any, AV.any, AV.any, AV.any, AV.any, AV.any, AV.any, AV.any, AV.any, AV.any, AV.any, AV.any, AV.any, AV.any, AV.any, AV.any, AV.any, AV.any, AV.any, AV.any, AV.any, AV.any, AV.any, AV.any, AV.any, AV.any, AV.any, AV.any, AV.any, AV.any, AV.any, AV.any, AV.any, AV.any, AV.any, AV.any, AV.any, AV.any, AV.any, AV.any, AV.any, AV.any, AV.any, AV.any, AV.any, AV.any, AV.any, AV.any, AV.any, AV.any, AV.any, AV.any, AV.any, AV.any, AV.any, AV.any, AV.any, AV.any, AV.any, AV.any, AV.any, AV.any, AV.any, AV.any, AV.any, AV.any, AV.any, AV.any, AV.any, AV.any, AV.any, AV.any, AV.any, AV.any, AV.any, AV.any, AV.any, AV.any, AV.any, AV.any, AV.any, AV.any, AV.any, AV.any, AV.any, AV.any, AV.any, AV.any, AV.any, AV.any, AV.ps 3 orr, iv (len), iv ((i + (1 : Int)))]) [] ex T2 H2) :
    Rounds Tryz.prog (bodyOf (loopAt Tryz.f25 (2 : Nat))) (m + 1) (st 160 [AV.any, AV.any, AV.any, AV.any, AV.any, AV.any, AV.any, AV.any, AV.any, AV.any, AV.any, AV.any, AV.any, AV.any, AV.any, AV.ps 3 orr, AV.any, AV.any, AV.any, AV.any, AV.any, AV.any, AV.any, AV.any, AV.any, AV.any, AV.any, AV.any, AV.any, AV.any, AV.any, AV.any, AV.any, AV.any, AV.any, AV.any, AV.any, AV.any, AV.any, AV.any, AV.any, AV.any, AV.any, AV.any, AV.any, AV.any, AV.any, AV.any, AV.any, AV.any, AV.any, AV.any, AV.any, AV.any, AV.any, AV.any, AV.any, AV.any, AV.any, AV.any, AV.any, AV.any, AV.any, AV.any, AV.any, AV.any, AV.any, AV.any, AV.any, AV.any, AV.any, AV.any, AV.any, AV.any, AV.any, AV.any, AV.any, AV.any, AV.any, AV.any, AV.any, AV.any, AV.any, AV.any, AV.any, AV.any, AV.any, AV.any, AV.any, AV.any, AV.any, AV.any, AV.any, AV.any, AV.any, AV.any, AV.any, AV.any, AV.any, AV.any, AV.any, AV.any, AV.any, AV.any, AV.any, AV.any, AV.any, AV.any, AV.any, AV.any, AV.any, AV.any, AV.any, AV.any, AV.any, AV.any, AV.any, AV.any, AV.any, AV.any, AV.any, AV.any, AV.any, AV.any, AV.any, AV.any, AV.any, AV.any, AV.any, AV.any, AV.any, AV.any, AV.any, AV.any, AV.any, AV.any, AV.any, AV.any, AV.any, AV.any, AV.any, AV.any, AV.ps 3 orr, iv (len), iv (i)]) [] ex T2 H2 :=
  Rounds.step_of fits hmix [Orc.b true, Orc.a (AV.agg [iv (t1), sv lo, sv hi]), Orc.a (iv 0), Orc.b false, Orc.b false, Orc.b false, Orc.a (iv 0), Orc.b false, Orc.b false, Orc.b false] (145 : Nat) [] (by kernel_rfl) h h2
theorem c3_end_out (orr : List (List Value)) (len : Int) (i : Int) (m : Nat) (h : AllP
    [decide (i < len) = false]) :
    Rounds Tryz.prog (bodyOf (loopAt Tryz.f25 (2 : Nat))) (m + 1) (st 160 [AV.any, AV.any, AV.any, AV.any, AV.any, AV.any, AV.any, AV.any, AV.any, AV.any, AV.any, AV.any, AV.any, AV.any, AV.any, AV.ps 3 orr, AV.any, AV.any, AV.any, AV.any, AV.any, AV.any, AV.any, AV.any, AV.any, AV.any, AV.any, AV.any, AV.any, AV.any, AV.any, AV.any, AV.any, AV.any, AV.any, AV.any, AV.any, AV.any, AV.any, AV.any, AV.any, AV.any, AV.any, AV.any, AV.any, AV.any, AV.any, AV.any, AV.any, AV.any, AV.any, AV.any, AV.any, AV.any, AV.any, AV.any, AV.any, AV.any, AV.any, AV.any, AV.any, AV.any, AV.any, AV.any, AV.any, AV.any, AV.any, AV.any, AV.any, AV.any, AV.any, AV.any, AV.any, AV.any, AV.any, AV.any, AV.any, AV.any, AV.any, AV.any, AV.any, AV.any, AV.any, AV.any, AV.any, AV.any, AV.any, AV.any, AV.any, AV.any, AV.any, AV.any, AV.any, AV.any, AV.any, AV.any, AV.any, AV.any, AV.any, AV.any, AV.any, AV.any, AV.any, AV.any, AV.any, AV.any, AV.any, AV.any, AV.any, AV.any, AV.any, AV.any, AV.any, AV.any, AV.any, AV.any, AV.any, AV.any, AV.any, AV.any, AV.any, AV.any, AV.any, AV.any, AV.any, AV.any, AV.any, AV.any, AV.any, AV.any, AV.any, AV.any, AV.any, AV.any, AV.any, AV.any, AV.any, AV.any, AV.any, AV.any, AV.any, AV.any, AV.ps 3 orr, iv (len), iv (i)]) [] (Ex.exit (4 : Nat)) (st 160 [AV.any, AV.any, AV.any, AV.any, AV.any, AV.any, AV.any, AV.any, AV.any, AV.any, AV.any, AV.any, AV.any, AV.any, AV.any, AV.ps 3 orr, AV.any, AV.any, AV.any, AV.any, AV.any, AV.any, AV.any, AV.any, AV.any, AV.any, AV.any, AV.any, AV.any, AV.any, AV.any, AV.any, AV.any, AV.any, AV.any, AV.any, AV.any, AV.any, AV.any, AV.any, AV.any, AV.any, AV.any, AV.any, AV.any, AV.any, AV.any, AV.any, AV.any, AV.any, AV.any, AV.any, AV.any, AV.any, AV.any, AV.any, AV.any, AV.any, AV.any, AV.any, AV.any, AV.any, AV.any, AV.any, AV.any, AV.any, AV.any, AV.any, AV.any, AV.any, AV.any, AV.any, AV.any, AV.any, AV.any, AV.any, AV.any, AV.any, AV.any, AV.any, AV.any, AV.any, AV.any, AV.any, AV.any, AV.any, AV.any, AV.any, AV.any, AV.any, AV.any, AV.any, AV.any, AV.any, AV.any, AV.any, AV.any, AV.any, AV.any, AV.any, AV.any, AV.any, AV.any, AV.any, AV.any, AV.any, AV.any, AV.any, AV.any, AV.any, AV.any, AV.any, AV.any, AV.any, AV.any, AV.any, AV.any, AV.any, AV.any, AV.any, AV.any, AV.any, AV.any, AV.any, AV.any, AV.any, AV.any, AV.any, AV.any, AV.any, AV.any, AV.any, AV.any, AV.any, AV.any, AV.any, AV.any, AV.any, AV.any, AV.any, AV.any, AV.any, AV.ps 3 orr, iv (len), iv (i)]) [] :=
  Rounds.out_of fits hmix [Orc.b false] (145 : Nat) [] m (by simp) (by kernel_rfl) h
theorem so_ins0_ok (_l : Int) (h : AllP
    [IntKind.wrap IntKind.i64 ((0 : Int) + (1 : Int)) = (0 : Int) + (1 : Int),
     false = false]) :
    CallsTo Tryz.prog 143 [AV.v (Value.slice none 0 0), iv 0, iv 0, AV.fn (14 : Nat) []] (AV.tup []) :=
  fn_ok fits hmix Tryz.func143 (by kernel_rfl)
    [Orc.u (1 : Nat), Orc.b false] (by kernel_rfl) h
theorem so_pdq0_ok (l : Int) (h : AllP
    [IntKind.wrap IntKind.i64 ((0 : Int) - (0 : Int)) = (0 : Int) - (0 : Int),
     true = true,
     CallsTo Tryz.prog (143 : Nat) [AV.v (Value.slice none 0 0), iv 0, iv 0, AV.fn (14 : Nat) []] (AV.tup [])]) :
    CallsTo Tryz.prog 117 [AV.v (Value.slice none 0 0), iv 0, iv 0, iv (l), AV.fn (14 : Nat) []] (AV.tup []) :=
  fn_ok fits hmix Tryz.func117 (by kernel_rfl)
    [Orc.u (1 : Nat), Orc.b true, Orc.a (AV.tup [])] (by kernel_rfl) h
theorem so_sort0_ok (l : Int) (h : AllP
    [IntKind.wrap IntKind.u64 (↑(0 : Nat) : Int) = (↑(0 : Nat) : Int),
     CallsTo Tryz.prog (118 : Nat) [uv ((↑(0 : Nat) : Int))] (iv (l)),
     CallsTo Tryz.prog (117 : Nat) [AV.v (Value.slice none 0 0), iv 0, iv ((↑(0 : Nat) : Int)), iv (l), AV.fn (14 : Nat) []] (AV.tup [])]) :
    CallsTo Tryz.prog 70 [AV.v (Value.slice none 0 0), AV.fn (14 : Nat) []] (AV.tup []) :=
  fn_ok fits hmix Tryz.func70 (by kernel_rfl)
    [Orc.a (iv (l)), Orc.a (AV.tup [])] (by kernel_rfl) h
theorem cp_nil_ok (_l : Int) (h : AllP
    [true = true]) :
    CallsTo Tryz.prog 71 [AV.v (Value.slice none 0 0)] (AV.v (Value.slice none 0 0)) :=
  fn_ok fits hmix Tryz.func71 (by kernel_rfl)
    [Orc.b true] (by kernel_rfl) h
theorem al_some_ok (ps : List (List Value)) (ts : List (List Value)) (a : List UInt8) (a' : List UInt8) (b : List UInt8) (b' : List UInt8) (q : Bool) (sp : List AV) (xs : List AV) (ys : List AV) (zs : List AV) (orr : List (List Value)) (h : AllP
    [CallsTo Tryz.prog (22 : Nat) [AV.agg [AV.ps 2 ps, AV.ps 3 ts]] (iv 0),
     false = false,
     CallsTo Tryz.prog (56 : Nat) [AV.agg [sv a, strv ((bstr (a')))]] (iv 0),
     false = false,
     false = false,
     CallsTo Tryz.prog (56 : Nat) [AV.agg [sv b, strv ((bstr (b')))]] (iv 0),
     false = false,
     false = false,
     false = false,
     PureOp Tryz.prog { dst := some (36 : Nat), op := Op.binOp BinOp.eql (24 : Nat) (Operand.tmp (34 : Nat)) (Operand.tmp (35 : Nat)) (24 : Nat), type := nat_lit 4, pos := "mesh.go:409", after := { toList := [{ on := nat_lit 0, ground := Ground.data }, { on := nat_lit 1, ground := Ground.data }] }, guard := none } [AV.agg [AV.ps 2 ps, AV.ps 3 ts], AV.agg [sv a, strv ((bstr (a')))], AV.agg [sv b, strv ((bstr (b')))], AV.op 0 0, AV.op 1 0, AV.op 2 0, AV.v (Value.slice none 0 0), iv 0, iv 0, uu, uu, uu, uu, uu, uu, uu, uu, uu, uu, uu, uu, AV.agg [AV.ps 2 ps, AV.ps 3 ts], iv 0, iv 0, bv (false), uu, AV.agg [sv a, strv ((bstr (a')))], iv 0, bv (false), bv (false), AV.agg [sv b, strv ((bstr (b')))], iv 0, bv (false), bv (false), AV.agg [sv a, strv ((bstr (a')))], AV.agg [sv b, strv ((bstr (b')))], uu, uu, uu, uu, uu, uu, uu, uu, uu, uu, uu, uu, uu, uu, uu, uu, uu, uu, uu, uu, uu, uu, uu, uu, uu, uu, uu, uu, uu, uu, uu, uu, uu, uu, uu, uu, uu, uu, uu, uu, uu, uu, uu, uu, uu, uu, uu, uu, uu, uu, uu, uu, uu, uu, uu, uu, uu, uu, uu, uu, uu, uu, uu, uu, uu, uu, uu, uu, uu, uu, uu, uu, uu, uu, uu, uu, uu, uu, uu, uu, uu, uu, uu, uu, uu, uu, uu, uu, uu, uu, uu, uu, uu, uu, uu, uu, uu, uu, uu, uu, uu, uu, uu, uu, uu, uu, uu, uu, uu, uu, uu, uu, uu, uu, uu, uu, uu, uu, uu, uu, uu, uu, uu, uu] (bv (q)),
     q = false,
     Goes Tryz.prog (loopAt Tryz.f25 (0 : Nat)) (st 160 [AV.agg [AV.ps 2 ps, AV.ps 3 ts], AV.agg [sv a, strv ((bstr (a')))], AV.agg [sv b, strv ((bstr (b')))], AV.op 0 0, AV.op 1 0, AV.op 2 0, AV.v (Value.slice none 0 0), iv 0, iv 0, AV.v (Value.slice none 0 0), AV.op 3 0, uu, uu, uu, uu, uu, uu, uu, uu, uu, uu, AV.agg [AV.ps 2 ps, AV.ps 3 ts], iv 0, iv 0, bv (false), uu, AV.agg [sv a, strv ((bstr (a')))], iv 0, bv (false), bv (false), AV.agg [sv b, strv ((bstr (b')))], iv 0, bv (false), bv (false), AV.agg [sv a, strv ((bstr (a')))], AV.agg [sv b, strv ((bstr (b')))], bv (q), AV.op 0 1, AV.ps 3 ts, iv ((↑(List.length (List.map rowAV ts)) : Int)), iv 0]) [some (AObj.box false 34 [AV.ps 2 ps, AV.ps 3 ts]), some (AObj.box false 24 [sv a, strv ((bstr (a')))]), some (AObj.box false 24 [sv b, strv ((bstr (b')))]), some (AObj.box false 27 [AV.v (Value.slice none 0 0)])] (Ex.exit (0 : Nat)) (st 160 [AV.any, AV.any, AV.any, AV.op 0 0, AV.op 1 0, AV.op 2 0, AV.any, AV.any, AV.any, AV.own 4, AV.op 3 0, AV.any, AV.any, AV.any, AV.any, AV.any, AV.any, AV.any, AV.any, AV.any, AV.any, AV.any, AV.any, AV.any, AV.any, AV.any, AV.any, AV.any, AV.any, AV.any, AV.any, AV.any, AV.any, AV.any, AV.any, AV.any, AV.any, AV.any, AV.ps 3 ts, iv ((↑(List.length ts) : Int)), iv ((↑(List.length ts) : Int))]) [some (AObj.box false 34 [AV.ps 2 ps, AV.ps 3 ts]), some (AObj.box false 24 [sv a, strv ((bstr (a')))]), some (AObj.box false 24 [sv b, strv ((bstr (b')))]), some (AObj.box false 27 [AV.own 5]), some (AObj.row false 60 3 sp), some (AObj.row false 22 1 xs)],
     Inl Tryz.prog (70 : Nat) [AV.own 5, AV.fn (14 : Nat) []] [some (AObj.box false 34 [AV.ps 2 ps, AV.ps 3 ts]), some (AObj.box false 24 [sv a, strv ((bstr (a')))]), some (AObj.box false 24 [sv b, strv ((bstr (b')))]), some (AObj.box false 27 [AV.own 5]), some (AObj.row false 60 3 sp), some (AObj.row false 22 1 xs)] [some (AObj.box false 34 [AV.ps 2 ps, AV.ps 3 ts]), some (AObj.box false 24 [sv a, strv ((bstr (a')))]), some (AObj.box false 24 [sv b, strv ((bstr (b')))]), some (AObj.box false 27 [AV.own 5]), some (AObj.row false 60 3 sp), some (AObj.row false 22 1 ys), none, none, none] (AV.tup []),
     Inl Tryz.prog (71 : Nat) [AV.own 5] [some (AObj.box false 34 [AV.ps 2 ps, AV.ps 3 ts]), some (AObj.box false 24 [sv a, strv ((bstr (a')))]), some (AObj.box false 24 [sv b, strv ((bstr (b')))]), some (AObj.box false 27 [AV.own 5]), some (AObj.row false 60 3 sp), some (AObj.row false 22 1 ys), none, none, none] [some (AObj.box false 34 [AV.ps 2 ps, AV.ps 3 ts]), some (AObj.box false 24 [sv a, strv ((bstr (a')))]), some (AObj.box false 24 [sv b, strv ((bstr (b')))]), some (AObj.box false 27 [AV.own 5]), some (AObj.row false 60 3 sp), none, none, none, none, none, some (AObj.row false 22 1 zs)] (AV.own 10),
     Goes Tryz.prog (loopAt Tryz.f25 (1 : Nat)) (st 160 [AV.any, AV.any, AV.any, AV.op 0 0, AV.op 1 0, AV.op 2 0, AV.any, AV.any, AV.any, AV.own 4, AV.op 3 0, AV.any, AV.any, AV.any, AV.any, AV.v (Value.slice none 0 0), AV.op 11 0]) [some (AObj.box false 34 [AV.ps 2 ps, AV.ps 3 ts]), some (AObj.box false 24 [sv a, strv ((bstr (a')))]), some (AObj.box false 24 [sv b, strv ((bstr (b')))]), some (AObj.box false 27 [AV.own 10]), some (AObj.row false 60 3 sp), none, none, none, none, none, some (AObj.row false 22 1 zs), some (AObj.box false 3 [iv 1])] (Ex.exit (2 : Nat)) (st 160 [AV.any, AV.any, AV.any, AV.any, AV.any, AV.any, AV.any, AV.any, AV.any, AV.any, AV.any, AV.any, AV.any, AV.any, AV.any, AV.ps 3 orr]) [],
     Goes Tryz.prog (loopAt Tryz.f25 (2 : Nat)) (st 160 [AV.any, AV.any, AV.any, AV.any, AV.any, AV.any, AV.any, AV.any, AV.any, AV.any, AV.any, AV.any, AV.any, AV.any, AV.any, AV.ps 3 orr, AV.any, AV.any, AV.any, AV.any, AV.any, AV.any, AV.any, AV.any, AV.any, AV.any, AV.any, AV.any, AV.any, AV.any, AV.any, AV.any, AV.any, AV.any, AV.any, AV.any, AV.any, AV.any, AV.any, AV.any, AV.any, AV.any, AV.any, AV.any, AV.any, AV.any, AV.any, AV.any, AV.any, AV.any, AV.any, AV.any, AV.any, AV.any, AV.any, AV.any, AV.any, AV.any, AV.any, AV.any, AV.any, AV.any, AV.any, AV.any, AV.any, AV.any, AV.any, AV.any, AV.any, AV.any, AV.any, AV.any, AV.any, AV.any, AV.any, AV.any, AV.any, AV.any, AV.any, AV.any, AV.any, AV.any, AV.any, AV.any, AV.any, AV.any, AV.any, AV.any, AV.any, AV.any, AV.any, AV.any, AV.any, AV.any, AV.any, AV.any, AV.any, AV.any, AV.any, AV.any, AV.any, AV.any, AV.any, AV.any, AV.any, AV.any, AV.any, AV.any, AV.any, AV.any, AV.any, AV.any, AV.any, AV.any, AV.any, AV.any, AV.any, AV.any, AV.any, AV.any, AV.any, AV.any, AV.any, AV.any, AV.any, AV.any, AV.any, AV.any, AV.any, AV.any, AV.any, AV.any, AV.any, AV.any, AV.any, AV.any, AV.any, AV.any, AV.any, AV.any, AV.any, AV.any, AV.ps 3 orr, iv ((↑(List.length (List.map rowAV orr)) : Int)), iv 0]) [] (Ex.exit (4 : Nat)) (st 160 [AV.any, AV.any, AV.any, AV.any, AV.any, AV.any, AV.any, AV.any, AV.any, AV.any, AV.any, AV.any, AV.any, AV.any, AV.any, AV.ps 3 orr]) []]) :
    CallsTo Tryz.prog 25 [AV.agg [AV.ps 2 ps, AV.ps 3 ts], AV.agg [sv a, strv ((bstr (a')))], AV.agg [sv b, strv ((bstr (b')))]] (AV.tup [AV.ps 3 orr, iv 0]) :=
  fn_ok fits hmix Tryz.func25 (by kernel_rfl)
    [Orc.a (iv 0), Orc.b false, Orc.a (iv 0), Orc.b false, Orc.b false, Orc.a (iv 0), Orc.b false, Orc.b false, Orc.b false, Orc.x (bv (q)), Orc.b false, .s (41 : Nat) (Ex.exit (0 : Nat)) (st 160 [AV.any, AV.any, AV.any, AV.op 0 0, AV.op 1 0, AV.op 2 0, AV.any, AV.any, AV.any, AV.own 4, AV.op 3 0, AV.any, AV.any, AV.any, AV.any, AV.any, AV.any, AV.any, AV.any, AV.any, AV.any, AV.any, AV.any, AV.any, AV.any, AV.any, AV.any, AV.any, AV.any, AV.any, AV.any, AV.any, AV.any, AV.any, AV.any, AV.any, AV.any, AV.any, AV.ps 3 ts, iv ((↑(List.length ts) : Int)), iv ((↑(List.length ts) : Int))]) [some (AObj.box false 34 [AV.ps 2 ps, AV.ps 3 ts]), some (AObj.box false 24 [sv a, strv ((bstr (a')))]), some (AObj.box false 24 [sv b, strv ((bstr (b')))]), some (AObj.box false 27 [AV.own 5]), some (AObj.row false 60 3 sp), some (AObj.row false 22 1 xs)], Orc.i [some (AObj.box false 34 [AV.ps 2 ps, AV.ps 3 ts]), some (AObj.box false 24 [sv a, strv ((bstr (a')))]), some (AObj.box false 24 [sv b, strv ((bstr (b')))]), some (AObj.box false 27 [AV.own 5]), some (AObj.row false 60 3 sp), some (AObj.row false 22 1 ys), none, none, none] (AV.tup []), Orc.i [some (AObj.box false 34 [AV.ps 2 ps, AV.ps 3 ts]), some (AObj.box false 24 [sv a, strv ((bstr (a')))]), some (AObj.box false 24 [sv b, strv ((bstr (b')))]), some (AObj.box false 27 [AV.own 5]), some (AObj.row false 60 3 sp), none, none, none, none, none, some (AObj.row false 22 1 zs)] (AV.own 10), .s (17 : Nat) (Ex.exit (2 : Nat)) (st 160 [AV.any, AV.any, AV.any, AV.any, AV.any, AV.any, AV.any, AV.any, AV.any, AV.any, AV.any, AV.any, AV.any, AV.any, AV.any, AV.ps 3 orr]) [], .s (145 : Nat) (Ex.exit (4 : Nat)) (st 160 [AV.any, AV.any, AV.any, AV.any, AV.any, AV.any, AV.any, AV.any, AV.any, AV.any, AV.any, AV.any, AV.any, AV.any, AV.any, AV.ps 3 orr]) []] (by kernel_rfl) h
theorem al_none_ok (ps : List (List Value)) (ts : List (List Value)) (a : List UInt8) (a' : List UInt8) (b : List UInt8) (b' : List UInt8) (q : Bool) (h : AllP
    [CallsTo Tryz.prog (22 : Nat) [AV.agg [AV.ps 2 ps, AV.ps 3 ts]] (iv 0),
     false = false,
     CallsTo Tryz.prog (56 : Nat) [AV.agg [sv a, strv ((bstr (a')))]] (iv 0),
     false = false,
     false = false,
     CallsTo Tryz.prog (56 : Nat) [AV.agg [sv b, strv ((bstr (b')))]] (iv 0),
     false = false,
     false = false,
     false = false,
     PureOp Tryz.prog { dst := some (36 : Nat), op := Op.binOp BinOp.eql (24 : Nat) (Operand.tmp (34 : Nat)) (Operand.tmp (35 : Nat)) (24 : Nat), type := nat_lit 4, pos := "mesh.go:409", after := { toList := [{ on := nat_lit 0, ground := Ground.data }, { on := nat_lit 1, ground := Ground.data }] }, guard := none } [AV.agg [AV.ps 2 ps, AV.ps 3 ts], AV.agg [sv a, strv ((bstr (a')))], AV.agg [sv b, strv ((bstr (b')))], AV.op 0 0, AV.op 1 0, AV.op 2 0, AV.v (Value.slice none 0 0), iv 0, iv 0, uu, uu, uu, uu, uu, uu, uu, uu, uu, uu, uu, uu, AV.agg [AV.ps 2 ps, AV.ps 3 ts], iv 0, iv 0, bv (false), uu, AV.agg [sv a, strv ((bstr (a')))], iv 0, bv (false), bv (false), AV.agg [sv b, strv ((bstr (b')))], iv 0, bv (false), bv (false), AV.agg [sv a, strv ((bstr (a')))], AV.agg [sv b, strv ((bstr (b')))], uu, uu, uu, uu, uu, uu, uu, uu, uu, uu, uu, uu, uu, uu, uu, uu, uu, uu, uu, uu, uu, uu, uu, uu, uu, uu, uu, uu, uu, uu, uu, uu, uu, uu, uu, uu, uu, uu, uu, uu, uu, uu, uu, uu, uu, uu, uu, uu, uu, uu, uu, uu, uu, uu, uu, uu, uu, uu, uu, uu, uu, uu, uu, uu, uu, uu, uu, uu, uu, uu, uu, uu, uu, uu, uu, uu, uu, uu, uu, uu, uu, uu, uu, uu, uu, uu, uu, uu, uu, uu, uu, uu, uu, uu, uu, uu, uu, uu, uu, uu, uu, uu, uu, uu, uu, uu, uu, uu, uu, uu, uu, uu, uu, uu, uu, uu, uu, uu, uu, uu, uu, uu, uu, uu] (bv (q)),
     q = false,
     Goes Tryz.prog (loopAt Tryz.f25 (0 : Nat)) (st 160 [AV.agg [AV.ps 2 ps, AV.ps 3 ts], AV.agg [sv a, strv ((bstr (a')))], AV.agg [sv b, strv ((bstr (b')))], AV.op 0 0, AV.op 1 0, AV.op 2 0, AV.v (Value.slice none 0 0), iv 0, iv 0, AV.v (Value.slice none 0 0), AV.op 3 0, uu, uu, uu, uu, uu, uu, uu, uu, uu, uu, AV.agg [AV.ps 2 ps, AV.ps 3 ts], iv 0, iv 0, bv (false), uu, AV.agg [sv a, strv ((bstr (a')))], iv 0, bv (false), bv (false), AV.agg [sv b, strv ((bstr (b')))], iv 0, bv (false), bv (false), AV.agg [sv a, strv ((bstr (a')))], AV.agg [sv b, strv ((bstr (b')))], bv (q), AV.op 0 1, AV.ps 3 ts, iv ((↑(List.length (List.map rowAV ts)) : Int)), iv 0]) [some (AObj.box false 34 [AV.ps 2 ps, AV.ps 3 ts]), some (AObj.box false 24 [sv a, strv ((bstr (a')))]), some (AObj.box false 24 [sv b, strv ((bstr (b')))]), some (AObj.box false 27 [AV.v (Value.slice none 0 0)])] (Ex.exit (0 : Nat)) (st 160 [AV.any, AV.any, AV.any, AV.op 0 0, AV.op 1 0, AV.op 2 0, AV.any, AV.any, AV.any, AV.v (Value.slice none 0 0), AV.op 3 0, AV.any, AV.any, AV.any, AV.any, AV.any, AV.any, AV.any, AV.any, AV.any, AV.any, AV.any, AV.any, AV.any, AV.any, AV.any, AV.any, AV.any, AV.any, AV.any, AV.any, AV.any, AV.any, AV.any, AV.any, AV.any, AV.any, AV.any, AV.ps 3 ts, iv ((↑(List.length ts) : Int)), iv ((↑(List.length ts) : Int))]) [some (AObj.box false 34 [AV.ps 2 ps, AV.ps 3 ts]), some (AObj.box false 24 [sv a, strv ((bstr (a')))]), some (AObj.box false 24 [sv b, strv ((bstr (b')))]), some (AObj.box false 27 [AV.v (Value.slice none 0 0)])],
     CallsTo Tryz.prog (70 : Nat) [AV.v (Value.slice none 0 0), AV.fn (14 : Nat) []] (AV.tup []),
     CallsTo Tryz.prog (71 : Nat) [AV.v (Value.slice none 0 0)] (AV.v (Value.slice none 0 0)),
     false = false,
     false = false]) :
    CallsTo Tryz.prog 25 [AV.agg [AV.ps 2 ps, AV.ps 3 ts], AV.agg [sv a, strv ((bstr (a')))], AV.agg [sv b, strv ((bstr (b')))]] (AV.tup [AV.v (Value.slice none 0 0), iv 0]) :=
  fn_ok fits hmix Tryz.func25 (by kernel_rfl)
    [Orc.a (iv 0), Orc.b false, Orc.a (iv 0), Orc.b false, Orc.b false, Orc.a (iv 0), Orc.b false, Orc.b false, Orc.b false, Orc.x (bv (q)), Orc.b false, .s (41 : Nat) (Ex.exit (0 : Nat)) (st 160 [AV.any, AV.any, AV.any, AV.op 0 0, AV.op 1 0, AV.op 2 0, AV.any, AV.any, AV.any, AV.v (Value.slice none 0 0), AV.op 3 0, AV.any, AV.any, AV.any, AV.any, AV.any, AV.any, AV.any, AV.any, AV.any, AV.any, AV.any, AV.any, AV.any, AV.any, AV.any, AV.any, AV.any, AV.any, AV.any, AV.any, AV.any, AV.any, AV.any, AV.any, AV.any, AV.any, AV.any, AV.ps 3 ts, iv ((↑(List.length ts) : Int)), iv ((↑(List.length ts) : Int))]) [some (AObj.box false 34 [AV.ps 2 ps, AV.ps 3 ts]), some (AObj.box false 24 [sv a, strv ((bstr (a')))]), some (AObj.box false 24 [sv b, strv ((bstr (b')))]), some (AObj.box false 27 [AV.v (Value.slice none 0 0)])], Orc.a (AV.tup []), Orc.a (AV.v (Value.slice none 0 0)), Orc.u (1 : Nat), Orc.b false, Orc.u (1 : Nat), Orc.b false] (by kernel_rfl) h
theorem ix_some_ok (sr : List (List Value)) (us : List Value) (j : Int) (k : Int) (h : AllP
    [Goes Tryz.prog (loopAt Tryz.f72 (0 : Nat)) (st 19 [AV.ps 3 sr, AV.fn (73 : Nat) [AV.lp [AV.ls us], AV.lp [iv (j)]], uu, uu, iv 0, uu, AV.ps 3 sr, iv ((↑(List.length (List.map rowAV sr)) : Int)), iv 0]) [] (Ex.ret) (st 19 [AV.any, AV.any, AV.any, AV.any, iv (k)]) []]) :
    CallsTo Tryz.prog 72 [AV.ps 3 sr, AV.fn (73 : Nat) [AV.lp [AV.ls us], AV.lp [iv (j)]]] (iv (k)) :=
  fn_ok fits hmix Tryz.func72 (by kernel_rfl)
    [.s (9 : Nat) (Ex.ret) (st 19 [AV.any, AV.any, AV.any, AV.any, iv (k)]) []] (by kernel_rfl) h
theorem ix_none_ok (sr : List (List Value)) (us : List Value) (j : Int) (h : AllP
    [Goes Tryz.prog (loopAt Tryz.f72 (0 : Nat)) (st 19 [AV.ps 3 sr, AV.fn (73 : Nat) [AV.lp [AV.ls us], AV.lp [iv (j)]], uu, uu, iv 0, uu, AV.ps 3 sr, iv ((↑(List.length (List.map rowAV sr)) : Int)), iv 0]) [] (Ex.exit (0 : Nat)) (st 19 []) []]) :
    CallsTo Tryz.prog 72 [AV.ps 3 sr, AV.fn (73 : Nat) [AV.lp [AV.ls us], AV.lp [iv (j)]]] (iv ((-1 : Int))) :=
  fn_ok fits hmix Tryz.func72 (by kernel_rfl)
    [.s (9 : Nat) (Ex.exit (0 : Nat)) (st 19 []) []] (by kernel_rfl) h
end Go.Flow.Tryz
namespace Go.Flow.Tryz
open Go Go.Proofs Go.RowKit Go.Flow
set_option maxRecDepth 100000
variable {pts : List Pt} {tris : List Tri} {c0 : Int} {rest : List Int}
def covers (e0 e1 : Rat) (s : Sp) : Bool := decide (s.2.1 ≤ e0) && decide (e1 ≤ s.2.2)
def firstC (p : Sp → Bool) (l : List Sp) : Nat → Nat → Option Nat
  | 0, _ => none
  | m + 1, i => if p (l.getD i (0, 0, 0)) then some i else firstC p l m (i + 1)
def outStep (sp : List Sp) (e0 e1 : Rat) (out : List Sp) : List Sp :=
  match firstC (covers e0 e1) sp sp.length 0 with
  | none => out
  | some k => match out.getLast? with
    | some s => if s.1 = (sp.getD k (0, 0, 0)).1 ∧ s.2.2 = e0 then out.dropLast ++ [(s.1, s.2.1, e1)] else out ++ [((sp.getD k (0, 0, 0)).1, e0, e1)]
    | none => [((sp.getD k (0, 0, 0)).1, e0, e1)]
def outQ (sp : List Sp) (es : List Rat) : Nat → List Sp
  | 0 => []
  | n + 1 => outStep sp (es.getD n 0) (es.getD (n + 1) 0) (outQ sp es n)
abbrev esV (es : List Rat) : List Value := es.map fun x => Value.string (bstr (qT x))
theorem esV_at {es : List Rat} {i : Nat} (h : i < es.length) : (((esV es).map AV.v)[i]?) = some (qv (es.getD i 0)) := by
  simp [List.getD, List.getElem?_eq_getElem h]
theorem spR_at {sp : List Sp} {k : Nat} (h : k < sp.length) : (((sp.map spR).map rowAV)[k]?) = some (spA (sp.getD k (0, 0, 0))) := by
  simp only [List.getElem?_map, List.getElem?_eq_getElem h, Option.map_some, List.getD, Option.getD_some]
  rfl
theorem covers_ok (es : List Rat) (s : Sp) (n : Nat) (hn : n + 1 < es.length) (hl : es.length < 1000) (he : ∀ x ∈ es, Sm x) (hs : Sm s.2.1 ∧ Sm s.2.2) :
    CallsTo Tryz.prog 73 [spA s, .lp [.ls (esV es)], .lp [iv ((n : Int) + 1)]] (bv (covers (es.getD n 0) (es.getD (n + 1) 0) s)) := by
  have g : ∀ k, k < es.length → Sm (es.getD k 0) := fun k hk => by
    simp only [List.getD, List.getElem?_eq_getElem hk, Option.getD_some]
    exact he _ (List.getElem_mem hk)
  have w1 : IntKind.i64.wrap ((n : Int) + 1 - 1) = (n : Int) + 1 - 1 := by rw [w64]; omega
  have t0 : Int.toNat ((n : Int) + 1 - 1) = n := by omega
  have t1 : Int.toNat ((n : Int) + 1) = n + 1 := by omega
  have a0 : 0 ≤ (n : Int) + 1 - 1 ∧ (((esV es).map AV.v)[Int.toNat ((n : Int) + 1 - 1)]?) = some (qv (es.getD n 0)) := ⟨by omega, by rw [t0]; exact esV_at (by omega)⟩
  have a1 : 0 ≤ (n : Int) + 1 ∧ (((esV es).map AV.v)[Int.toNat ((n : Int) + 1)]?) = some (qv (es.getD (n + 1) 0)) := ⟨by omega, by rw [t1]; exact esV_at hn⟩
  have c1 := qcmp hs.1 (g n (by omega))
  have c2 := qcmp (g (n + 1) hn) hs.2
  have d1 : decide (cmpQ s.2.1 (es.getD n 0) ≤ 0) = decide (s.2.1 ≤ es.getD n 0) := decide_eq_decide.2 (cmpQ_le s.2.1 (es.getD n 0))
  have d2 : decide (cmpQ (es.getD (n + 1) 0) s.2.2 ≤ 0) = decide (es.getD (n + 1) 0 ≤ s.2.2) := decide_eq_decide.2 (cmpQ_le (es.getD (n + 1) 0) s.2.2)
  unfold covers
  by_cases h : s.2.1 ≤ es.getD n 0
  · rw [decide_eq_true h] at d1 ⊢
    rw [Bool.true_and, ← d2]
    refine a1_t_ok (esV es) ((n : Int) + 1) s.1 (cmpQ s.2.1 (es.getD n 0)) (cmpQ (es.getD (n + 1) 0) s.2.2) (qT s.2.1) (qT s.2.2) (qT (es.getD n 0)) (qT (es.getD (n + 1) 0)) ?_
    repeat' first | exact AllP.nil | refine AllP.cons ?_ ?_
    all_goals first | exact w1 | exact a0 | exact c1 | exact d1 | exact a1 | exact c2
  · rw [decide_eq_false h] at d1 ⊢
    rw [Bool.false_and]
    refine a1_f_ok (esV es) ((n : Int) + 1) s.1 (cmpQ s.2.1 (es.getD n 0)) (qT s.2.1) (qT s.2.2) (qT (es.getD n 0)) ?_
    repeat' first | exact AllP.nil | refine AllP.cons ?_ ?_
    all_goals first | exact w1 | exact a0 | exact c1 | exact d1
abbrev ixT (sr : List (List Value)) (us : List Value) (j len i : Int) : List AV := st 19 [.ps 3 sr, .fn 73 [.lp [.ls us], .lp [iv j]], .any, .any, .any, .any, .ps 3 sr, iv len, iv i]
abbrev ixM : List Bool := [true, true, false, false, false, false, true, true, true]
def ixV : Option Nat → Int
  | some k => k
  | none => -1
theorem ixV_at (k : Nat) : k = Int.toNat (ixV (some k)) := (Int.toNat_natCast k).symm
theorem index_ok (sp : List Sp) (es : List Rat) (n : Nat) (hn : n + 1 < es.length) (hl : es.length < 1000) (hsl : sp.length < 1000) (he : ∀ x ∈ es, Sm x) (hs : ∀ s ∈ sp, Sm s.2.1 ∧ Sm s.2.2) :
    CallsTo Tryz.prog 72 [.ps 3 (sp.map spR), .fn 73 [.lp [.ls (esV es)], .lp [iv ((n : Int) + 1)]]] (iv (ixV (firstC (covers (es.getD n 0) (es.getD (n + 1) 0)) sp sp.length 0))) := by
  have hloop : loopAt Tryz.f72 0 = .loop (bodyOf (loopAt Tryz.f72 0)) := by kernel_rfl
  have hl2 : (((sp.map spR).map rowAV).length : Int) = sp.length := by simp
  have key : ∀ (m i : Nat), i + m = sp.length → ∃ ex T', (match firstC (covers (es.getD n 0) (es.getD (n + 1) 0)) sp m i with
        | some k => ex = .ret ∧ T' = st 19 [.any, .any, .any, .any, iv (k : Int)]
        | none => ex = .exit 0 ∧ T' = st 19 [.any, .any, .any, .any]) ∧
      Rounds Tryz.prog (bodyOf (loopAt Tryz.f72 0)) (m + 1) (ixT (sp.map spR) (esV es) ((n : Int) + 1) sp.length i) [] ex T' [] := by
    intro m
    induction m with
    | zero =>
      intro i hi
      refine ⟨.exit 0, _, ⟨rfl, rfl⟩, ?_⟩
      exact Rounds.to (ix_end_out _ _ _ _ _ 0 ⟨decide_eq_false (by omega), trivial⟩) (same_cast (Same.mask []) (T1 := st 19 [.any, .any, .any, .any]) (by kernel_rfl) rfl)
    | succ m ih =>
      intro i hi
      have hil : i < sp.length := by omega
      have hlt : decide ((i : Int) < sp.length) = true := decide_eq_true (by omega)
      have w1 : IntKind.i64.wrap ((i : Int) + 1) = (i : Int) + 1 := by rw [w64]; omega
      have hsi : Sm (sp.getD i (0, 0, 0)).2.1 ∧ Sm (sp.getD i (0, 0, 0)).2.2 := by
        simp only [List.getD, List.getElem?_eq_getElem hil, Option.getD_some]
        exact hs _ (List.getElem_mem hil)
      have hc := covers_ok es (sp.getD i (0, 0, 0)) n hn hl he hsi
      have hg : 0 ≤ (i : Int) ∧ (((sp.map spR).map rowAV)[Int.toNat (i : Int)]?) = some (spA (sp.getD i (0, 0, 0))) := ⟨by omega, by rw [Int.toNat_natCast]; exact spR_at hil⟩
      simp only [firstC]
      cases hb : covers (es.getD n 0) (es.getD (n + 1) 0) (sp.getD i (0, 0, 0)) with
      | true =>
        rw [hb] at hc
        simp only [if_true]
        refine ⟨.ret, _, ⟨rfl, rfl⟩, Rounds.to (ix_yes_out (sp.map spR) (esV es) ((n : Int) + 1) sp.length i (sp.getD i (0, 0, 0)).1 (qT (sp.getD i (0, 0, 0)).2.1) (qT (sp.getD i (0, 0, 0)).2.2) _ ?_) (same_cast (Same.mask [false, false, false, false, true]) (T1 := st 19 [.any, .any, .any, .any, iv (i : Int)]) (by kernel_rfl) rfl)⟩
        repeat' first | exact AllP.nil | refine AllP.cons ?_ ?_
        all_goals first | exact hlt | exact hg | exact hc | rfl
      | false =>
        rw [hb] at hc
        simp only [Bool.false_eq_true, if_false]
        obtain ⟨ex, T', h1, h2⟩ := ih (i + 1) (by omega)
        rw [show ((i + 1 : Nat) : Int) = (i : Int) + 1 by push_cast; rfl] at h2
        refine ⟨ex, T', h1, ix_no_step (sp.map spR) (esV es) ((n : Int) + 1) sp.length i (sp.getD i (0, 0, 0)).1 (qT (sp.getD i (0, 0, 0)).2.1) (qT (sp.getD i (0, 0, 0)).2.2) _ ?_ (Rounds.same (same_cast (Same.mask ixM) (T1 := ixT (sp.map spR) (esV es) ((n : Int) + 1) sp.length ((i : Int) + 1)) (by kernel_rfl) rfl) h2)⟩
        repeat' first | exact AllP.nil | refine AllP.cons ?_ ?_
        all_goals first | exact hlt | exact hg | exact hc | exact w1 | rfl
  obtain ⟨ex, T', h1, h2⟩ := key sp.length 0 (by omega)
  have hg := Goes.loop h2
  rw [← hloop] at hg
  have hg' := (same_cast (Same.mask ixM) (T := st 19 [.ps 3 (sp.map spR), .fn 73 [.lp [.ls (esV es)], .lp [iv ((n : Int) + 1)]], uu, uu, iv 0, uu, .ps 3 (sp.map spR), iv (((sp.map spR).map rowAV).length : Int), iv 0]) (H := []) (T1 := ixT (sp.map spR) (esV es) ((n : Int) + 1) (((sp.map spR).map rowAV).length : Int) 0) (by kernel_rfl) rfl).goes (by rw [hl2]; exact hg)
  cases hf : firstC (covers (es.getD n 0) (es.getD (n + 1) 0)) sp sp.length 0 with
  | some k =>
    rw [hf] at h1
    obtain ⟨rfl, rfl⟩ := h1
    exact ix_some_ok (sp.map spR) (esV es) ((n : Int) + 1) k ⟨hg', trivial⟩
  | none =>
    rw [hf] at h1
    obtain ⟨rfl, rfl⟩ := h1
    exact ix_none_ok (sp.map spR) (esV es) ((n : Int) + 1) ⟨hg', trivial⟩
theorem firstC_lt (p : Sp → Bool) (l : List Sp) : ∀ (m i : Nat) (k : Nat), firstC p l m i = some k → i + m = l.length → k < l.length
  | 0, _, _, h, _ => by simp [firstC] at h
  | m + 1, i, k, h, hl => by
    simp only [firstC] at h
    split at h
    · cases h; omega
    · exact firstC_lt p l m (i + 1) k h (by omega)
theorem outStep_length (sp : List Sp) (e0 e1 : Rat) (out : List Sp) : (outStep sp e0 e1 out).length ≤ out.length + 1 := by
  unfold outStep
  split
  · omega
  · split
    · split
      · simp only [List.length_append, List.length_dropLast, List.length_singleton]; omega
      · simp
    · simp
theorem outQ_length (sp : List Sp) (es : List Rat) : ∀ n, (outQ sp es n).length ≤ n
  | 0 => Nat.le_refl _
  | n + 1 => by
    have h1 := outQ_length sp es n
    have h2 := outStep_length sp (es.getD n 0) (es.getD (n + 1) 0) (outQ sp es n)
    simp only [outQ]
    omega
theorem outQ_sm (sp : List Sp) (es : List Rat) (he : ∀ x ∈ es, Sm x) : ∀ n, n < es.length → ∀ s ∈ outQ sp es n, Sm s.2.1 ∧ Sm s.2.2
  | 0, _, s, hs => by cases hs
  | n + 1, hn, s, hs => by
    have ih := outQ_sm sp es he n (by omega)
    have g : ∀ k, k < es.length → Sm (es.getD k 0) := fun k hk => by
      simp only [List.getD, List.getElem?_eq_getElem hk, Option.getD_some]
      exact he _ (List.getElem_mem hk)
    simp only [outQ, outStep] at hs
    split at hs
    · exact ih s hs
    · split at hs
      · rename_i z hz
        have hzm : z ∈ outQ sp es n := List.mem_of_getLast? hz
        split at hs
        · rcases List.mem_append.1 hs with hs | hs
          · exact ih s (List.dropLast_subset _ hs)
          · simp only [List.mem_singleton] at hs
            subst hs
            exact ⟨(ih z hzm).1, g _ hn⟩
        · rcases List.mem_append.1 hs with hs | hs
          · exact ih s hs
          · simp only [List.mem_singleton] at hs
            subst hs
            exact ⟨g n (by omega), g _ hn⟩
      · simp only [List.mem_singleton] at hs
        subst hs
        exact ⟨g n (by omega), g _ hn⟩
abbrev a2T (sr : List (List Value)) (o : AV) : List AV := st 160 ([.any, .any, .any, .any, .any, .any, .any, .any, .any, .ps 3 sr, .op 0 0, .any, .any, .any, .any, o, .op 1 0])
abbrev a2H (us : List Value) (i : Int) : Heap := [some (.box false 27 [.ls us]), some (.box false 3 [iv i])]
abbrev a2M : List Bool := [false, false, false, false, false, false, false, false, false, true, true, false, false, false, false, true, true]
def aoV (l : List Sp) : AV := if l = [] then nilS else .own 2
def aoH (l : List Sp) : Heap := if l = [] then [] else [some (.row false 60 3 (l.map spA))]
theorem aoV_cons {l : List Sp} (h : l ≠ []) : aoV l = .own 2 := if_neg h
theorem aoH_cons {l : List Sp} (h : l ≠ []) : aoH l = [some (.row false 60 3 (l.map spA))] := if_neg h
theorem last_split {l : List Sp} {z : Sp} (h : l.getLast? = some z) : ∃ o, l = o ++ [z] := by
  obtain ⟨ys, hy⟩ := List.getLast?_eq_some_iff.1 h
  exact ⟨ys, hy⟩
theorem beq_toList (x y : Rat) : ((bstr (qT x)).toList == (bstr (qT y)).toList) = decide (x = y) := by
  rw [eqs]
  exact decide_eq_decide.2 (qT_eq_iff x y)
theorem out_loop (sp : List Sp) (es : List Rat) (hl : es.length < 1000) (h1 : 1 ≤ es.length) (hsl : sp.length < 1000) (he : ∀ x ∈ es, Sm x) (hs : ∀ s ∈ sp, Sm s.2.1 ∧ Sm s.2.2) :
    Goes Tryz.prog (loopAt Tryz.f25 1) (a2T (sp.map spR) nilS) (a2H (esV es) 1) (.exit 2) (a2T (sp.map spR) (aoV (outQ sp es (es.length - 1)))) (a2H (esV es) es.length ++ aoH (outQ sp es (es.length - 1))) := by
  have hloop : loopAt Tryz.f25 1 = .loop (bodyOf (loopAt Tryz.f25 1)) := by kernel_rfl
  rw [hloop]
  have hel : ((esV es).map AV.v).length = es.length := by simp
  have key : ∀ (m n : Nat), n + 1 + m = es.length → Rounds Tryz.prog (bodyOf (loopAt Tryz.f25 1)) (m + 1) (a2T (sp.map spR) (aoV (outQ sp es n))) (a2H (esV es) ((n : Int) + 1) ++ aoH (outQ sp es n)) (.exit 2)
      (a2T (sp.map spR) (aoV (outQ sp es (es.length - 1)))) (a2H (esV es) es.length ++ aoH (outQ sp es (es.length - 1))) := by
    intro m
    induction m with
    | zero =>
      intro n hn
      have e1 : es.length - 1 = n := by omega
      have e2 : (es.length : Int) = (n : Int) + 1 := by omega
      rw [e1, e2]
      have hd : decide ((n : Int) + 1 < (((esV es).map AV.v).length : Int)) = false := by rw [hel]; exact decide_eq_false (by omega)
      by_cases h : outQ sp es n = []
      · rw [h]
        exact b_end0_out _ _ _ 0 ⟨hd, trivial⟩
      · rw [aoV_cons h, aoH_cons h]
        have := b_end_out (sp.map spR) (esV es) ((outQ sp es n).map spA) ((n : Int) + 1) 0 ⟨hd, trivial⟩
        rw [ren_sp] at this
        exact this
    | succ m ih =>
      intro n hn
      have hn1 : n + 1 < es.length := by omega
      have nxt := ih (n + 1) (by omega)
      rw [show ((n + 1 : Nat) : Int) = (n : Int) + 1 by push_cast; rfl] at nxt
      simp only [outQ] at nxt
      have hix := index_ok sp es n hn1 hl hsl he hs
      have hlt : decide ((n : Int) + 1 < (((esV es).map AV.v).length : Int)) = true := by rw [hel]; exact decide_eq_true (by omega)
      have w1 : IntKind.i64.wrap ((n : Int) + 1 + 1) = (n : Int) + 1 + 1 := by rw [w64]; omega
      have w2 : IntKind.i64.wrap ((n : Int) + 1 - 1) = (n : Int) + 1 - 1 := by rw [w64]; omega
      have t0 : Int.toNat ((n : Int) + 1 - 1) = n := by omega
      have t1 : Int.toNat ((n : Int) + 1) = n + 1 := by omega
      have a0 : 0 ≤ (n : Int) + 1 - 1 ∧ (((esV es).map AV.v)[Int.toNat ((n : Int) + 1 - 1)]?) = some (qv (es.getD n 0)) := ⟨by omega, by rw [t0]; exact esV_at (by omega)⟩
      have a1 : 0 ≤ (n : Int) + 1 ∧ (((esV es).map AV.v)[Int.toNat ((n : Int) + 1)]?) = some (qv (es.getD (n + 1) 0)) := ⟨by omega, by rw [t1]; exact esV_at hn1⟩
      have hol := outQ_length sp es n
      unfold outStep at nxt
      cases hf : firstC (covers (es.getD n 0) (es.getD (n + 1) 0)) sp sp.length 0 with
      | none =>
        rw [hf] at hix nxt
        simp only at nxt
        have hk : decide (ixV none < 0) = true := by decide
        by_cases h : outQ sp es n = []
        · rw [h] at nxt ⊢
          exact b_none0_step _ _ _ _ _ ⟨hlt, hix, hk, w1, trivial⟩ (Rounds.same (same_cast (Same.mask a2M) (T1 := a2T (sp.map spR) nilS) (by kernel_rfl) rfl) nxt)
        · rw [aoV_cons h, aoH_cons h] at nxt ⊢
          refine b_none_step (sp.map spR) (esV es) ((outQ sp es n).map spA) _ _ _ ⟨hlt, hix, hk, w1, trivial⟩ ?_
          rw [ren_sp]
          exact Rounds.same (same_cast (Same.mask a2M) (T1 := a2T (sp.map spR) (.own 2)) (by kernel_rfl) rfl) nxt
      | some k =>
        rw [hf] at hix nxt
        simp only at nxt
        have hkl := firstC_lt _ sp _ _ k hf (by omega)
        have hk : decide (ixV (some k) < 0) = false := decide_eq_false (by show ¬ ((k : Int) < 0); omega)
        have ak : 0 ≤ ixV (some k) ∧ (((sp.map spR).map rowAV)[Int.toNat (ixV (some k))]?) = some (spA (sp.getD k (0, 0, 0))) := ⟨(by show 0 ≤ (k : Int); omega), (ixV_at k ▸ spR_at hkl)⟩
        cases hz : (outQ sp es n).getLast? with
        | none =>
          have h : outQ sp es n = [] := List.getLast?_eq_none_iff.1 hz
          rw [hz] at nxt
          simp only at nxt
          rw [aoV_cons (by simp), aoH_cons (by simp)] at nxt
          rw [h]
          refine b_new0_step (sp.map spR) (esV es) ((n : Int) + 1) (ixV (some k)) (sp.getD k (0, 0, 0)).1 (qT (es.getD n 0)) (qT (es.getD (n + 1) 0)) (qT (sp.getD k (0, 0, 0)).2.1) (qT (sp.getD k (0, 0, 0)).2.2) _ ?_ (Rounds.same (same_cast (Same.mask a2M) (T1 := a2T (sp.map spR) (.own 2)) (by kernel_rfl) rfl) nxt)
          repeat' first | exact AllP.nil | refine AllP.cons ?_ ?_
          all_goals first | exact hlt | exact hix | exact hk | exact ak | exact w1 | exact w2 | exact a0 | exact a1 | exact ⟨by decide, by decide⟩ | rfl
        | some z =>
          obtain ⟨o, ho⟩ := last_split hz
          rw [hz] at nxt
          simp only at nxt
          have hne : outQ sp es n ≠ [] := by rw [ho]; simp
          have hlen : ((outQ sp es n).map spA).length = o.length + 1 := by rw [ho]; simp
          have hpos : decide ((((outQ sp es n).map spA).length : Int) > 0) = true := decide_eq_true (by rw [hlen]; omega)
          have w3 : IntKind.i64.wrap ((((outQ sp es n).map spA).length : Int) - 1) = (((outQ sp es n).map spA).length : Int) - 1 := by
            have : o.length + 1 ≤ n := by rw [ho] at hol; simpa using hol
            rw [w64, hlen]; omega
          have b1 : 0 ≤ (((outQ sp es n).map spA).length : Int) - 1 ∧ (((outQ sp es n).map spA).length : Int) - 1 < (((outQ sp es n).map spA).length : Int) := by rw [hlen]; omega
          have tl : Int.toNat ((((outQ sp es n).map spA).length : Int) - 1) = o.length := by rw [hlen]; omega
          have gl : ((outQ sp es n).map spA)[Int.toNat ((((outQ sp es n).map spA).length : Int) - 1)]? = some (spA z) := by rw [tl, ho]; simp
          have cap : ((outQ sp es n).map spA).length + 1 ≤ 9223372036854775807 ∧ (((outQ sp es n).map spA).length + 1) * 40 ≤ 140737488355328 := by
            have : o.length + 1 ≤ n := by rw [ho] at hol; simpa using hol
            rw [hlen]; omega
          rw [aoV_cons hne, aoH_cons hne]
          by_cases ht : z.1 = (sp.getD k (0, 0, 0)).1
          · have q1 : ((z.1 : Int) == ((sp.getD k (0, 0, 0)).1 : Int)) = true := by rw [ht]; simp
            by_cases hE : z.2.2 = es.getD n 0
            · have q2 : ((bstr (qT z.2.2)).toList == (bstr (qT (es.getD n 0))).toList) = true := by rw [beq_toList]; exact decide_eq_true hE
              rw [if_pos ⟨ht, hE⟩, aoV_cons (by simp), aoH_cons (by simp)] at nxt
              refine b_ext_step (sp.map spR) (esV es) ((n : Int) + 1) (ixV (some k)) z.1 (sp.getD k (0, 0, 0)).1 (qT (es.getD n 0)) (qT (es.getD (n + 1) 0)) (qT (sp.getD k (0, 0, 0)).2.1) (qT (sp.getD k (0, 0, 0)).2.2) (qT z.2.1) (qT z.2.2) ((outQ sp es n).map spA) _ ?_ ?_
              · repeat' first | exact AllP.nil | refine AllP.cons ?_ ?_
                all_goals first | exact hlt | exact hix | exact hk | exact hpos | exact w3 | exact b1 | exact gl | exact ak | exact q1 | exact w1 | exact w2 | exact a0 | exact a1 | exact q2 | rfl
              · have e1 : ((outQ sp es n).map spA).set (Int.toNat ((((outQ sp es n).map spA).length : Int) - 1)) (.agg [iv (z.1 : Int), sv (qT z.2.1), sv (qT (es.getD (n + 1) 0))]) = ((outQ sp es n).dropLast ++ [(z.1, z.2.1, es.getD (n + 1) 0)]).map spA := by
                  rw [tl, ho]
                  simp [spA]
                rw [e1, ren_sp]
                exact Rounds.same (same_cast (Same.mask a2M) (T1 := a2T (sp.map spR) (.own 2)) (by kernel_rfl) rfl) nxt
            · have q2 : ((bstr (qT z.2.2)).toList == (bstr (qT (es.getD n 0))).toList) = false := by rw [beq_toList]; exact decide_eq_false hE
              rw [if_neg (fun h => hE h.2), aoV_cons (by simp), aoH_cons (by simp)] at nxt
              refine b_new2_step (sp.map spR) (esV es) ((n : Int) + 1) (ixV (some k)) z.1 (sp.getD k (0, 0, 0)).1 (qT (es.getD n 0)) (qT (es.getD (n + 1) 0)) (qT (sp.getD k (0, 0, 0)).2.1) (qT (sp.getD k (0, 0, 0)).2.2) (qT z.2.1) (qT z.2.2) ((outQ sp es n).map spA) _ ?_ ?_
              · repeat' first | exact AllP.nil | refine AllP.cons ?_ ?_
                all_goals first | exact hlt | exact hix | exact hk | exact hpos | exact w3 | exact b1 | exact gl | exact ak | exact q1 | exact w1 | exact w2 | exact a0 | exact a1 | exact q2 | exact cap | rfl
              · have e1 : (outQ sp es n).map spA ++ [.agg [iv ((sp.getD k (0, 0, 0)).1 : Int), sv (qT (es.getD n 0)), sv (qT (es.getD (n + 1) 0))]] = (outQ sp es n ++ [((sp.getD k (0, 0, 0)).1, es.getD n 0, es.getD (n + 1) 0)]).map spA := by simp [spA]
                rw [e1, ren_sp]
                exact Rounds.same (same_cast (Same.mask a2M) (T1 := a2T (sp.map spR) (.own 2)) (by kernel_rfl) rfl) nxt
          · have q1 : ((z.1 : Int) == ((sp.getD k (0, 0, 0)).1 : Int)) = false := by simp only [beq_eq_false_iff_ne, ne_eq]; omega
            rw [if_neg (fun h => ht h.1), aoV_cons (by simp), aoH_cons (by simp)] at nxt
            refine b_new1_step (sp.map spR) (esV es) ((n : Int) + 1) (ixV (some k)) z.1 (sp.getD k (0, 0, 0)).1 (qT (es.getD n 0)) (qT (es.getD (n + 1) 0)) (qT (sp.getD k (0, 0, 0)).2.1) (qT (sp.getD k (0, 0, 0)).2.2) (qT z.2.1) (qT z.2.2) ((outQ sp es n).map spA) _ ?_ ?_
            · repeat' first | exact AllP.nil | refine AllP.cons ?_ ?_
              all_goals first | exact hlt | exact hix | exact hk | exact hpos | exact w3 | exact b1 | exact gl | exact ak | exact q1 | exact w1 | exact w2 | exact a0 | exact a1 | exact cap | rfl
            · have e1 : (outQ sp es n).map spA ++ [.agg [iv ((sp.getD k (0, 0, 0)).1 : Int), sv (qT (es.getD n 0)), sv (qT (es.getD (n + 1) 0))]] = (outQ sp es n ++ [((sp.getD k (0, 0, 0)).1, es.getD n 0, es.getD (n + 1) 0)]).map spA := by simp [spA]
              rw [e1, ren_sp]
              exact Rounds.same (same_cast (Same.mask a2M) (T1 := a2T (sp.map spR) (.own 2)) (by kernel_rfl) rfl) nxt
  have := key (es.length - 1) 0 (by omega)
  exact Goes.loop this
end Go.Flow.Tryz
namespace Go.Flow
open Go Go.RowKit
theorem pure_eql_agg {P : Program} {o : Oper} {t t' : TypeId} {x y : Operand} (ho : o.op = .binOp .eql t x y t') (hg : P.eqGuardType P.depth t = false) {T : List AV} {xv yv : List Value} {b : Bool} (hx : evalA T x = .agg (xv.map .v)) (hy : evalA T y = .agg (yv.map .v))
    (he : ∀ w, (Op.equalIn 10000 t (.agg xv.toArray) (.agg yv.toArray)).run P w = .ok b w) : PureOp P o T (bv b) := fun E ρ h => by
  have h1 := h x (by simp [ho, Op.operands])
  have h2 := h y (by simp [ho, Op.operands])
  rw [hx] at h1
  rw [hy] at h2
  obtain ⟨u1, e1, l1⟩ := h1.inv_agg
  obtain ⟨u2, e2, l2⟩ := h2.inv_agg
  have l1 := repL_v_eq l1
  have l2 := repL_v_eq l2
  subst l1
  subst l2
  refine ⟨.bool b, ?_, .v _⟩
  have e : execOp ρ o = (do pure (.value (← (do eqGuard .eql t x y (ρ x) (ρ y); binOp .eql t (ρ x) (ρ y))))) := by simp only [execOp, ho]
  rw [e, e1, e2]
  simp only [Sem.run_bind, Sem.run_pure, run_eqGuard_agg E.w .eql t x y _ _ hg, Result.andThen_ok, run_eql_struct, he]
theorem pure_eql_bool {P : Program} {o : Oper} {t t' : TypeId} {x y : Operand} (ho : o.op = .binOp .eql t x y t') (ht : P.underlying t = some .bool) {T : List AV} {a b : Bool} (hx : evalA T x = bv a) (hy : evalA T y = bv b) : PureOp P o T (bv (a == b)) := fun E ρ h => by
  have h1 := h x (by simp [ho, Op.operands])
  have h2 := h y (by simp [ho, Op.operands])
  rw [hx] at h1
  rw [hy] at h2
  have h1 := h1.inv_v
  have h2 := h2.inv_v
  refine ⟨.bool (a == b), ?_, .v _⟩
  have e : execOp ρ o = (do pure (.value (← (do eqGuard .eql t x y (ρ x) (ρ y); binOp .eql t (ρ x) (ρ y))))) := by simp only [execOp, ho]
  rw [e, h1, h2]
  have e1 : eqGuard .eql t x y (.bool a) (.bool b) = pure () := rfl
  have e2 : binOp .eql t (.bool a) (.bool b) = (do pure (.bool (← Op.equal t (.bool a) (.bool b)))) := rfl
  rw [e1, e2]
  simp only [Sem.run_bind, Sem.run_pure, Result.andThen_ok, run_equal_bool E.w t a b ht]
theorem pure_eql_bool_true {P : Program} {o : Oper} {t t' : TypeId} {x y : Operand} (ho : o.op = .binOp .eql t x y t') (ht : P.underlying t = some .bool) {T : List AV} {a b : Bool} (hx : evalA T x = bv a) (hy : evalA T y = bv b) (hab : a = b) : PureOp P o T (bv true) := by
  have h := pure_eql_bool ho ht hx hy
  subst hab
  rwa [beq_self_eq_true] at h
end Go.Flow
namespace Go.Flow.Tryz
open Go Go.Proofs Go.RowKit Go.Flow
set_option maxRecDepth 100000
theorem eq_str (d : Nat) (a b : List UInt8) (w : World) : (Op.equalIn (d + 1) 22 (.string (bstr a)) (.string (bstr b))).run Tryz.prog w = .ok (decide (a = b)) w := by
  rw [run_equalIn_string w d 22 _ _ Tryz.underlying22, eqs]
theorem eq_int (d : Nat) (a b : Int) (w : World) : (Op.equalIn (d + 1) 3 (.int .i64 a) (.int .i64 b)).run Tryz.prog w = .ok (decide (a = b)) w := by
  rw [run_equalIn_int w d 3 .i64 .i64 _ _ Tryz.underlying3]
  rfl
theorem part_one (t : TypeId) (cs : List Value) (k : Nat) (v : Value) (w : World) (ha : ∀ w, (isAgg t).run Tryz.prog w = .ok false w) (h : cs[k]? = some v) : (part t cs.toArray k).run Tryz.prog w = .ok v w := by
  unfold part
  simp [ha, h]
theorem eq_point (a b c d : List UInt8) (w : World) : (Op.equalIn 10000 24 (.agg [.string (bstr a), .string (bstr b)].toArray) (.agg [.string (bstr c), .string (bstr d)].toArray)).run Tryz.prog w = .ok (decide (a = c) && decide (b = d)) w := by
  have hS : Tryz.prog.underlying 24 = some (.struct (Tryz.prog.fieldsOf 24)) := by kernel_rfl
  have hp : Tryz.prog.stoodInHeld 24 = false := by kernel_rfl
  rw [show (10000 : Nat) = 9999 + 1 from rfl, run_equalIn_agg w 9999 24 _ _ hS hp]
  simp only [Program.fieldsOf, Tryz.underlying24]
  have p0 := fun w => part_one 22 [.string (bstr a), .string (bstr b)] 0 _ w (fun w => Tryz.isAgg22 w) rfl
  have p1 := fun w => part_one 22 [.string (bstr a), .string (bstr b)] 1 _ w (fun w => Tryz.isAgg22 w) rfl
  have q0 := fun w => part_one 22 [.string (bstr c), .string (bstr d)] 0 _ w (fun w => Tryz.isAgg22 w) rfl
  have q1 := fun w => part_one 22 [.string (bstr c), .string (bstr d)] 1 _ w (fun w => Tryz.isAgg22 w) rfl
  have e0 := eq_str 9998 a c
  have e1 := eq_str 9998 b d
  simp only [Op.eqFields, Sem.run_bind, p0, q0, p1, q1, e0, e1, Result.andThen_ok, ne_eq, String.reduceEq, not_false_eq_true, if_true, Sem.run_ite, Sem.run_pure]
  cases decide (a = c) <;> cases decide (b = d) <;> rfl
theorem eq_span (i j : Int) (a b c d : List UInt8) (w : World) : (Op.equalIn 10000 60 (.agg [.int .i64 i, .string (bstr a), .string (bstr b)].toArray) (.agg [.int .i64 j, .string (bstr c), .string (bstr d)].toArray)).run Tryz.prog w = .ok (decide (i = j) && (decide (a = c) && decide (b = d))) w := by
  have hS : Tryz.prog.underlying 60 = some (.struct (Tryz.prog.fieldsOf 60)) := by kernel_rfl
  have hp : Tryz.prog.stoodInHeld 60 = false := by kernel_rfl
  rw [show (10000 : Nat) = 9999 + 1 from rfl, run_equalIn_agg w 9999 60 _ _ hS hp]
  simp only [Program.fieldsOf, Tryz.underlying60]
  have p0 := fun w => part_one 3 [.int .i64 i, .string (bstr a), .string (bstr b)] 0 _ w (fun w => Tryz.isAgg3 w) rfl
  have p1 := fun w => part_one 22 [.int .i64 i, .string (bstr a), .string (bstr b)] 1 _ w (fun w => Tryz.isAgg22 w) rfl
  have p2 := fun w => part_one 22 [.int .i64 i, .string (bstr a), .string (bstr b)] 2 _ w (fun w => Tryz.isAgg22 w) rfl
  have q0 := fun w => part_one 3 [.int .i64 j, .string (bstr c), .string (bstr d)] 0 _ w (fun w => Tryz.isAgg3 w) rfl
  have q1 := fun w => part_one 22 [.int .i64 j, .string (bstr c), .string (bstr d)] 1 _ w (fun w => Tryz.isAgg22 w) rfl
  have q2 := fun w => part_one 22 [.int .i64 j, .string (bstr c), .string (bstr d)] 2 _ w (fun w => Tryz.isAgg22 w) rfl
  have e0 := eq_int 9998 i j
  have e1 := eq_str 9998 a c
  have e2 := eq_str 9998 b d
  simp only [Op.eqFields, Sem.run_bind, p0, q0, p1, q1, p2, q2, e0, e1, e2, Result.andThen_ok, ne_eq, String.reduceEq, not_false_eq_true, if_true, Sem.run_ite, Sem.run_pure]
  cases decide (i = j) <;> cases decide (a = c) <;> cases decide (b = d) <;> rfl
theorem eq_tri (a b c a' b' c' : Int) (w : World) : (Op.equalIn 10000 42 (.agg [.int .i64 a, .int .i64 b, .int .i64 c].toArray) (.agg [.int .i64 a', .int .i64 b', .int .i64 c'].toArray)).run Tryz.prog w = .ok (decide (a = a') && (decide (b = b') && decide (c = c'))) w := by
  have p0 := fun w => part_one 3 [.int .i64 a, .int .i64 b, .int .i64 c] 0 _ w (fun w => Tryz.isAgg3 w) rfl
  have p1 := fun w => part_one 3 [.int .i64 a, .int .i64 b, .int .i64 c] 1 _ w (fun w => Tryz.isAgg3 w) rfl
  have p2 := fun w => part_one 3 [.int .i64 a, .int .i64 b, .int .i64 c] 2 _ w (fun w => Tryz.isAgg3 w) rfl
  have q0 := fun w => part_one 3 [.int .i64 a', .int .i64 b', .int .i64 c'] 0 _ w (fun w => Tryz.isAgg3 w) rfl
  have q1 := fun w => part_one 3 [.int .i64 a', .int .i64 b', .int .i64 c'] 1 _ w (fun w => Tryz.isAgg3 w) rfl
  have q2 := fun w => part_one 3 [.int .i64 a', .int .i64 b', .int .i64 c'] 2 _ w (fun w => Tryz.isAgg3 w) rfl
  have e0 := eq_int 9998 a a'
  have e1 := eq_int 9998 b b'
  have e2 := eq_int 9998 c c'
  rw [show (10000 : Nat) = 9998 + 1 + 1 from rfl]
  unfold Op.equalIn
  simp only [Sem.run_bind, run_underlying Tryz.underlying42, Result.andThen_ok, Tryz.sizeOf3]
  simp only [Std.Legacy.Range.forIn_eq_forIn_range', Std.Legacy.Range.size, List.range', List.forIn_cons, List.forIn_nil]
  simp [p0, q0, p1, q1, p2, q2, e0, e1, e2]
  by_cases h0 : a = a' <;> by_cases h1 : b = b' <;> by_cases h2 : c = c' <;> simp [h0, h1, h2]
theorem eq_weights (a b c a' b' c' : List UInt8) (w : World) : (Op.equalIn 10000 63 (.agg [.string (bstr a), .string (bstr b), .string (bstr c)].toArray) (.agg [.string (bstr a'), .string (bstr b'), .string (bstr c')].toArray)).run Tryz.prog w = .ok (decide (a = a') && (decide (b = b') && decide (c = c'))) w := by
  have p0 := fun w => part_one 22 [.string (bstr a), .string (bstr b), .string (bstr c)] 0 _ w (fun w => Tryz.isAgg22 w) rfl
  have p1 := fun w => part_one 22 [.string (bstr a), .string (bstr b), .string (bstr c)] 1 _ w (fun w => Tryz.isAgg22 w) rfl
  have p2 := fun w => part_one 22 [.string (bstr a), .string (bstr b), .string (bstr c)] 2 _ w (fun w => Tryz.isAgg22 w) rfl
  have q0 := fun w => part_one 22 [.string (bstr a'), .string (bstr b'), .string (bstr c')] 0 _ w (fun w => Tryz.isAgg22 w) rfl
  have q1 := fun w => part_one 22 [.string (bstr a'), .string (bstr b'), .string (bstr c')] 1 _ w (fun w => Tryz.isAgg22 w) rfl
  have q2 := fun w => part_one 22 [.string (bstr a'), .string (bstr b'), .string (bstr c')] 2 _ w (fun w => Tryz.isAgg22 w) rfl
  have e0 := eq_str 9998 a a'
  have e1 := eq_str 9998 b b'
  have e2 := eq_str 9998 c c'
  rw [show (10000 : Nat) = 9998 + 1 + 1 from rfl]
  unfold Op.equalIn
  simp only [Sem.run_bind, run_underlying Tryz.underlying63, Result.andThen_ok, Tryz.sizeOf22]
  simp only [Std.Legacy.Range.forIn_eq_forIn_range', Std.Legacy.Range.size, List.range', List.forIn_cons, List.forIn_nil]
  simp [p0, q0, p1, q1, p2, q2, e0, e1, e2]
  by_cases h0 : a = a' <;> by_cases h1 : b = b' <;> by_cases h2 : c = c' <;> simp [h0, h1, h2]
end Go.Flow.Tryz
namespace Go.Flow.Tryz
open Go Go.Proofs Go.RowKit Go.Flow
set_option maxRecDepth 100000
variable {pts : List Pt} {tris : List Tri} {c0 : Int} {rest : List Int}
theorem compact_map {β γ : Type} [Inhabited β] [Inhabited γ] [DecidableEq β] [DecidableEq γ] (f : β → γ) (hf : ∀ x y, f x = f y → x = y) (l : List β) : Lib.compact (l.map f) = (Lib.compact l).map f := by
  have hat : ∀ j, j < l.length → (l.map f).toArray[j]! = f (l.toArray[j]!) := fun j hj => by
    rw [getElem!_pos _ j (by simpa using hj), getElem!_pos _ j (by simpa using hj)]
    simp
  have hk : ∀ j, j < l.length → Lib.keeps (l.map f).toArray j = Lib.keeps l.toArray j := fun j hj => by
    unfold Lib.keeps
    refine decide_eq_decide.2 ?_
    rw [hat j hj, hat (j - 1) (by omega)]
    constructor
    · rintro (h | h)
      · exact .inl h
      · exact .inr fun e => h (by rw [e])
    · rintro (h | h)
      · exact .inl h
      · exact .inr fun e => h (hf _ _ e)
  unfold Lib.compact Lib.compactUpTo
  rw [List.length_map, List.map_map]
  have h1 : (List.range l.length).filter (Lib.keeps (l.map f).toArray) = (List.range l.length).filter (Lib.keeps l.toArray) :=
    List.filter_congr fun j hj => hk j (List.mem_range.1 hj)
  rw [h1]
  refine List.map_congr_left fun j hj => ?_
  exact hat j (List.mem_range.1 (List.mem_filter.1 hj).1)
def esQ : List Rat → List Rat
  | [] => []
  | x :: R => Lib.compact (sortF [x] R)
def alongQ (sp : List Sp) : List Sp := outQ sp (esQ (endsQ sp)) ((esQ (endsQ sp)).length - 1)
theorem compact_mem {x : Rat} {l : List Rat} (h : x ∈ Lib.compact l) : x ∈ l := by
  unfold Lib.compact Lib.compactUpTo at h
  obtain ⟨j, hj, rfl⟩ := List.mem_map.1 h
  have := List.mem_range.1 (List.mem_filter.1 hj).1
  rw [getElem!_pos _ j (by simpa using this)]
  simp
theorem compact_ne {l : List Rat} (h : l ≠ []) : Lib.compact l ≠ [] := by
  unfold Lib.compact Lib.compactUpTo
  cases l with
  | nil => exact absurd rfl h
  | cons x l =>
    rw [List.length_cons, List.range_succ_eq_map]
    simp [Lib.keeps]
theorem esQ_mem {l : List Rat} {x : Rat} (h : x ∈ esQ l) : x ∈ l := by
  cases l with
  | nil => exact h
  | cons y R =>
    have := (sortF_perm R [y]).mem_iff.1 (compact_mem h)
    simpa using this
theorem esQ_length (l : List Rat) : (esQ l).length ≤ l.length := by
  cases l with
  | nil => exact Nat.le_refl _
  | cons y R =>
    have h1 := Lib.compact_length_le (sortF [y] R)
    have h2 := (sortF_perm R [y]).length_eq
    simp only [esQ, List.length_cons, List.length_append, List.length_nil] at *
    omega
theorem rowQ_rowS (l : List Rat) : rowQ l = rowS (l.map qT) := by unfold rowQ rowS; rw [List.map_map]; rfl
abbrev c3T (orr : List (List Value)) (len i : Int) : List AV := st 160 (List.replicate 15 .any ++ [.ps 3 orr] ++ List.replicate 126 .any ++ [.ps 3 orr, iv len, iv i])
abbrev c3E (orr : List (List Value)) : List AV := st 160 (List.replicate 15 .any ++ [.ps 3 orr])
theorem check_loop (out : List Sp) (hl : out.length < 1000) (hs : ∀ s ∈ out, Sm s.2.1 ∧ Sm s.2.2) :
    Goes Tryz.prog (loopAt Tryz.f25 2) (c3T (out.map spR) (((out.map spR).map rowAV).length : Int) 0) [] (.exit 4) (c3E (out.map spR)) [] := by
  have hloop : loopAt Tryz.f25 2 = .loop (bodyOf (loopAt Tryz.f25 2)) := by kernel_rfl
  have hl2 : (((out.map spR).map rowAV).length : Int) = out.length := by simp
  rw [hloop, hl2]
  have key : ∀ (m i : Nat), i + m = out.length → Rounds Tryz.prog (bodyOf (loopAt Tryz.f25 2)) (m + 1) (c3T (out.map spR) out.length i) [] (.exit 4) (c3E (out.map spR)) [] := by
    intro m
    induction m with
    | zero =>
      intro i hi
      exact Rounds.to (c3_end_out (out.map spR) out.length i 0 ⟨decide_eq_false (by omega), trivial⟩) (same_cast (Same.mask (List.replicate 15 false ++ [true])) (T1 := c3E (out.map spR)) (by kernel_rfl) rfl)
    | succ m ih =>
      intro i hi
      have hil : i < out.length := by omega
      have hsi : Sm (out.getD i (0, 0, 0)).2.1 ∧ Sm (out.getD i (0, 0, 0)).2.2 := by
        simp only [List.getD, List.getElem?_eq_getElem hil, Option.getD_some]
        exact hs _ (List.getElem_mem hil)
      have w1 : IntKind.i64.wrap ((i : Int) + 1) = (i : Int) + 1 := by rw [w64]; omega
      have hlt : decide ((i : Int) < out.length) = true := decide_eq_true (by omega)
      have hg : 0 ≤ (i : Int) ∧ (((out.map spR).map rowAV)[Int.toNat (i : Int)]?) = some (spA (out.getD i (0, 0, 0))) := ⟨by omega, by rw [Int.toNat_natCast]; exact spR_at hil⟩
      have k1 := qcheck hsi.1
      have k2 := qcheck hsi.2
      have nxt := ih (i + 1) (by omega)
      rw [show ((i + 1 : Nat) : Int) = (i : Int) + 1 by push_cast; rfl] at nxt
      refine c3_step_step (out.map spR) out.length i (out.getD i (0, 0, 0)).1 (qT (out.getD i (0, 0, 0)).2.1) (qT (out.getD i (0, 0, 0)).2.2) _ ?_ nxt
      repeat' first | exact AllP.nil | refine AllP.cons ?_ ?_
      all_goals first | exact hlt | exact hg | exact k1 | exact k2 | exact w1 | rfl
  exact Goes.loop (key out.length 0 (by omega))
theorem pure_points (N : Nat) (hN : 0 < N) (a b : Pt) {o : Oper} {x y : Operand} {t' : TypeId} (ho : o.op = .binOp .eql 24 x y t') {T : List AV} (hx : evalA T x = .agg (ptS N a)) (hy : evalA T y = .agg (ptS N b)) : PureOp Tryz.prog o T (bv (decide (a = b))) := by
  have h := pure_eql_agg (P := Tryz.prog) ho (by kernel_rfl) (xv := [.string (bstr (fT a.1 N)), .string (bstr (fT a.2 N))]) (yv := [.string (bstr (fT b.1 N)), .string (bstr (fT b.2 N))]) hx hy (fun w => eq_point _ _ _ _ w)
  have e : (decide (fT a.1 N = fT b.1 N) && decide (fT a.2 N = fT b.2 N)) = decide (a = b) := by
    rw [← Bool.decide_and]
    refine decide_eq_decide.2 ⟨fun h => Prod.ext (fT_inj hN h.1) (fT_inj hN h.2), fun h => by subst h; exact ⟨rfl, rfl⟩⟩
  rwa [e] at h
theorem sort_nil : CallsTo Tryz.prog 70 [nilS, .fn 14 []] (.tup []) := by
  refine so_sort0_ok (Lib.bitLen 0) ⟨by decide, ?_, so_pdq0_ok _ ⟨by decide, by decide, so_ins0_ok 0 ⟨by decide, by decide, trivial⟩, trivial⟩, trivial⟩
  have hb := callsTo_v (body_of Tryz.func118 (by kernel_rfl) (by kernel_rfl)) [.int .u64 0] (r := iv (Lib.bitLen 0)) fun w _ => (Tryz.bits_Len 0 w (by omega) (by omega)).mono fun e w' ⟨h1, h2⟩ => ⟨_, h1, by subst h2; exact Below.refl _ _, fun E => .v _⟩
  exact hb
theorem Sheet.along (s : Sheet pts tris c0 rest) {N : Nat} (hN : 0 < N) (hN4 : N < 10000) (a b : Pt) (ha : smallP a) (hb : smallP b) (hab : a ≠ b) :
    CallsTo Tryz.prog 25 [meshAV N pts tris, .agg (ptS N a), .agg (ptS N b)] (.tup [.ps 3 ((alongQ (spansQ pts tris a b tris.length)).map spR), iv 0]) := by
  have hck := s.check hN hN4
  have pa := point_ok a.1 a.2 N N hN hN (by have := ha.1; omega) (by have := ha.2; omega) (by omega) (by omega)
  have pb := point_ok b.1 b.2 N N hN hN (by have := hb.1; omega) (by have := hb.2; omega) (by omega) (by omega)
  have hl := s.along_loop hN hN4 a b ha hb
  have hsm := s.spans_sm ha hb tris.length (Nat.le_refl _)
  have hsl := spansQ_length (pts := pts) (tris := tris) a b tris.length
  have htl := s.tl
  have hl2 : (((tris.map triR).map rowAV).length : Int) = tris.length := by simp
  have hl4 : (tris.map triR).length = tris.length := by simp
  have hq : decide (a = b) = false := decide_eq_false hab
  generalize hsp : spansQ pts tris a b tris.length = sp at *
  by_cases h0 : sp = []
  · subst h0
    refine CallsTo.rep (al_none_ok (pts.map (ptR N)) (tris.map triR) (fT a.1 N) (fT a.2 N) (fT b.1 N) (fT b.2 N) (decide (a = b)) ?_) fun E v hv => ?_
    · have hl' : Goes Tryz.prog (loopAt Tryz.f25 0) _ _ _ _ _ := (same_cast (Same.mask alM) (T := st 160 [.agg [.ps 2 (pts.map (ptR N)), .ps 3 (tris.map triR)], .agg (ptS N a), .agg (ptS N b), .op 0 0, .op 1 0, .op 2 0, nilS, iv 0, iv 0, nilS, .op 3 0, uu, uu, uu, uu, uu, uu, uu, uu, uu, uu, .agg [.ps 2 (pts.map (ptR N)), .ps 3 (tris.map triR)], iv 0, iv 0, bv false, uu, .agg (ptS N a), iv 0, bv false, bv false, .agg (ptS N b), iv 0, bv false, bv false, .agg (ptS N a), .agg (ptS N b), bv (decide (a = b)), .op 0 1, .ps 3 (tris.map triR), iv (((tris.map triR).map rowAV).length : Int), iv 0]) (T1 := alT nilS (tris.map triR) (((tris.map triR).map rowAV).length : Int) 0) (by kernel_rfl) rfl).goes (by rw [hl2]; exact hl)
      repeat' first | exact AllP.nil | refine AllP.cons ?_ ?_
      all_goals first | exact hck | exact pa | exact pb | exact hq | exact pure_points N hN a b rfl rfl rfl | (rw [hl4]; exact hl') | exact sort_nil | exact cp_nil_ok 0 ⟨rfl, trivial⟩ | rfl | decide
    · obtain ⟨us, rfl, hr⟩ := hv.inv_tup
      cases hr with
      | cons _ u0 _ us0 q0 qr => exact .tup _ _ (.cons _ _ _ _ (rep_nil_ps _ _ q0) qr)
  · rw [alV_cons h0, alE_cons h0, alO_cons h0] at hl
    have hel := endsQ_length sp
    cases hends : endsQ sp with
    | nil =>
      rw [hends] at hel
      exact absurd (List.length_eq_zero_iff.1 (by simp at hel; omega)) h0
    | cons x R =>
      have hesm : ∀ z ∈ endsQ sp, Sm z := fun z hz => by
        obtain ⟨q, hq1, hq2⟩ := List.mem_flatMap.1 hz
        simp only [List.mem_cons, List.not_mem_nil, or_false] at hq2
        rcases hq2 with rfl | rfl
        · exact (hsm q hq1).1
        · exact (hsm q hq1).2
      have hx : Sm x := hesm x (by rw [hends]; simp)
      have hR : ∀ y ∈ R, Sm y := fun y hy => hesm y (by rw [hends]; simp [hy])
      have hRl : R.length < 12 := by rw [hends] at hel; simp only [List.length_cons] at hel; omega
      have hes : esQ (endsQ sp) = Lib.compact (sortF [x] R) := by rw [hends]; rfl
      have hesl : (esQ (endsQ sp)).length < 1000 := by have := esQ_length (endsQ sp); omega
      have hes0 : 1 ≤ (esQ (endsQ sp)).length := by
        rw [hes]
        refine List.length_pos_iff.2 (compact_ne fun e => ?_)
        have := (sortF_perm R [x]).length_eq
        rw [e] at this
        simp at this
      have hesS : ∀ z ∈ esQ (endsQ sp), Sm z := fun z hz => hesm z (esQ_mem hz)
      have srt := sort_inl (pts.map (ptR N)) (tris.map triR) (fT a.1 N) (fT a.2 N) (fT b.1 N) (fT b.2 N) (sp.map spA) x R hx hR hRl
      have hperm := (sortF_perm R [x]).length_eq
      have cmp := compact_inl (soL (pts.map (ptR N)) (tris.map triR) (fT a.1 N) (fT a.2 N) (fT b.1 N) (fT b.2 N) (sp.map spA) (rowQ (sortF [x] R)) ++ [none, none, none]) 5 22 ((sortF [x] R).map qT) (by
          intro e
          have e2 := List.map_eq_nil_iff.1 e
          rw [e2] at hperm
          simp at hperm) (by rw [List.length_map, hperm]; simp; omega) (by rw [rowQ_rowS]; rfl)
      rw [compact_map qT (fun _ _ h => qT_inj h), ← rowQ_rowS, ← hes] at cmp
      have hout := out_loop sp (esQ (endsQ sp)) hesl hes0 (by omega) hesS hsm
      have hosm := outQ_sm sp (esQ (endsQ sp)) hesS ((esQ (endsQ sp)).length - 1) (by omega)
      have hol := outQ_length sp (esQ (endsQ sp)) ((esQ (endsQ sp)).length - 1)
      have chk := check_loop (alongQ sp) (by unfold alongQ; omega) hosm
      have hsr : sp.map spA = (sp.map spR).map rowAV := by rw [List.map_map]; rfl
      have hloop2 : Goes Tryz.prog (loopAt Tryz.f25 1) (st 160 [.any, .any, .any, .op 0 0, .op 1 0, .op 2 0, .any, .any, .any, .own 4, .op 3 0, .any, .any, .any, .any, nilS, .op 11 0])
          [some (.box false 34 [.ps 2 (pts.map (ptR N)), .ps 3 (tris.map triR)]), some (.box false 24 (ptS N a)), some (.box false 24 (ptS N b)), some (.box false 27 [.own 10]), some (.row false 60 3 (sp.map spA)), none, none, none, none, none, some (.row false 22 1 (rowQ (esQ (endsQ sp)))), some (.box false 3 [iv 1])]
          (.exit 2) (c3E ((alongQ sp).map spR)) [] := by
        have eQ : rowQ (esQ (endsQ sp)) = (esV (esQ (endsQ sp))).map AV.v := by unfold rowQ esV; rw [List.map_map]; rfl
        rw [hsr, eQ]
        refine Same.goes (Same.shut 9 4 (y := .ps 3 (sp.map spR)) rfl rfl rep_lst_ps) ?_
        refine Same.goes (Same.sealBox 3 0 10 (y := .ls (esV (esQ (endsQ sp)))) (cs := [.own 10]) (eb := 27) (fr := false) (e := 22) (sz := 1) (es := (esV (esQ (endsQ sp))).map AV.v) rfl rfl rfl (by decide) rep_lst_ls') ?_
        refine Same.goes (same_cast (Same.ren [3, 11] rfl) (T1 := a2T (sp.map spR) nilS) (H1 := a2H (esV (esQ (endsQ sp))) 1) (by kernel_rfl) (by kernel_rfl)) ?_
        by_cases hz : alongQ sp = []
        · have hz' : outQ sp (esQ (endsQ sp)) ((esQ (endsQ sp)).length - 1) = [] := hz
          rw [hz'] at hout
          rw [hz]
          refine Goes.same hout ?_
          refine Same.trans (Same.slot 15 (x := nilS) (y := .ps 3 []) rfl fun E u h => rep_nil_ps E u h) ?_
          exact Same.trans (Same.ren [] rfl) (same_cast (Same.mask (List.replicate 15 false ++ [true])) (by kernel_rfl) (by kernel_rfl))
        · have hz' : outQ sp (esQ (endsQ sp)) ((esQ (endsQ sp)).length - 1) ≠ [] := hz
          rw [aoV_cons hz', aoH_cons hz'] at hout
          have e : (outQ sp (esQ (endsQ sp)) ((esQ (endsQ sp)).length - 1)).map spA = ((alongQ sp).map spR).map rowAV := by rw [List.map_map]; rfl
          rw [e] at hout
          refine Goes.same hout ?_
          refine Same.trans (Same.shut 15 2 (y := .ps 3 ((alongQ sp).map spR)) (fr := false) (e := 60) (sz := 3) (es := ((alongQ sp).map spR).map rowAV) rfl rfl rep_lst_ps) ?_
          exact Same.trans (Same.ren [] rfl) (same_cast (Same.mask (List.replicate 15 false ++ [true])) (by kernel_rfl) (by kernel_rfl))
      refine al_some_ok (pts.map (ptR N)) (tris.map triR) (fT a.1 N) (fT a.2 N) (fT b.1 N) (fT b.2 N) (decide (a = b)) (sp.map spA) (rowQ (x :: R)) (rowQ (sortF [x] R)) (rowQ (esQ (endsQ sp))) ((alongQ sp).map spR) ?_
      rw [hends] at hl
      have hl' : Goes Tryz.prog (loopAt Tryz.f25 0) _ _ _ _ _ := (same_cast (Same.mask alM) (T := st 160 [.agg [.ps 2 (pts.map (ptR N)), .ps 3 (tris.map triR)], .agg (ptS N a), .agg (ptS N b), .op 0 0, .op 1 0, .op 2 0, nilS, iv 0, iv 0, nilS, .op 3 0, uu, uu, uu, uu, uu, uu, uu, uu, uu, uu, .agg [.ps 2 (pts.map (ptR N)), .ps 3 (tris.map triR)], iv 0, iv 0, bv false, uu, .agg (ptS N a), iv 0, bv false, bv false, .agg (ptS N b), iv 0, bv false, bv false, .agg (ptS N a), .agg (ptS N b), bv (decide (a = b)), .op 0 1, .ps 3 (tris.map triR), iv (((tris.map triR).map rowAV).length : Int), iv 0]) (T1 := alT nilS (tris.map triR) (((tris.map triR).map rowAV).length : Int) 0) (by kernel_rfl) rfl).goes (by rw [hl2]; exact hl)
      repeat' first | exact AllP.nil | refine AllP.cons ?_ ?_
      all_goals first | exact hck | exact pa | exact pb | exact hq | exact pure_points N hN a b rfl rfl rfl | (rw [hl4]; exact hl') | exact srt | exact cmp | exact hloop2 | exact chk | rfl | decide
end Go.Flow.Tryz
namespace Go.Flow.Tryz
open Go Go.Proofs Go.RowKit Go.Flow
set_option maxRecDepth 100000
def mvP (s t c : Int) (p : Pt) : Pt := ((p.1 + s) * c, (p.2 + t) * c)
theorem det_mv (s t k : Int) (a b c : Pt) : det (mvP s t k a) (mvP s t k b) (mvP s t k c) = det a b c * (k * k) := by
  have e : ∀ u v s : Int, (u + s) * k - (v + s) * k = (u - v) * k := fun u v s => by
    rw [← Int.sub_mul]
    congr 1
    omega
  unfold det mvP
  simp only [e]
  have m : ∀ x y : Int, x * k * (y * k) = x * y * (k * k) := fun x y => by ac_rfl
  rw [m, m, ← Int.sub_mul]
theorem up_mv (s t k : Int) (hk : 0 < k) (p q : Pt) : upB (mvP s t k p) (mvP s t k q) = upB p q := by
  have lt : ∀ u v s : Int, (u + s) * k > (v + s) * k ↔ u > v := fun u v s => by
    constructor
    · intro h
      have : v + s < u + s := Int.lt_of_mul_lt_mul_right h (by omega)
      omega
    · intro h
      exact Int.mul_lt_mul_of_pos_right (by omega) hk
  have eq : ∀ u v s : Int, (u + s) * k = (v + s) * k ↔ u = v := fun u v s => by
    constructor
    · intro h
      have := Int.eq_of_mul_eq_mul_right (by omega) h
      omega
    · intro h; rw [h]
  unfold upB mvP
  simp only [decide_eq_decide.2 (lt _ _ _), decide_eq_decide.2 (eq _ _ _)]
variable {pts : List Pt} {tris : List Tri} {c0 : Int} {rest : List Int}
theorem getD_mv (s t k : Int) {i : Nat} (hi : i < pts.length) : (pts.map (mvP s t k)).getD i (0, 0) = mvP s t k (pts.getD i (0, 0)) := by
  simp [List.getD, List.getElem?_eq_getElem hi]
theorem ptAt_mv (s t k : Int) {cyc : List Int} (hc : 0 < cyc.length) (hcy : ∀ x ∈ cyc, 0 ≤ x ∧ x.toNat < pts.length) (i : Nat) : ptAt (pts.map (mvP s t k)) cyc i = mvP s t k (ptAt pts cyc i) := by
  have hm : i % cyc.length < cyc.length := Nat.mod_lt _ hc
  have := (hcy _ (List.getElem_mem hm)).2
  unfold ptAt
  rw [getD_mv]
  simpa [List.getD, List.getElem?_eq_getElem hm] using this
theorem turns_mv (s t k : Int) (hk : 0 < k) {cyc : List Int} (hc : 0 < cyc.length) (hcy : ∀ x ∈ cyc, 0 ≤ x ∧ x.toNat < pts.length) : ∀ n, turnsUp (pts.map (mvP s t k)) cyc n = turnsUp pts cyc n
  | 0 => rfl
  | n + 1 => by
    simp only [turnsUp, upAt, turns_mv s t k hk hc hcy n, ptAt_mv s t k hc hcy, up_mv s t k hk]
    rfl
theorem Sheet.move (h : Sheet pts tris c0 rest) (s t k : Int) (hk : 0 < k) (hk12 : k ≤ 12) (hs : s.natAbs ≤ 20) (ht : t.natAbs ≤ 20) (hb : ∀ p ∈ pts, p.1.natAbs ≤ 20 ∧ p.2.natAbs ≤ 20) : Sheet (pts.map (mvP s t k)) tris c0 rest where
  small := by
    intro q hq
    obtain ⟨p, hp, rfl⟩ := List.mem_map.1 hq
    obtain ⟨h1, h2⟩ := hb p hp
    have b : ∀ u : Int, u.natAbs < 41 → (u * k).natAbs < 10000 := fun u hu => by
      have := prod_bound (a := u) (b := k) (M := 41) (N := 13) hu (by omega) (by decide)
      omega
    exact ⟨b _ (by omega), b _ (by omega)⟩
  nodup := by
    rw [List.nodup_iff_pairwise_ne, List.pairwise_map]
    refine (List.nodup_iff_pairwise_ne.1 h.nodup).imp fun {p q} hne e => hne ?_
    have eq : ∀ u v s : Int, (u + s) * k = (v + s) * k → u = v := fun u v s h => by
      have := Int.eq_of_mul_eq_mul_right (by omega) h
      omega
    have e1 := congrArg Prod.fst e
    have e2 := congrArg Prod.snd e
    exact Prod.ext (eq _ _ _ e1) (eq _ _ _ e2)
  pl := by rw [List.length_map]; exact h.pl
  tl := h.tl
  t0 := h.t0
  inn := by simpa using h.inn
  pos := by
    intro u hu
    obtain ⟨⟨_, a1⟩, ⟨_, b1⟩, ⟨_, c1⟩⟩ := h.inn u hu
    rw [getD_mv _ _ _ a1, getD_mv _ _ _ b1, getD_mv _ _ _ c1, det_mv]
    exact Int.mul_pos (h.pos u hu) (Int.mul_pos hk hk)
  sides := h.sides
  cyc := h.cyc
  cnd := h.cnd
  cl := h.cl
  cmin := h.cmin
  cin := by simpa using h.cin
  left := by
    intro i hi
    rw [ptAt_mv _ _ _ (by simp) h.cin, ptAt_mv _ _ _ (by simp) h.cin, ptAt_mv _ _ _ (by simp) h.cin, det_mv]
    exact Int.mul_nonneg (h.left i hi) (Int.mul_nonneg (by omega) (by omega))
  round := by rw [turns_mv s t k hk (by simp) h.cin]; exact h.round
  used := by rw [List.length_map]; exact h.used
theorem sheet0 : Sheet [(0, 0), (4, 0), (4, 4), (0, 4)] [(0, 1, 2), (0, 2, 3)] 0 [1, 2, 3] := by constructor <;> decide
theorem sheet1 : Sheet [(0, 0), (4, 0), (4, 4), (0, 4)] [(0, 1, 3), (1, 2, 3)] 0 [1, 2, 3] := by constructor <;> decide
theorem sheet2 : Sheet [(0, 0), (4, 0), (4, 4), (0, 4), (2, 1)] [(0, 1, 4), (1, 2, 4), (2, 3, 4), (3, 0, 4)] 0 [1, 2, 3] := by constructor <;> decide
theorem sheet3 : Sheet [(0, 0), (6, 0), (0, 4)] [(2, 0, 1)] 0 [1, 2] := by constructor <;> decide
theorem sheet4 : Sheet [(0, 0), (2, 0), (4, 0), (0, 2), (2, 2), (4, 2)] [(0, 1, 4), (0, 4, 3), (1, 2, 5), (1, 5, 4)] 0 [1, 2, 5, 4, 3] := by constructor <;> decide
theorem sheet5 : Sheet [(1, 4), (5, 3), (4, 0), (0, 0)] [(3, 2, 1), (3, 1, 0)] 0 [3, 2, 1] := by constructor <;> decide
theorem sheet6 : Sheet [(0, 0), (4, 0), (4, 4), (0, 4), (2, 0)] [(0, 4, 3), (4, 2, 3), (4, 1, 2)] 0 [4, 1, 2, 3] := by constructor <;> decide
theorem sheet7 : Sheet [(0, 0), (6, 0), (0, 6), (2, 2)] [(0, 1, 3), (1, 2, 3), (2, 0, 3)] 0 [1, 2] := by constructor <;> decide
end Go.Flow.Tryz
namespace Go.Flow.Tryz
open Go Go.Proofs Go.RowKit Go.Flow
set_option maxRecDepth 100000
theorem place_one_ok (k : Int) (a : Int) (b : Int) (x : Int) (y : Int) (by' : Int) (u : List UInt8) (v : List UInt8) (h : AllP
    [false = false,
     (0 : Int) ≤ (0 : Int) ∧ (0 : Int) < (↑(2 : Nat) : Int),
     IntKind.wrap IntKind.i64 x = x,
     (0 : Int) ≤ (0 : Int) ∧ (0 : Int) < (↑(2 : Nat) : Int),
     (8 : Int) ≠ (0 : Int),
     IntKind.wrap IntKind.i64 (Int.tmod a (8 : Int)) = Int.tmod a (8 : Int),
     IntKind.wrap IntKind.i64 (Int.tmod a (8 : Int) * by') = Int.tmod a (8 : Int) * by',
     IntKind.wrap IntKind.i64 (x + Int.tmod a (8 : Int) * by') = x + Int.tmod a (8 : Int) * by',
     IntKind.wrap IntKind.i64 ((1 : Int) * by') = (1 : Int) * by',
     CallsTo Tryz.prog (17 : Nat) [iv ((x + Int.tmod a (8 : Int) * by')), iv (((1 : Int) * by'))] (AV.tup [sv u, iv 0]),
     (0 : Int) ≤ (1 : Int) ∧ (1 : Int) < (↑(2 : Nat) : Int),
     IntKind.wrap IntKind.i64 y = y,
     (0 : Int) ≤ (1 : Int) ∧ (1 : Int) < (↑(2 : Nat) : Int),
     (8 : Int) ≠ (0 : Int),
     IntKind.wrap IntKind.i64 (Int.tmod b (8 : Int)) = Int.tmod b (8 : Int),
     IntKind.wrap IntKind.i64 (Int.tmod b (8 : Int) * by') = Int.tmod b (8 : Int) * by',
     IntKind.wrap IntKind.i64 (y + Int.tmod b (8 : Int) * by') = y + Int.tmod b (8 : Int) * by',
     IntKind.wrap IntKind.i64 ((1 : Int) * by') = (1 : Int) * by',
     CallsTo Tryz.prog (17 : Nat) [iv ((y + Int.tmod b (8 : Int) * by')), iv (((1 : Int) * by'))] (AV.tup [sv v, iv 0])]) :
    CallsTo Tryz.prog 24 [AV.agg [AV.v (Value.int IntKind.u8 k), AV.v (Value.int IntKind.i8 a), AV.v (Value.int IntKind.i8 b), bv (false)], AV.agg [AV.v (Value.int IntKind.i8 x), AV.v (Value.int IntKind.i8 y)], iv (by')] (AV.agg [sv u, sv v]) :=
  fn_ok fits hmix Tryz.func24 (by kernel_rfl)
    [Orc.b false, Orc.a (AV.tup [sv u, iv 0]), Orc.a (AV.tup [sv v, iv 0])] (by kernel_rfl) h
theorem place_half_ok (k : Int) (a : Int) (b : Int) (x : Int) (y : Int) (by' : Int) (u : List UInt8) (v : List UInt8) (h : AllP
    [true = true,
     (0 : Int) ≤ (0 : Int) ∧ (0 : Int) < (↑(2 : Nat) : Int),
     IntKind.wrap IntKind.i64 x = x,
     (0 : Int) ≤ (0 : Int) ∧ (0 : Int) < (↑(2 : Nat) : Int),
     (8 : Int) ≠ (0 : Int),
     IntKind.wrap IntKind.i64 (Int.tmod a (8 : Int)) = Int.tmod a (8 : Int),
     IntKind.wrap IntKind.i64 (Int.tmod a (8 : Int) * by') = Int.tmod a (8 : Int) * by',
     IntKind.wrap IntKind.i64 (x + Int.tmod a (8 : Int) * by') = x + Int.tmod a (8 : Int) * by',
     IntKind.wrap IntKind.i64 ((2 : Int) * by') = (2 : Int) * by',
     CallsTo Tryz.prog (17 : Nat) [iv ((x + Int.tmod a (8 : Int) * by')), iv (((2 : Int) * by'))] (AV.tup [sv u, iv 0]),
     (0 : Int) ≤ (1 : Int) ∧ (1 : Int) < (↑(2 : Nat) : Int),
     IntKind.wrap IntKind.i64 y = y,
     (0 : Int) ≤ (1 : Int) ∧ (1 : Int) < (↑(2 : Nat) : Int),
     (8 : Int) ≠ (0 : Int),
     IntKind.wrap IntKind.i64 (Int.tmod b (8 : Int)) = Int.tmod b (8 : Int),
     IntKind.wrap IntKind.i64 (Int.tmod b (8 : Int) * by') = Int.tmod b (8 : Int) * by',
     IntKind.wrap IntKind.i64 (y + Int.tmod b (8 : Int) * by') = y + Int.tmod b (8 : Int) * by',
     IntKind.wrap IntKind.i64 ((2 : Int) * by') = (2 : Int) * by',
     CallsTo Tryz.prog (17 : Nat) [iv ((y + Int.tmod b (8 : Int) * by')), iv (((2 : Int) * by'))] (AV.tup [sv v, iv 0])]) :
    CallsTo Tryz.prog 24 [AV.agg [AV.v (Value.int IntKind.u8 k), AV.v (Value.int IntKind.i8 a), AV.v (Value.int IntKind.i8 b), bv (true)], AV.agg [AV.v (Value.int IntKind.i8 x), AV.v (Value.int IntKind.i8 y)], iv (by')] (AV.agg [sv u, sv v]) :=
  fn_ok fits hmix Tryz.func24 (by kernel_rfl)
    [Orc.b true, Orc.a (AV.tup [sv u, iv 0]), Orc.a (AV.tup [sv v, iv 0])] (by kernel_rfl) h
theorem shape0_ok (k : Int) (h : AllP
    [(8 : Int) ≠ (0 : Int),
     (Int.tmod k (8 : Int) == (0 : Int)) = true]) :
    CallsTo Tryz.prog 67 [AV.v (Value.int IntKind.u8 k)] (AV.tup [AV.lst 2 [AV.agg [iv 0, iv 0], AV.agg [iv 4, iv 0], AV.agg [iv 4, iv 4], AV.agg [iv 0, iv 4]], AV.lst 3 [AV.agg [iv 0, iv 1, iv 2], AV.agg [iv 0, iv 2, iv 3]]]) :=
  fn_ok fits hmix Tryz.func67 (by kernel_rfl)
    [Orc.b true] (by kernel_rfl) h
theorem shape1_ok (k : Int) (h : AllP
    [(8 : Int) ≠ (0 : Int),
     (Int.tmod k (8 : Int) == (0 : Int)) = false,
     (Int.tmod k (8 : Int) == (1 : Int)) = true]) :
    CallsTo Tryz.prog 67 [AV.v (Value.int IntKind.u8 k)] (AV.tup [AV.lst 2 [AV.agg [iv 0, iv 0], AV.agg [iv 4, iv 0], AV.agg [iv 4, iv 4], AV.agg [iv 0, iv 4]], AV.lst 3 [AV.agg [iv 0, iv 1, iv 3], AV.agg [iv 1, iv 2, iv 3]]]) :=
  fn_ok fits hmix Tryz.func67 (by kernel_rfl)
    [Orc.b false, Orc.b true] (by kernel_rfl) h
theorem shape2_ok (k : Int) (h : AllP
    [(8 : Int) ≠ (0 : Int),
     (Int.tmod k (8 : Int) == (0 : Int)) = false,
     (Int.tmod k (8 : Int) == (1 : Int)) = false,
     (Int.tmod k (8 : Int) == (2 : Int)) = true,
     nat_lit 5 ≤ nat_lit 9223372036854775807 ∧ nat_lit 80 ≤ nat_lit 140737488355328]) :
    CallsTo Tryz.prog 67 [AV.v (Value.int IntKind.u8 k)] (AV.tup [AV.lst 2 [AV.agg [iv 0, iv 0], AV.agg [iv 4, iv 0], AV.agg [iv 4, iv 4], AV.agg [iv 0, iv 4], AV.agg [iv 2, iv 1]], AV.lst 3 [AV.agg [iv 0, iv 1, iv 4], AV.agg [iv 1, iv 2, iv 4], AV.agg [iv 2, iv 3, iv 4], AV.agg [iv 3, iv 0, iv 4]]]) :=
  fn_ok fits hmix Tryz.func67 (by kernel_rfl)
    [Orc.b false, Orc.b false, Orc.b true] (by kernel_rfl) h
theorem shape3_ok (k : Int) (h : AllP
    [(8 : Int) ≠ (0 : Int),
     (Int.tmod k (8 : Int) == (0 : Int)) = false,
     (Int.tmod k (8 : Int) == (1 : Int)) = false,
     (Int.tmod k (8 : Int) == (2 : Int)) = false,
     (Int.tmod k (8 : Int) == (3 : Int)) = true]) :
    CallsTo Tryz.prog 67 [AV.v (Value.int IntKind.u8 k)] (AV.tup [AV.lst 2 [AV.agg [iv 0, iv 0], AV.agg [iv 6, iv 0], AV.agg [iv 0, iv 4]], AV.lst 3 [AV.agg [iv 2, iv 0, iv 1]]]) :=
  fn_ok fits hmix Tryz.func67 (by kernel_rfl)
    [Orc.b false, Orc.b false, Orc.b false, Orc.b true] (by kernel_rfl) h
theorem shape4_ok (k : Int) (h : AllP
    [(8 : Int) ≠ (0 : Int),
     (Int.tmod k (8 : Int) == (0 : Int)) = false,
     (Int.tmod k (8 : Int) == (1 : Int)) = false,
     (Int.tmod k (8 : Int) == (2 : Int)) = false,
     (Int.tmod k (8 : Int) == (3 : Int)) = false,
     (Int.tmod k (8 : Int) == (4 : Int)) = true]) :
    CallsTo Tryz.prog 67 [AV.v (Value.int IntKind.u8 k)] (AV.tup [AV.lst 2 [AV.agg [iv 0, iv 0], AV.agg [iv 2, iv 0], AV.agg [iv 4, iv 0], AV.agg [iv 0, iv 2], AV.agg [iv 2, iv 2], AV.agg [iv 4, iv 2]], AV.lst 3 [AV.agg [iv 0, iv 1, iv 4], AV.agg [iv 0, iv 4, iv 3], AV.agg [iv 1, iv 2, iv 5], AV.agg [iv 1, iv 5, iv 4]]]) :=
  fn_ok fits hmix Tryz.func67 (by kernel_rfl)
    [Orc.b false, Orc.b false, Orc.b false, Orc.b false, Orc.b true] (by kernel_rfl) h
theorem shape5_ok (k : Int) (h : AllP
    [(8 : Int) ≠ (0 : Int),
     (Int.tmod k (8 : Int) == (0 : Int)) = false,
     (Int.tmod k (8 : Int) == (1 : Int)) = false,
     (Int.tmod k (8 : Int) == (2 : Int)) = false,
     (Int.tmod k (8 : Int) == (3 : Int)) = false,
     (Int.tmod k (8 : Int) == (4 : Int)) = false,
     (Int.tmod k (8 : Int) == (5 : Int)) = true]) :
    CallsTo Tryz.prog 67 [AV.v (Value.int IntKind.u8 k)] (AV.tup [AV.lst 2 [AV.agg [iv 1, iv 4], AV.agg [iv 5, iv 3], AV.agg [iv 4, iv 0], AV.agg [iv 0, iv 0]], AV.lst 3 [AV.agg [iv 3, iv 2, iv 1], AV.agg [iv 3, iv 1, iv 0]]]) :=
  fn_ok fits hmix Tryz.func67 (by kernel_rfl)
    [Orc.b false, Orc.b false, Orc.b false, Orc.b false, Orc.b false, Orc.b true] (by kernel_rfl) h
theorem shape6_ok (k : Int) (h : AllP
    [(8 : Int) ≠ (0 : Int),
     (Int.tmod k (8 : Int) == (0 : Int)) = false,
     (Int.tmod k (8 : Int) == (1 : Int)) = false,
     (Int.tmod k (8 : Int) == (2 : Int)) = false,
     (Int.tmod k (8 : Int) == (3 : Int)) = false,
     (Int.tmod k (8 : Int) == (4 : Int)) = false,
     (Int.tmod k (8 : Int) == (5 : Int)) = false,
     (Int.tmod k (8 : Int) == (6 : Int)) = true,
     nat_lit 5 ≤ nat_lit 9223372036854775807 ∧ nat_lit 80 ≤ nat_lit 140737488355328]) :
    CallsTo Tryz.prog 67 [AV.v (Value.int IntKind.u8 k)] (AV.tup [AV.lst 2 [AV.agg [iv 0, iv 0], AV.agg [iv 4, iv 0], AV.agg [iv 4, iv 4], AV.agg [iv 0, iv 4], AV.agg [iv 2, iv 0]], AV.lst 3 [AV.agg [iv 0, iv 4, iv 3], AV.agg [iv 4, iv 2, iv 3], AV.agg [iv 4, iv 1, iv 2]]]) :=
  fn_ok fits hmix Tryz.func67 (by kernel_rfl)
    [Orc.b false, Orc.b false, Orc.b false, Orc.b false, Orc.b false, Orc.b false, Orc.b true] (by kernel_rfl) h
theorem shape7_ok (k : Int) (h : AllP
    [(8 : Int) ≠ (0 : Int),
     (Int.tmod k (8 : Int) == (0 : Int)) = false,
     (Int.tmod k (8 : Int) == (1 : Int)) = false,
     (Int.tmod k (8 : Int) == (2 : Int)) = false,
     (Int.tmod k (8 : Int) == (3 : Int)) = false,
     (Int.tmod k (8 : Int) == (4 : Int)) = false,
     (Int.tmod k (8 : Int) == (5 : Int)) = false,
     (Int.tmod k (8 : Int) == (6 : Int)) = false]) :
    CallsTo Tryz.prog 67 [AV.v (Value.int IntKind.u8 k)] (AV.tup [AV.lst 2 [AV.agg [iv 0, iv 0], AV.agg [iv 6, iv 0], AV.agg [iv 0, iv 6], AV.agg [iv 2, iv 2]], AV.lst 3 [AV.agg [iv 0, iv 1, iv 3], AV.agg [iv 1, iv 2, iv 3], AV.agg [iv 2, iv 0, iv 3]]]) :=
  fn_ok fits hmix Tryz.func67 (by kernel_rfl)
    [Orc.b false, Orc.b false, Orc.b false, Orc.b false, Orc.b false, Orc.b false, Orc.b false] (by kernel_rfl) h
end Go.Flow.Tryz
namespace Go.Flow.Tryz
open Go Go.Proofs Go.RowKit Go.Flow
set_option maxRecDepth 100000
abbrev sheetAV (k a b : Int) (h : Bool) : AV := .agg [.v (.int .u8 k), .v (.int .i8 a), .v (.int .i8 b), bv h]
abbrev i8x2 (x y : Int) : AV := .agg [.v (.int .i8 x), .v (.int .i8 y)]
theorem tmod8 (a : Int) : (Int.tmod a 8).natAbs < 8 := by
  have h := Int.natAbs_tmod a 8
  rw [h]
  exact Nat.mod_lt _ (by decide)
theorem mulb {u n : Int} (hu : u.natAbs < 8) (h0 : 0 < n) (h6 : n ≤ 6) : (u * n).natAbs < 56 := by
  have := prod_bound (a := u) (b := n) (M := 8) (N := 7) hu (by omega) (by decide)
  omega
theorem place_ok (k a b x y : Int) (h : Bool) (n c : Nat) (hx : x.natAbs ≤ 128) (hy : y.natAbs ≤ 128) (hn : 0 < n) (hn6 : n ≤ 6) (hc : 0 < c) (h12 : (if h then 2 else 1) * n * c = 12) :
    CallsTo Tryz.prog 24 [sheetAV k a b h, i8x2 x y, iv n] (.agg (ptS 12 ((x + Int.tmod a 8 * n) * c, (y + Int.tmod b 8 * n) * c))) := by
  have ba := mulb (tmod8 a) (n := n) (by omega) (by omega)
  have bb := mulb (tmod8 b) (n := n) (by omega) (by omega)
  have ta := tmod8 a
  have tb := tmod8 b
  have wx : IntKind.i64.wrap x = x := by rw [w64]; omega
  have wy : IntKind.i64.wrap y = y := by rw [w64]; omega
  have w1 : IntKind.i64.wrap (Int.tmod a 8) = Int.tmod a 8 := by rw [w64]; omega
  have w2 : IntKind.i64.wrap (Int.tmod b 8) = Int.tmod b 8 := by rw [w64]; omega
  have w3 : IntKind.i64.wrap (Int.tmod a 8 * n) = Int.tmod a 8 * n := by rw [w64]; omega
  have w4 : IntKind.i64.wrap (Int.tmod b 8 * n) = Int.tmod b 8 * n := by rw [w64]; omega
  have w5 : IntKind.i64.wrap (x + Int.tmod a 8 * n) = x + Int.tmod a 8 * n := by rw [w64]; omega
  have w6 : IntKind.i64.wrap (y + Int.tmod b 8 * n) = y + Int.tmod b 8 * n := by rw [w64]; omega
  cases h with
  | false =>
    have w7 : IntKind.i64.wrap (1 * (n : Int)) = 1 * (n : Int) := by rw [w64]; omega
    have e : (12 : Nat) = n * c := by simpa using h12.symm
    have o1 := of_ok (x + Int.tmod a 8 * n) n hn (by omega) (by omega)
    have o2 := of_ok (y + Int.tmod b 8 * n) n hn (by omega) (by omega)
    rw [show (n : Int) = 1 * (n : Int) from (Int.one_mul _).symm] at o1 o2
    rw [e]
    show CallsTo _ _ _ (.agg [sv (fT _ (n * c)), sv (fT _ (n * c))])
    rw [fT_mul _ _ _ hc, fT_mul _ _ _ hc]
    refine place_one_ok k a b x y n _ _ ?_
    repeat' first | exact AllP.nil | refine AllP.cons ?_ ?_
    all_goals first | rfl | decide | exact wx | exact wy | exact w1 | exact w2 | exact w3 | exact w4 | exact w5 | exact w6 | exact w7 | (simpa using o1) | (simpa using o2)
  | true =>
    have w7 : IntKind.i64.wrap (2 * (n : Int)) = 2 * (n : Int) := by rw [w64]; omega
    have e : (12 : Nat) = (2 * n) * c := by simpa using h12.symm
    have o1 := of_ok (x + Int.tmod a 8 * n) (2 * n) (by omega) (by omega) (by omega)
    have o2 := of_ok (y + Int.tmod b 8 * n) (2 * n) (by omega) (by omega) (by omega)
    rw [show ((2 * n : Nat) : Int) = 2 * (n : Int) by push_cast; rfl] at o1 o2
    rw [e]
    show CallsTo _ _ _ (.agg [sv (fT _ (2 * n * c)), sv (fT _ (2 * n * c))])
    rw [fT_mul _ _ _ hc, fT_mul _ _ _ hc]
    refine place_half_ok k a b x y n _ _ ?_
    repeat' first | exact AllP.nil | refine AllP.cons ?_ ?_
    all_goals first | rfl | decide | exact wx | exact wy | exact w1 | exact w2 | exact w3 | exact w4 | exact w5 | exact w6 | exact w7 | exact o1 | exact o2
end Go.Flow.Tryz
namespace Go.Flow.Tryz
open Go Go.Proofs Go.RowKit Go.Flow
set_option maxRecDepth 100000
theorem make0_ok (k : Int) (a : Int) (b : Int) (hb : Bool) (u0 : List UInt8) (v0 : List UInt8) (u1 : List UInt8) (v1 : List UInt8) (u2 : List UInt8) (v2 : List UInt8) (u3 : List UInt8) (v3 : List UInt8) (h : AllP
    [CallsTo Tryz.prog (67 : Nat) [AV.v (Value.int IntKind.u8 k)] (AV.tup [AV.lst 2 [AV.agg [iv 0, iv 0], AV.agg [iv 4, iv 0], AV.agg [iv 4, iv 4], AV.agg [iv 0, iv 4]], AV.lst 3 [AV.agg [iv 0, iv 1, iv 2], AV.agg [iv 0, iv 2, iv 3]]]),
     true = true,
     (0 : Int) ≤ (0 : Int) ∧ some (AV.agg [iv 0, iv 0]) = some (AV.agg [iv 0, iv 0]),
     (0 : Int) ≤ (0 : Int) ∧ (0 : Int) < (↑(2 : Nat) : Int),
     IntKind.wrap IntKind.i8 (0 : Int) = (0 : Int),
     (0 : Int) ≤ (0 : Int) ∧ some (AV.agg [iv 0, iv 0]) = some (AV.agg [iv 0, iv 0]),
     (0 : Int) ≤ (1 : Int) ∧ (1 : Int) < (↑(2 : Nat) : Int),
     IntKind.wrap IntKind.i8 (0 : Int) = (0 : Int),
     CallsTo Tryz.prog (24 : Nat) [AV.agg [AV.v (Value.int IntKind.u8 k), AV.v (Value.int IntKind.i8 a), AV.v (Value.int IntKind.i8 b), bv (hb)], AV.agg [AV.v (Value.int IntKind.i8 (0 : Int)), AV.v (Value.int IntKind.i8 (0 : Int))], iv 1] (AV.agg [sv u0, sv v0]),
     nat_lit 1 ≤ nat_lit 9223372036854775807 ∧ nat_lit 32 ≤ nat_lit 140737488355328,
     IntKind.wrap IntKind.i64 ((0 : Int) + (1 : Int)) = (0 : Int) + (1 : Int),
     true = true,
     (0 : Int) ≤ (0 : Int) + (1 : Int) ∧ some (AV.agg [iv 4, iv 0]) = some (AV.agg [iv 4, iv 0]),
     (0 : Int) ≤ (0 : Int) ∧ (0 : Int) < (↑(2 : Nat) : Int),
     IntKind.wrap IntKind.i8 (4 : Int) = (4 : Int),
     (0 : Int) ≤ (0 : Int) + (1 : Int) ∧ some (AV.agg [iv 4, iv 0]) = some (AV.agg [iv 4, iv 0]),
     (0 : Int) ≤ (1 : Int) ∧ (1 : Int) < (↑(2 : Nat) : Int),
     IntKind.wrap IntKind.i8 (0 : Int) = (0 : Int),
     CallsTo Tryz.prog (24 : Nat) [AV.agg [AV.v (Value.int IntKind.u8 k), AV.v (Value.int IntKind.i8 a), AV.v (Value.int IntKind.i8 b), bv (hb)], AV.agg [AV.v (Value.int IntKind.i8 (4 : Int)), AV.v (Value.int IntKind.i8 (0 : Int))], iv 1] (AV.agg [sv u1, sv v1]),
     nat_lit 2 ≤ nat_lit 9223372036854775807 ∧ nat_lit 64 ≤ nat_lit 140737488355328,
     IntKind.wrap IntKind.i64 ((0 : Int) + (1 : Int) + (1 : Int)) = (0 : Int) + (1 : Int) + (1 : Int),
     true = true,
     (0 : Int) ≤ (0 : Int) + (1 : Int) + (1 : Int) ∧ some (AV.agg [iv 4, iv 4]) = some (AV.agg [iv 4, iv 4]),
     (0 : Int) ≤ (0 : Int) ∧ (0 : Int) < (↑(2 : Nat) : Int),
     IntKind.wrap IntKind.i8 (4 : Int) = (4 : Int),
     (0 : Int) ≤ (0 : Int) + (1 : Int) + (1 : Int) ∧ some (AV.agg [iv 4, iv 4]) = some (AV.agg [iv 4, iv 4]),
     (0 : Int) ≤ (1 : Int) ∧ (1 : Int) < (↑(2 : Nat) : Int),
     IntKind.wrap IntKind.i8 (4 : Int) = (4 : Int),
     CallsTo Tryz.prog (24 : Nat) [AV.agg [AV.v (Value.int IntKind.u8 k), AV.v (Value.int IntKind.i8 a), AV.v (Value.int IntKind.i8 b), bv (hb)], AV.agg [AV.v (Value.int IntKind.i8 (4 : Int)), AV.v (Value.int IntKind.i8 (4 : Int))], iv 1] (AV.agg [sv u2, sv v2]),
     nat_lit 3 ≤ nat_lit 9223372036854775807 ∧ nat_lit 96 ≤ nat_lit 140737488355328,
     IntKind.wrap IntKind.i64 ((0 : Int) + (1 : Int) + (1 : Int) + (1 : Int)) = (0 : Int) + (1 : Int) + (1 : Int) + (1 : Int),
     true = true,
     (0 : Int) ≤ (0 : Int) + (1 : Int) + (1 : Int) + (1 : Int) ∧ some (AV.agg [iv 0, iv 4]) = some (AV.agg [iv 0, iv 4]),
     (0 : Int) ≤ (0 : Int) ∧ (0 : Int) < (↑(2 : Nat) : Int),
     IntKind.wrap IntKind.i8 (0 : Int) = (0 : Int),
     (0 : Int) ≤ (0 : Int) + (1 : Int) + (1 : Int) + (1 : Int) ∧ some (AV.agg [iv 0, iv 4]) = some (AV.agg [iv 0, iv 4]),
     (0 : Int) ≤ (1 : Int) ∧ (1 : Int) < (↑(2 : Nat) : Int),
     IntKind.wrap IntKind.i8 (4 : Int) = (4 : Int),
     CallsTo Tryz.prog (24 : Nat) [AV.agg [AV.v (Value.int IntKind.u8 k), AV.v (Value.int IntKind.i8 a), AV.v (Value.int IntKind.i8 b), bv (hb)], AV.agg [AV.v (Value.int IntKind.i8 (0 : Int)), AV.v (Value.int IntKind.i8 (4 : Int))], iv 1] (AV.agg [sv u3, sv v3]),
     nat_lit 4 ≤ nat_lit 9223372036854775807 ∧ nat_lit 128 ≤ nat_lit 140737488355328,
     IntKind.wrap IntKind.i64 ((0 : Int) + (1 : Int) + (1 : Int) + (1 : Int) + (1 : Int)) = (0 : Int) + (1 : Int) + (1 : Int) + (1 : Int) + (1 : Int),
     false = false]) :
    CallsTo Tryz.prog 23 [AV.agg [AV.v (Value.int IntKind.u8 k), AV.v (Value.int IntKind.i8 a), AV.v (Value.int IntKind.i8 b), bv (hb)]] (AV.agg [AV.lst 2 [AV.agg [sv u0, sv v0], AV.agg [sv u1, sv v1], AV.agg [sv u2, sv v2], AV.agg [sv u3, sv v3]], AV.lst 3 [AV.agg [iv 0, iv 1, iv 2], AV.agg [iv 0, iv 2, iv 3]]]) :=
  fn_ok fits hmix Tryz.func23 (by kernel_rfl)
    [Orc.a (AV.tup [AV.lst 2 [AV.agg [iv 0, iv 0], AV.agg [iv 4, iv 0], AV.agg [iv 4, iv 4], AV.agg [iv 0, iv 4]], AV.lst 3 [AV.agg [iv 0, iv 1, iv 2], AV.agg [iv 0, iv 2, iv 3]]]), Orc.u (5 : Nat), Orc.b true, Orc.a (AV.agg [iv 0, iv 0]), Orc.a (AV.agg [iv 0, iv 0]), Orc.a (AV.agg [sv u0, sv v0]), Orc.b true, Orc.a (AV.agg [iv 4, iv 0]), Orc.a (AV.agg [iv 4, iv 0]), Orc.a (AV.agg [sv u1, sv v1]), Orc.b true, Orc.a (AV.agg [iv 4, iv 4]), Orc.a (AV.agg [iv 4, iv 4]), Orc.a (AV.agg [sv u2, sv v2]), Orc.b true, Orc.a (AV.agg [iv 0, iv 4]), Orc.a (AV.agg [iv 0, iv 4]), Orc.a (AV.agg [sv u3, sv v3]), Orc.b false] (by kernel_rfl) h
theorem make1_ok (k : Int) (a : Int) (b : Int) (hb : Bool) (u0 : List UInt8) (v0 : List UInt8) (u1 : List UInt8) (v1 : List UInt8) (u2 : List UInt8) (v2 : List UInt8) (u3 : List UInt8) (v3 : List UInt8) (h : AllP
    [CallsTo Tryz.prog (67 : Nat) [AV.v (Value.int IntKind.u8 k)] (AV.tup [AV.lst 2 [AV.agg [iv 0, iv 0], AV.agg [iv 4, iv 0], AV.agg [iv 4, iv 4], AV.agg [iv 0, iv 4]], AV.lst 3 [AV.agg [iv 0, iv 1, iv 3], AV.agg [iv 1, iv 2, iv 3]]]),
     true = true,
     (0 : Int) ≤ (0 : Int) ∧ some (AV.agg [iv 0, iv 0]) = some (AV.agg [iv 0, iv 0]),
     (0 : Int) ≤ (0 : Int) ∧ (0 : Int) < (↑(2 : Nat) : Int),
     IntKind.wrap IntKind.i8 (0 : Int) = (0 : Int),
     (0 : Int) ≤ (0 : Int) ∧ some (AV.agg [iv 0, iv 0]) = some (AV.agg [iv 0, iv 0]),
     (0 : Int) ≤ (1 : Int) ∧ (1 : Int) < (↑(2 : Nat) : Int),
     IntKind.wrap IntKind.i8 (0 : Int) = (0 : Int),
     CallsTo Tryz.prog (24 : Nat) [AV.agg [AV.v (Value.int IntKind.u8 k), AV.v (Value.int IntKind.i8 a), AV.v (Value.int IntKind.i8 b), bv (hb)], AV.agg [AV.v (Value.int IntKind.i8 (0 : Int)), AV.v (Value.int IntKind.i8 (0 : Int))], iv 1] (AV.agg [sv u0, sv v0]),
     nat_lit 1 ≤ nat_lit 9223372036854775807 ∧ nat_lit 32 ≤ nat_lit 140737488355328,
     IntKind.wrap IntKind.i64 ((0 : Int) + (1 : Int)) = (0 : Int) + (1 : Int),
     true = true,
     (0 : Int) ≤ (0 : Int) + (1 : Int) ∧ some (AV.agg [iv 4, iv 0]) = some (AV.agg [iv 4, iv 0]),
     (0 : Int) ≤ (0 : Int) ∧ (0 : Int) < (↑(2 : Nat) : Int),
     IntKind.wrap IntKind.i8 (4 : Int) = (4 : Int),
     (0 : Int) ≤ (0 : Int) + (1 : Int) ∧ some (AV.agg [iv 4, iv 0]) = some (AV.agg [iv 4, iv 0]),
     (0 : Int) ≤ (1 : Int) ∧ (1 : Int) < (↑(2 : Nat) : Int),
     IntKind.wrap IntKind.i8 (0 : Int) = (0 : Int),
     CallsTo Tryz.prog (24 : Nat) [AV.agg [AV.v (Value.int IntKind.u8 k), AV.v (Value.int IntKind.i8 a), AV.v (Value.int IntKind.i8 b), bv (hb)], AV.agg [AV.v (Value.int IntKind.i8 (4 : Int)), AV.v (Value.int IntKind.i8 (0 : Int))], iv 1] (AV.agg [sv u1, sv v1]),
     nat_lit 2 ≤ nat_lit 9223372036854775807 ∧ nat_lit 64 ≤ nat_lit 140737488355328,
     IntKind.wrap IntKind.i64 ((0 : Int) + (1 : Int) + (1 : Int)) = (0 : Int) + (1 : Int) + (1 : Int),
     true = true,
     (0 : Int) ≤ (0 : Int) + (1 : Int) + (1 : Int) ∧ some (AV.agg [iv 4, iv 4]) = some (AV.agg [iv 4, iv 4]),
     (0 : Int) ≤ (0 : Int) ∧ (0 : Int) < (↑(2 : Nat) : Int),
     IntKind.wrap IntKind.i8 (4 : Int) = (4 : Int),
     (0 : Int) ≤ (0 : Int) + (1 : Int) + (1 : Int) ∧ some (AV.agg [iv 4, iv 4]) = some (AV.agg [iv 4, iv 4]),
     (0 : Int) ≤ (1 : Int) ∧ (1 : Int) < (↑(2 : Nat) : Int),
     IntKind.wrap IntKind.i8 (4 : Int) = (4 : Int),
     CallsTo Tryz.prog (24 : Nat) [AV.agg [AV.v (Value.int IntKind.u8 k), AV.v (Value.int IntKind.i8 a), AV.v (Value.int IntKind.i8 b), bv (hb)], AV.agg [AV.v (Value.int IntKind.i8 (4 : Int)), AV.v (Value.int IntKind.i8 (4 : Int))], iv 1] (AV.agg [sv u2, sv v2]),
     nat_lit 3 ≤ nat_lit 9223372036854775807 ∧ nat_lit 96 ≤ nat_lit 140737488355328,
     IntKind.wrap IntKind.i64 ((0 : Int) + (1 : Int) + (1 : Int) + (1 : Int)) = (0 : Int) + (1 : Int) + (1 : Int) + (1 : Int),
     true = true,
     (0 : Int) ≤ (0 : Int) + (1 : Int) + (1 : Int) + (1 : Int) ∧ some (AV.agg [iv 0, iv 4]) = some (AV.agg [iv 0, iv 4]),
     (0 : Int) ≤ (0 : Int) ∧ (0 : Int) < (↑(2 : Nat) : Int),
     IntKind.wrap IntKind.i8 (0 : Int) = (0 : Int),
     (0 : Int) ≤ (0 : Int) + (1 : Int) + (1 : Int) + (1 : Int) ∧ some (AV.agg [iv 0, iv 4]) = some (AV.agg [iv 0, iv 4]),
     (0 : Int) ≤ (1 : Int) ∧ (1 : Int) < (↑(2 : Nat) : Int),
     IntKind.wrap IntKind.i8 (4 : Int) = (4 : Int),
     CallsTo Tryz.prog (24 : Nat) [AV.agg [AV.v (Value.int IntKind.u8 k), AV.v (Value.int IntKind.i8 a), AV.v (Value.int IntKind.i8 b), bv (hb)], AV.agg [AV.v (Value.int IntKind.i8 (0 : Int)), AV.v (Value.int IntKind.i8 (4 : Int))], iv 1] (AV.agg [sv u3, sv v3]),
     nat_lit 4 ≤ nat_lit 9223372036854775807 ∧ nat_lit 128 ≤ nat_lit 140737488355328,
     IntKind.wrap IntKind.i64 ((0 : Int) + (1 : Int) + (1 : Int) + (1 : Int) + (1 : Int)) = (0 : Int) + (1 : Int) + (1 : Int) + (1 : Int) + (1 : Int),
     false = false]) :
    CallsTo Tryz.prog 23 [AV.agg [AV.v (Value.int IntKind.u8 k), AV.v (Value.int IntKind.i8 a), AV.v (Value.int IntKind.i8 b), bv (hb)]] (AV.agg [AV.lst 2 [AV.agg [sv u0, sv v0], AV.agg [sv u1, sv v1], AV.agg [sv u2, sv v2], AV.agg [sv u3, sv v3]], AV.lst 3 [AV.agg [iv 0, iv 1, iv 3], AV.agg [iv 1, iv 2, iv 3]]]) :=
  fn_ok fits hmix Tryz.func23 (by kernel_rfl)
    [Orc.a (AV.tup [AV.lst 2 [AV.agg [iv 0, iv 0], AV.agg [iv 4, iv 0], AV.agg [iv 4, iv 4], AV.agg [iv 0, iv 4]], AV.lst 3 [AV.agg [iv 0, iv 1, iv 3], AV.agg [iv 1, iv 2, iv 3]]]), Orc.u (5 : Nat), Orc.b true, Orc.a (AV.agg [iv 0, iv 0]), Orc.a (AV.agg [iv 0, iv 0]), Orc.a (AV.agg [sv u0, sv v0]), Orc.b true, Orc.a (AV.agg [iv 4, iv 0]), Orc.a (AV.agg [iv 4, iv 0]), Orc.a (AV.agg [sv u1, sv v1]), Orc.b true, Orc.a (AV.agg [iv 4, iv 4]), Orc.a (AV.agg [iv 4, iv 4]), Orc.a (AV.agg [sv u2, sv v2]), Orc.b true, Orc.a (AV.agg [iv 0, iv 4]), Orc.a (AV.agg [iv 0, iv 4]), Orc.a (AV.agg [sv u3, sv v3]), Orc.b false] (by kernel_rfl) h
end Go.Flow.Tryz
namespace Go.Flow.Tryz
open Go Go.Proofs Go.RowKit Go.Flow
set_option maxRecDepth 100000
theorem make2_ok (k : Int) (a : Int) (b : Int) (hb : Bool) (u0 : List UInt8) (v0 : List UInt8) (u1 : List UInt8) (v1 : List UInt8) (u2 : List UInt8) (v2 : List UInt8) (u3 : List UInt8) (v3 : List UInt8) (u4 : List UInt8) (v4 : List UInt8) (h : AllP
    [CallsTo Tryz.prog (67 : Nat) [AV.v (Value.int IntKind.u8 k)] (AV.tup [AV.lst 2 [AV.agg [iv 0, iv 0], AV.agg [iv 4, iv 0], AV.agg [iv 4, iv 4], AV.agg [iv 0, iv 4], AV.agg [iv 2, iv 1]], AV.lst 3 [AV.agg [iv 0, iv 1, iv 4], AV.agg [iv 1, iv 2, iv 4], AV.agg [iv 2, iv 3, iv 4], AV.agg [iv 3, iv 0, iv 4]]]),
     true = true,
     (0 : Int) ≤ (0 : Int) ∧ some (AV.agg [iv 0, iv 0]) = some (AV.agg [iv 0, iv 0]),
     (0 : Int) ≤ (0 : Int) ∧ (0 : Int) < (↑(2 : Nat) : Int),
     IntKind.wrap IntKind.i8 (0 : Int) = (0 : Int),
     (0 : Int) ≤ (0 : Int) ∧ some (AV.agg [iv 0, iv 0]) = some (AV.agg [iv 0, iv 0]),
     (0 : Int) ≤ (1 : Int) ∧ (1 : Int) < (↑(2 : Nat) : Int),
     IntKind.wrap IntKind.i8 (0 : Int) = (0 : Int),
     CallsTo Tryz.prog (24 : Nat) [AV.agg [AV.v (Value.int IntKind.u8 k), AV.v (Value.int IntKind.i8 a), AV.v (Value.int IntKind.i8 b), bv (hb)], AV.agg [AV.v (Value.int IntKind.i8 (0 : Int)), AV.v (Value.int IntKind.i8 (0 : Int))], iv 1] (AV.agg [sv u0, sv v0]),
     nat_lit 1 ≤ nat_lit 9223372036854775807 ∧ nat_lit 32 ≤ nat_lit 140737488355328,
     IntKind.wrap IntKind.i64 ((0 : Int) + (1 : Int)) = (0 : Int) + (1 : Int),
     true = true,
     (0 : Int) ≤ (0 : Int) + (1 : Int) ∧ some (AV.agg [iv 4, iv 0]) = some (AV.agg [iv 4, iv 0]),
     (0 : Int) ≤ (0 : Int) ∧ (0 : Int) < (↑(2 : Nat) : Int),
     IntKind.wrap IntKind.i8 (4 : Int) = (4 : Int),
     (0 : Int) ≤ (0 : Int) + (1 : Int) ∧ some (AV.agg [iv 4, iv 0]) = some (AV.agg [iv 4, iv 0]),
     (0 : Int) ≤ (1 : Int) ∧ (1 : Int) < (↑(2 : Nat) : Int),
     IntKind.wrap IntKind.i8 (0 : Int) = (0 : Int),
     CallsTo Tryz.prog (24 : Nat) [AV.agg [AV.v (Value.int IntKind.u8 k), AV.v (Value.int IntKind.i8 a), AV.v (Value.int IntKind.i8 b), bv (hb)], AV.agg [AV.v (Value.int IntKind.i8 (4 : Int)), AV.v (Value.int IntKind.i8 (0 : Int))], iv 1] (AV.agg [sv u1, sv v1]),
     nat_lit 2 ≤ nat_lit 9223372036854775807 ∧ nat_lit 64 ≤ nat_lit 140737488355328,
     IntKind.wrap IntKind.i64 ((0 : Int) + (1 : Int) + (1 : Int)) = (0 : Int) + (1 : Int) + (1 : Int),
     true = true,
     (0 : Int) ≤ (0 : Int) + (1 : Int) + (1 : Int) ∧ some (AV.agg [iv 4, iv 4]) = some (AV.agg [iv 4, iv 4]),
     (0 : Int) ≤ (0 : Int) ∧ (0 : Int) < (↑(2 : Nat) : Int),
     IntKind.wrap IntKind.i8 (4 : Int) = (4 : Int),
     (0 : Int) ≤ (0 : Int) + (1 : Int) + (1 : Int) ∧ some (AV.agg [iv 4, iv 4]) = some (AV.agg [iv 4, iv 4]),
     (0 : Int) ≤ (1 : Int) ∧ (1 : Int) < (↑(2 : Nat) : Int),
     IntKind.wrap IntKind.i8 (4 : Int) = (4 : Int),
     CallsTo Tryz.prog (24 : Nat) [AV.agg [AV.v (Value.int IntKind.u8 k), AV.v (Value.int IntKind.i8 a), AV.v (Value.int IntKind.i8 b), bv (hb)], AV.agg [AV.v (Value.int IntKind.i8 (4 : Int)), AV.v (Value.int IntKind.i8 (4 : Int))], iv 1] (AV.agg [sv u2, sv v2]),
     nat_lit 3 ≤ nat_lit 9223372036854775807 ∧ nat_lit 96 ≤ nat_lit 140737488355328,
     IntKind.wrap IntKind.i64 ((0 : Int) + (1 : Int) + (1 : Int) + (1 : Int)) = (0 : Int) + (1 : Int) + (1 : Int) + (1 : Int),
     true = true,
     (0 : Int) ≤ (0 : Int) + (1 : Int) + (1 : Int) + (1 : Int) ∧ some (AV.agg [iv 0, iv 4]) = some (AV.agg [iv 0, iv 4]),
     (0 : Int) ≤ (0 : Int) ∧ (0 : Int) < (↑(2 : Nat) : Int),
     IntKind.wrap IntKind.i8 (0 : Int) = (0 : Int),
     (0 : Int) ≤ (0 : Int) + (1 : Int) + (1 : Int) + (1 : Int) ∧ some (AV.agg [iv 0, iv 4]) = some (AV.agg [iv 0, iv 4]),
     (0 : Int) ≤ (1 : Int) ∧ (1 : Int) < (↑(2 : Nat) : Int),
     IntKind.wrap IntKind.i8 (4 : Int) = (4 : Int),
     CallsTo Tryz.prog (24 : Nat) [AV.agg [AV.v (Value.int IntKind.u8 k), AV.v (Value.int IntKind.i8 a), AV.v (Value.int IntKind.i8 b), bv (hb)], AV.agg [AV.v (Value.int IntKind.i8 (0 : Int)), AV.v (Value.int IntKind.i8 (4 : Int))], iv 1] (AV.agg [sv u3, sv v3]),
     nat_lit 4 ≤ nat_lit 9223372036854775807 ∧ nat_lit 128 ≤ nat_lit 140737488355328,
     IntKind.wrap IntKind.i64 ((0 : Int) + (1 : Int) + (1 : Int) + (1 : Int) + (1 : Int)) = (0 : Int) + (1 : Int) + (1 : Int) + (1 : Int) + (1 : Int),
     true = true,
     (0 : Int) ≤ (0 : Int) + (1 : Int) + (1 : Int) + (1 : Int) + (1 : Int) ∧ some (AV.agg [iv 2, iv 1]) = some (AV.agg [iv 2, iv 1]),
     (0 : Int) ≤ (0 : Int) ∧ (0 : Int) < (↑(2 : Nat) : Int),
     IntKind.wrap IntKind.i8 (2 : Int) = (2 : Int),
     (0 : Int) ≤ (0 : Int) + (1 : Int) + (1 : Int) + (1 : Int) + (1 : Int) ∧ some (AV.agg [iv 2, iv 1]) = some (AV.agg [iv 2, iv 1]),
     (0 : Int) ≤ (1 : Int) ∧ (1 : Int) < (↑(2 : Nat) : Int),
     IntKind.wrap IntKind.i8 (1 : Int) = (1 : Int),
     CallsTo Tryz.prog (24 : Nat) [AV.agg [AV.v (Value.int IntKind.u8 k), AV.v (Value.int IntKind.i8 a), AV.v (Value.int IntKind.i8 b), bv (hb)], AV.agg [AV.v (Value.int IntKind.i8 (2 : Int)), AV.v (Value.int IntKind.i8 (1 : Int))], iv 1] (AV.agg [sv u4, sv v4]),
     nat_lit 5 ≤ nat_lit 9223372036854775807 ∧ nat_lit 160 ≤ nat_lit 140737488355328,
     IntKind.wrap IntKind.i64 ((0 : Int) + (1 : Int) + (1 : Int) + (1 : Int) + (1 : Int) + (1 : Int)) = (0 : Int) + (1 : Int) + (1 : Int) + (1 : Int) + (1 : Int) + (1 : Int),
     false = false]) :
    CallsTo Tryz.prog 23 [AV.agg [AV.v (Value.int IntKind.u8 k), AV.v (Value.int IntKind.i8 a), AV.v (Value.int IntKind.i8 b), bv (hb)]] (AV.agg [AV.lst 2 [AV.agg [sv u0, sv v0], AV.agg [sv u1, sv v1], AV.agg [sv u2, sv v2], AV.agg [sv u3, sv v3], AV.agg [sv u4, sv v4]], AV.lst 3 [AV.agg [iv 0, iv 1, iv 4], AV.agg [iv 1, iv 2, iv 4], AV.agg [iv 2, iv 3, iv 4], AV.agg [iv 3, iv 0, iv 4]]]) :=
  fn_ok fits hmix Tryz.func23 (by kernel_rfl)
    [Orc.a (AV.tup [AV.lst 2 [AV.agg [iv 0, iv 0], AV.agg [iv 4, iv 0], AV.agg [iv 4, iv 4], AV.agg [iv 0, iv 4], AV.agg [iv 2, iv 1]], AV.lst 3 [AV.agg [iv 0, iv 1, iv 4], AV.agg [iv 1, iv 2, iv 4], AV.agg [iv 2, iv 3, iv 4], AV.agg [iv 3, iv 0, iv 4]]]), Orc.u (6 : Nat), Orc.b true, Orc.a (AV.agg [iv 0, iv 0]), Orc.a (AV.agg [iv 0, iv 0]), Orc.a (AV.agg [sv u0, sv v0]), Orc.b true, Orc.a (AV.agg [iv 4, iv 0]), Orc.a (AV.agg [iv 4, iv 0]), Orc.a (AV.agg [sv u1, sv v1]), Orc.b true, Orc.a (AV.agg [iv 4, iv 4]), Orc.a (AV.agg [iv 4, iv 4]), Orc.a (AV.agg [sv u2, sv v2]), Orc.b true, Orc.a (AV.agg [iv 0, iv 4]), Orc.a (AV.agg [iv 0, iv 4]), Orc.a (AV.agg [sv u3, sv v3]), Orc.b true, Orc.a (AV.agg [iv 2, iv 1]), Orc.a (AV.agg [iv 2, iv 1]), Orc.a (AV.agg [sv u4, sv v4]), Orc.b false] (by kernel_rfl) h
theorem make3_ok (k : Int) (a : Int) (b : Int) (hb : Bool) (u0 : List UInt8) (v0 : List UInt8) (u1 : List UInt8) (v1 : List UInt8) (u2 : List UInt8) (v2 : List UInt8) (h : AllP
    [CallsTo Tryz.prog (67 : Nat) [AV.v (Value.int IntKind.u8 k)] (AV.tup [AV.lst 2 [AV.agg [iv 0, iv 0], AV.agg [iv 6, iv 0], AV.agg [iv 0, iv 4]], AV.lst 3 [AV.agg [iv 2, iv 0, iv 1]]]),
     true = true,
     (0 : Int) ≤ (0 : Int) ∧ some (AV.agg [iv 0, iv 0]) = some (AV.agg [iv 0, iv 0]),
     (0 : Int) ≤ (0 : Int) ∧ (0 : Int) < (↑(2 : Nat) : Int),
     IntKind.wrap IntKind.i8 (0 : Int) = (0 : Int),
     (0 : Int) ≤ (0 : Int) ∧ some (AV.agg [iv 0, iv 0]) = some (AV.agg [iv 0, iv 0]),
     (0 : Int) ≤ (1 : Int) ∧ (1 : Int) < (↑(2 : Nat) : Int),
     IntKind.wrap IntKind.i8 (0 : Int) = (0 : Int),
     CallsTo Tryz.prog (24 : Nat) [AV.agg [AV.v (Value.int IntKind.u8 k), AV.v (Value.int IntKind.i8 a), AV.v (Value.int IntKind.i8 b), bv (hb)], AV.agg [AV.v (Value.int IntKind.i8 (0 : Int)), AV.v (Value.int IntKind.i8 (0 : Int))], iv 1] (AV.agg [sv u0, sv v0]),
     nat_lit 1 ≤ nat_lit 9223372036854775807 ∧ nat_lit 32 ≤ nat_lit 140737488355328,
     IntKind.wrap IntKind.i64 ((0 : Int) + (1 : Int)) = (0 : Int) + (1 : Int),
     true = true,
     (0 : Int) ≤ (0 : Int) + (1 : Int) ∧ some (AV.agg [iv 6, iv 0]) = some (AV.agg [iv 6, iv 0]),
     (0 : Int) ≤ (0 : Int) ∧ (0 : Int) < (↑(2 : Nat) : Int),
     IntKind.wrap IntKind.i8 (6 : Int) = (6 : Int),
     (0 : Int) ≤ (0 : Int) + (1 : Int) ∧ some (AV.agg [iv 6, iv 0]) = some (AV.agg [iv 6, iv 0]),
     (0 : Int) ≤ (1 : Int) ∧ (1 : Int) < (↑(2 : Nat) : Int),
     IntKind.wrap IntKind.i8 (0 : Int) = (0 : Int),
     CallsTo Tryz.prog (24 : Nat) [AV.agg [AV.v (Value.int IntKind.u8 k), AV.v (Value.int IntKind.i8 a), AV.v (Value.int IntKind.i8 b), bv (hb)], AV.agg [AV.v (Value.int IntKind.i8 (6 : Int)), AV.v (Value.int IntKind.i8 (0 : Int))], iv 1] (AV.agg [sv u1, sv v1]),
     nat_lit 2 ≤ nat_lit 9223372036854775807 ∧ nat_lit 64 ≤ nat_lit 140737488355328,
     IntKind.wrap IntKind.i64 ((0 : Int) + (1 : Int) + (1 : Int)) = (0 : Int) + (1 : Int) + (1 : Int),
     true = true,
     (0 : Int) ≤ (0 : Int) + (1 : Int) + (1 : Int) ∧ some (AV.agg [iv 0, iv 4]) = some (AV.agg [iv 0, iv 4]),
     (0 : Int) ≤ (0 : Int) ∧ (0 : Int) < (↑(2 : Nat) : Int),
     IntKind.wrap IntKind.i8 (0 : Int) = (0 : Int),
     (0 : Int) ≤ (0 : Int) + (1 : Int) + (1 : Int) ∧ some (AV.agg [iv 0, iv 4]) = some (AV.agg [iv 0, iv 4]),
     (0 : Int) ≤ (1 : Int) ∧ (1 : Int) < (↑(2 : Nat) : Int),
     IntKind.wrap IntKind.i8 (4 : Int) = (4 : Int),
     CallsTo Tryz.prog (24 : Nat) [AV.agg [AV.v (Value.int IntKind.u8 k), AV.v (Value.int IntKind.i8 a), AV.v (Value.int IntKind.i8 b), bv (hb)], AV.agg [AV.v (Value.int IntKind.i8 (0 : Int)), AV.v (Value.int IntKind.i8 (4 : Int))], iv 1] (AV.agg [sv u2, sv v2]),
     nat_lit 3 ≤ nat_lit 9223372036854775807 ∧ nat_lit 96 ≤ nat_lit 140737488355328,
     IntKind.wrap IntKind.i64 ((0 : Int) + (1 : Int) + (1 : Int) + (1 : Int)) = (0 : Int) + (1 : Int) + (1 : Int) + (1 : Int),
     false = false]) :
    CallsTo Tryz.prog 23 [AV.agg [AV.v (Value.int IntKind.u8 k), AV.v (Value.int IntKind.i8 a), AV.v (Value.int IntKind.i8 b), bv (hb)]] (AV.agg [AV.lst 2 [AV.agg [sv u0, sv v0], AV.agg [sv u1, sv v1], AV.agg [sv u2, sv v2]], AV.lst 3 [AV.agg [iv 2, iv 0, iv 1]]]) :=
  fn_ok fits hmix Tryz.func23 (by kernel_rfl)
    [Orc.a (AV.tup [AV.lst 2 [AV.agg [iv 0, iv 0], AV.agg [iv 6, iv 0], AV.agg [iv 0, iv 4]], AV.lst 3 [AV.agg [iv 2, iv 0, iv 1]]]), Orc.u (4 : Nat), Orc.b true, Orc.a (AV.agg [iv 0, iv 0]), Orc.a (AV.agg [iv 0, iv 0]), Orc.a (AV.agg [sv u0, sv v0]), Orc.b true, Orc.a (AV.agg [iv 6, iv 0]), Orc.a (AV.agg [iv 6, iv 0]), Orc.a (AV.agg [sv u1, sv v1]), Orc.b true, Orc.a (AV.agg [iv 0, iv 4]), Orc.a (AV.agg [iv 0, iv 4]), Orc.a (AV.agg [sv u2, sv v2]), Orc.b false] (by kernel_rfl) h
end Go.Flow.Tryz
namespace Go.Flow.Tryz
open Go Go.Proofs Go.RowKit Go.Flow
set_option maxRecDepth 100000
theorem make4_ok (k : Int) (a : Int) (b : Int) (hb : Bool) (u0 : List UInt8) (v0 : List UInt8) (u1 : List UInt8) (v1 : List UInt8) (u2 : List UInt8) (v2 : List UInt8) (u3 : List UInt8) (v3 : List UInt8) (u4 : List UInt8) (v4 : List UInt8) (u5 : List UInt8) (v5 : List UInt8) (h : AllP
    [CallsTo Tryz.prog (67 : Nat) [AV.v (Value.int IntKind.u8 k)] (AV.tup [AV.lst 2 [AV.agg [iv 0, iv 0], AV.agg [iv 2, iv 0], AV.agg [iv 4, iv 0], AV.agg [iv 0, iv 2], AV.agg [iv 2, iv 2], AV.agg [iv 4, iv 2]], AV.lst 3 [AV.agg [iv 0, iv 1, iv 4], AV.agg [iv 0, iv 4, iv 3], AV.agg [iv 1, iv 2, iv 5], AV.agg [iv 1, iv 5, iv 4]]]),
     true = true,
     (0 : Int) ≤ (0 : Int) ∧ some (AV.agg [iv 0, iv 0]) = some (AV.agg [iv 0, iv 0]),
     (0 : Int) ≤ (0 : Int) ∧ (0 : Int) < (↑(2 : Nat) : Int),
     IntKind.wrap IntKind.i8 (0 : Int) = (0 : Int),
     (0 : Int) ≤ (0 : Int) ∧ some (AV.agg [iv 0, iv 0]) = some (AV.agg [iv 0, iv 0]),
     (0 : Int) ≤ (1 : Int) ∧ (1 : Int) < (↑(2 : Nat) : Int),
     IntKind.wrap IntKind.i8 (0 : Int) = (0 : Int),
     CallsTo Tryz.prog (24 : Nat) [AV.agg [AV.v (Value.int IntKind.u8 k), AV.v (Value.int IntKind.i8 a), AV.v (Value.int IntKind.i8 b), bv (hb)], AV.agg [AV.v (Value.int IntKind.i8 (0 : Int)), AV.v (Value.int IntKind.i8 (0 : Int))], iv 1] (AV.agg [sv u0, sv v0]),
     nat_lit 1 ≤ nat_lit 9223372036854775807 ∧ nat_lit 32 ≤ nat_lit 140737488355328,
     IntKind.wrap IntKind.i64 ((0 : Int) + (1 : Int)) = (0 : Int) + (1 : Int),
     true = true,
     (0 : Int) ≤ (0 : Int) + (1 : Int) ∧ some (AV.agg [iv 2, iv 0]) = some (AV.agg [iv 2, iv 0]),
     (0 : Int) ≤ (0 : Int) ∧ (0 : Int) < (↑(2 : Nat) : Int),
     IntKind.wrap IntKind.i8 (2 : Int) = (2 : Int),
     (0 : Int) ≤ (0 : Int) + (1 : Int) ∧ some (AV.agg [iv 2, iv 0]) = some (AV.agg [iv 2, iv 0]),
     (0 : Int) ≤ (1 : Int) ∧ (1 : Int) < (↑(2 : Nat) : Int),
     IntKind.wrap IntKind.i8 (0 : Int) = (0 : Int),
     CallsTo Tryz.prog (24 : Nat) [AV.agg [AV.v (Value.int IntKind.u8 k), AV.v (Value.int IntKind.i8 a), AV.v (Value.int IntKind.i8 b), bv (hb)], AV.agg [AV.v (Value.int IntKind.i8 (2 : Int)), AV.v (Value.int IntKind.i8 (0 : Int))], iv 1] (AV.agg [sv u1, sv v1]),
     nat_lit 2 ≤ nat_lit 9223372036854775807 ∧ nat_lit 64 ≤ nat_lit 140737488355328,
     IntKind.wrap IntKind.i64 ((0 : Int) + (1 : Int) + (1 : Int)) = (0 : Int) + (1 : Int) + (1 : Int),
     true = true,
     (0 : Int) ≤ (0 : Int) + (1 : Int) + (1 : Int) ∧ some (AV.agg [iv 4, iv 0]) = some (AV.agg [iv 4, iv 0]),
     (0 : Int) ≤ (0 : Int) ∧ (0 : Int) < (↑(2 : Nat) : Int),
     IntKind.wrap IntKind.i8 (4 : Int) = (4 : Int),
     (0 : Int) ≤ (0 : Int) + (1 : Int) + (1 : Int) ∧ some (AV.agg [iv 4, iv 0]) = some (AV.agg [iv 4, iv 0]),
     (0 : Int) ≤ (1 : Int) ∧ (1 : Int) < (↑(2 : Nat) : Int),
     IntKind.wrap IntKind.i8 (0 : Int) = (0 : Int),
     CallsTo Tryz.prog (24 : Nat) [AV.agg [AV.v (Value.int IntKind.u8 k), AV.v (Value.int IntKind.i8 a), AV.v (Value.int IntKind.i8 b), bv (hb)], AV.agg [AV.v (Value.int IntKind.i8 (4 : Int)), AV.v (Value.int IntKind.i8 (0 : Int))], iv 1] (AV.agg [sv u2, sv v2]),
     nat_lit 3 ≤ nat_lit 9223372036854775807 ∧ nat_lit 96 ≤ nat_lit 140737488355328,
     IntKind.wrap IntKind.i64 ((0 : Int) + (1 : Int) + (1 : Int) + (1 : Int)) = (0 : Int) + (1 : Int) + (1 : Int) + (1 : Int),
     true = true,
     (0 : Int) ≤ (0 : Int) + (1 : Int) + (1 : Int) + (1 : Int) ∧ some (AV.agg [iv 0, iv 2]) = some (AV.agg [iv 0, iv 2]),
     (0 : Int) ≤ (0 : Int) ∧ (0 : Int) < (↑(2 : Nat) : Int),
     IntKind.wrap IntKind.i8 (0 : Int) = (0 : Int),
     (0 : Int) ≤ (0 : Int) + (1 : Int) + (1 : Int) + (1 : Int) ∧ some (AV.agg [iv 0, iv 2]) = some (AV.agg [iv 0, iv 2]),
     (0 : Int) ≤ (1 : Int) ∧ (1 : Int) < (↑(2 : Nat) : Int),
     IntKind.wrap IntKind.i8 (2 : Int) = (2 : Int),
     CallsTo Tryz.prog (24 : Nat) [AV.agg [AV.v (Value.int IntKind.u8 k), AV.v (Value.int IntKind.i8 a), AV.v (Value.int IntKind.i8 b), bv (hb)], AV.agg [AV.v (Value.int IntKind.i8 (0 : Int)), AV.v (Value.int IntKind.i8 (2 : Int))], iv 1] (AV.agg [sv u3, sv v3]),
     nat_lit 4 ≤ nat_lit 9223372036854775807 ∧ nat_lit 128 ≤ nat_lit 140737488355328,
     IntKind.wrap IntKind.i64 ((0 : Int) + (1 : Int) + (1 : Int) + (1 : Int) + (1 : Int)) = (0 : Int) + (1 : Int) + (1 : Int) + (1 : Int) + (1 : Int),
     true = true,
     (0 : Int) ≤ (0 : Int) + (1 : Int) + (1 : Int) + (1 : Int) + (1 : Int) ∧ some (AV.agg [iv 2, iv 2]) = some (AV.agg [iv 2, iv 2]),
     (0 : Int) ≤ (0 : Int) ∧ (0 : Int) < (↑(2 : Nat) : Int),
     IntKind.wrap IntKind.i8 (2 : Int) = (2 : Int),
     (0 : Int) ≤ (0 : Int) + (1 : Int) + (1 : Int) + (1 : Int) + (1 : Int) ∧ some (AV.agg [iv 2, iv 2]) = some (AV.agg [iv 2, iv 2]),
     (0 : Int) ≤ (1 : Int) ∧ (1 : Int) < (↑(2 : Nat) : Int),
     IntKind.wrap IntKind.i8 (2 : Int) = (2 : Int),
     CallsTo Tryz.prog (24 : Nat) [AV.agg [AV.v (Value.int IntKind.u8 k), AV.v (Value.int IntKind.i8 a), AV.v (Value.int IntKind.i8 b), bv (hb)], AV.agg [AV.v (Value.int IntKind.i8 (2 : Int)), AV.v (Value.int IntKind.i8 (2 : Int))], iv 1] (AV.agg [sv u4, sv v4]),
     nat_lit 5 ≤ nat_lit 9223372036854775807 ∧ nat_lit 160 ≤ nat_lit 140737488355328,
     IntKind.wrap IntKind.i64 ((0 : Int) + (1 : Int) + (1 : Int) + (1 : Int) + (1 : Int) + (1 : Int)) = (0 : Int) + (1 : Int) + (1 : Int) + (1 : Int) + (1 : Int) + (1 : Int),
     true = true,
     (0 : Int) ≤ (0 : Int) + (1 : Int) + (1 : Int) + (1 : Int) + (1 : Int) + (1 : Int) ∧ some (AV.agg [iv 4, iv 2]) = some (AV.agg [iv 4, iv 2]),
     (0 : Int) ≤ (0 : Int) ∧ (0 : Int) < (↑(2 : Nat) : Int),
     IntKind.wrap IntKind.i8 (4 : Int) = (4 : Int),
     (0 : Int) ≤ (0 : Int) + (1 : Int) + (1 : Int) + (1 : Int) + (1 : Int) + (1 : Int) ∧ some (AV.agg [iv 4, iv 2]) = some (AV.agg [iv 4, iv 2]),
     (0 : Int) ≤ (1 : Int) ∧ (1 : Int) < (↑(2 : Nat) : Int),
     IntKind.wrap IntKind.i8 (2 : Int) = (2 : Int),
     CallsTo Tryz.prog (24 : Nat) [AV.agg [AV.v (Value.int IntKind.u8 k), AV.v (Value.int IntKind.i8 a), AV.v (Value.int IntKind.i8 b), bv (hb)], AV.agg [AV.v (Value.int IntKind.i8 (4 : Int)), AV.v (Value.int IntKind.i8 (2 : Int))], iv 1] (AV.agg [sv u5, sv v5]),
     nat_lit 6 ≤ nat_lit 9223372036854775807 ∧ nat_lit 192 ≤ nat_lit 140737488355328,
     IntKind.wrap IntKind.i64 ((0 : Int) + (1 : Int) + (1 : Int) + (1 : Int) + (1 : Int) + (1 : Int) + (1 : Int)) = (0 : Int) + (1 : Int) + (1 : Int) + (1 : Int) + (1 : Int) + (1 : Int) + (1 : Int),
     false = false]) :
    CallsTo Tryz.prog 23 [AV.agg [AV.v (Value.int IntKind.u8 k), AV.v (Value.int IntKind.i8 a), AV.v (Value.int IntKind.i8 b), bv (hb)]] (AV.agg [AV.lst 2 [AV.agg [sv u0, sv v0], AV.agg [sv u1, sv v1], AV.agg [sv u2, sv v2], AV.agg [sv u3, sv v3], AV.agg [sv u4, sv v4], AV.agg [sv u5, sv v5]], AV.lst 3 [AV.agg [iv 0, iv 1, iv 4], AV.agg [iv 0, iv 4, iv 3], AV.agg [iv 1, iv 2, iv 5], AV.agg [iv 1, iv 5, iv 4]]]) :=
  fn_ok fits hmix Tryz.func23 (by kernel_rfl)
    [Orc.a (AV.tup [AV.lst 2 [AV.agg [iv 0, iv 0], AV.agg [iv 2, iv 0], AV.agg [iv 4, iv 0], AV.agg [iv 0, iv 2], AV.agg [iv 2, iv 2], AV.agg [iv 4, iv 2]], AV.lst 3 [AV.agg [iv 0, iv 1, iv 4], AV.agg [iv 0, iv 4, iv 3], AV.agg [iv 1, iv 2, iv 5], AV.agg [iv 1, iv 5, iv 4]]]), Orc.u (7 : Nat), Orc.b true, Orc.a (AV.agg [iv 0, iv 0]), Orc.a (AV.agg [iv 0, iv 0]), Orc.a (AV.agg [sv u0, sv v0]), Orc.b true, Orc.a (AV.agg [iv 2, iv 0]), Orc.a (AV.agg [iv 2, iv 0]), Orc.a (AV.agg [sv u1, sv v1]), Orc.b true, Orc.a (AV.agg [iv 4, iv 0]), Orc.a (AV.agg [iv 4, iv 0]), Orc.a (AV.agg [sv u2, sv v2]), Orc.b true, Orc.a (AV.agg [iv 0, iv 2]), Orc.a (AV.agg [iv 0, iv 2]), Orc.a (AV.agg [sv u3, sv v3]), Orc.b true, Orc.a (AV.agg [iv 2, iv 2]), Orc.a (AV.agg [iv 2, iv 2]), Orc.a (AV.agg [sv u4, sv v4]), Orc.b true, Orc.a (AV.agg [iv 4, iv 2]), Orc.a (AV.agg [iv 4, iv 2]), Orc.a (AV.agg [sv u5, sv v5]), Orc.b false] (by kernel_rfl) h
theorem make5_ok (k : Int) (a : Int) (b : Int) (hb : Bool) (u0 : List UInt8) (v0 : List UInt8) (u1 : List UInt8) (v1 : List UInt8) (u2 : List UInt8) (v2 : List UInt8) (u3 : List UInt8) (v3 : List UInt8) (h : AllP
    [CallsTo Tryz.prog (67 : Nat) [AV.v (Value.int IntKind.u8 k)] (AV.tup [AV.lst 2 [AV.agg [iv 1, iv 4], AV.agg [iv 5, iv 3], AV.agg [iv 4, iv 0], AV.agg [iv 0, iv 0]], AV.lst 3 [AV.agg [iv 3, iv 2, iv 1], AV.agg [iv 3, iv 1, iv 0]]]),
     true = true,
     (0 : Int) ≤ (0 : Int) ∧ some (AV.agg [iv 1, iv 4]) = some (AV.agg [iv 1, iv 4]),
     (0 : Int) ≤ (0 : Int) ∧ (0 : Int) < (↑(2 : Nat) : Int),
     IntKind.wrap IntKind.i8 (1 : Int) = (1 : Int),
     (0 : Int) ≤ (0 : Int) ∧ some (AV.agg [iv 1, iv 4]) = some (AV.agg [iv 1, iv 4]),
     (0 : Int) ≤ (1 : Int) ∧ (1 : Int) < (↑(2 : Nat) : Int),
     IntKind.wrap IntKind.i8 (4 : Int) = (4 : Int),
     CallsTo Tryz.prog (24 : Nat) [AV.agg [AV.v (Value.int IntKind.u8 k), AV.v (Value.int IntKind.i8 a), AV.v (Value.int IntKind.i8 b), bv (hb)], AV.agg [AV.v (Value.int IntKind.i8 (1 : Int)), AV.v (Value.int IntKind.i8 (4 : Int))], iv 1] (AV.agg [sv u0, sv v0]),
     nat_lit 1 ≤ nat_lit 9223372036854775807 ∧ nat_lit 32 ≤ nat_lit 140737488355328,
     IntKind.wrap IntKind.i64 ((0 : Int) + (1 : Int)) = (0 : Int) + (1 : Int),
     true = true,
     (0 : Int) ≤ (0 : Int) + (1 : Int) ∧ some (AV.agg [iv 5, iv 3]) = some (AV.agg [iv 5, iv 3]),
     (0 : Int) ≤ (0 : Int) ∧ (0 : Int) < (↑(2 : Nat) : Int),
     IntKind.wrap IntKind.i8 (5 : Int) = (5 : Int),
     (0 : Int) ≤ (0 : Int) + (1 : Int) ∧ some (AV.agg [iv 5, iv 3]) = some (AV.agg [iv 5, iv 3]),
     (0 : Int) ≤ (1 : Int) ∧ (1 : Int) < (↑(2 : Nat) : Int),
     IntKind.wrap IntKind.i8 (3 : Int) = (3 : Int),
     CallsTo Tryz.prog (24 : Nat) [AV.agg [AV.v (Value.int IntKind.u8 k), AV.v (Value.int IntKind.i8 a), AV.v (Value.int IntKind.i8 b), bv (hb)], AV.agg [AV.v (Value.int IntKind.i8 (5 : Int)), AV.v (Value.int IntKind.i8 (3 : Int))], iv 1] (AV.agg [sv u1, sv v1]),
     nat_lit 2 ≤ nat_lit 9223372036854775807 ∧ nat_lit 64 ≤ nat_lit 140737488355328,
     IntKind.wrap IntKind.i64 ((0 : Int) + (1 : Int) + (1 : Int)) = (0 : Int) + (1 : Int) + (1 : Int),
     true = true,
     (0 : Int) ≤ (0 : Int) + (1 : Int) + (1 : Int) ∧ some (AV.agg [iv 4, iv 0]) = some (AV.agg [iv 4, iv 0]),
     (0 : Int) ≤ (0 : Int) ∧ (0 : Int) < (↑(2 : Nat) : Int),
     IntKind.wrap IntKind.i8 (4 : Int) = (4 : Int),
     (0 : Int) ≤ (0 : Int) + (1 : Int) + (1 : Int) ∧ some (AV.agg [iv 4, iv 0]) = some (AV.agg [iv 4, iv 0]),
     (0 : Int) ≤ (1 : Int) ∧ (1 : Int) < (↑(2 : Nat) : Int),
     IntKind.wrap IntKind.i8 (0 : Int) = (0 : Int),
     CallsTo Tryz.prog (24 : Nat) [AV.agg [AV.v (Value.int IntKind.u8 k), AV.v (Value.int IntKind.i8 a), AV.v (Value.int IntKind.i8 b), bv (hb)], AV.agg [AV.v (Value.int IntKind.i8 (4 : Int)), AV.v (Value.int IntKind.i8 (0 : Int))], iv 1] (AV.agg [sv u2, sv v2]),
     nat_lit 3 ≤ nat_lit 9223372036854775807 ∧ nat_lit 96 ≤ nat_lit 140737488355328,
     IntKind.wrap IntKind.i64 ((0 : Int) + (1 : Int) + (1 : Int) + (1 : Int)) = (0 : Int) + (1 : Int) + (1 : Int) + (1 : Int),
     true = true,
     (0 : Int) ≤ (0 : Int) + (1 : Int) + (1 : Int) + (1 : Int) ∧ some (AV.agg [iv 0, iv 0]) = some (AV.agg [iv 0, iv 0]),
     (0 : Int) ≤ (0 : Int) ∧ (0 : Int) < (↑(2 : Nat) : Int),
     IntKind.wrap IntKind.i8 (0 : Int) = (0 : Int),
     (0 : Int) ≤ (0 : Int) + (1 : Int) + (1 : Int) + (1 : Int) ∧ some (AV.agg [iv 0, iv 0]) = some (AV.agg [iv 0, iv 0]),
     (0 : Int) ≤ (1 : Int) ∧ (1 : Int) < (↑(2 : Nat) : Int),
     IntKind.wrap IntKind.i8 (0 : Int) = (0 : Int),
     CallsTo Tryz.prog (24 : Nat) [AV.agg [AV.v (Value.int IntKind.u8 k), AV.v (Value.int IntKind.i8 a), AV.v (Value.int IntKind.i8 b), bv (hb)], AV.agg [AV.v (Value.int IntKind.i8 (0 : Int)), AV.v (Value.int IntKind.i8 (0 : Int))], iv 1] (AV.agg [sv u3, sv v3]),
     nat_lit 4 ≤ nat_lit 9223372036854775807 ∧ nat_lit 128 ≤ nat_lit 140737488355328,
     IntKind.wrap IntKind.i64 ((0 : Int) + (1 : Int) + (1 : Int) + (1 : Int) + (1 : Int)) = (0 : Int) + (1 : Int) + (1 : Int) + (1 : Int) + (1 : Int),
     false = false]) :
    CallsTo Tryz.prog 23 [AV.agg [AV.v (Value.int IntKind.u8 k), AV.v (Value.int IntKind.i8 a), AV.v (Value.int IntKind.i8 b), bv (hb)]] (AV.agg [AV.lst 2 [AV.agg [sv u0, sv v0], AV.agg [sv u1, sv v1], AV.agg [sv u2, sv v2], AV.agg [sv u3, sv v3]], AV.lst 3 [AV.agg [iv 3, iv 2, iv 1], AV.agg [iv 3, iv 1, iv 0]]]) :=
  fn_ok fits hmix Tryz.func23 (by kernel_rfl)
    [Orc.a (AV.tup [AV.lst 2 [AV.agg [iv 1, iv 4], AV.agg [iv 5, iv 3], AV.agg [iv 4, iv 0], AV.agg [iv 0, iv 0]], AV.lst 3 [AV.agg [iv 3, iv 2, iv 1], AV.agg [iv 3, iv 1, iv 0]]]), Orc.u (5 : Nat), Orc.b true, Orc.a (AV.agg [iv 1, iv 4]), Orc.a (AV.agg [iv 1, iv 4]), Orc.a (AV.agg [sv u0, sv v0]), Orc.b true, Orc.a (AV.agg [iv 5, iv 3]), Orc.a (AV.agg [iv 5, iv 3]), Orc.a (AV.agg [sv u1, sv v1]), Orc.b true, Orc.a (AV.agg [iv 4, iv 0]), Orc.a (AV.agg [iv 4, iv 0]), Orc.a (AV.agg [sv u2, sv v2]), Orc.b true, Orc.a (AV.agg [iv 0, iv 0]), Orc.a (AV.agg [iv 0, iv 0]), Orc.a (AV.agg [sv u3, sv v3]), Orc.b false] (by kernel_rfl) h
end Go.Flow.Tryz
namespace Go.Flow.Tryz
open Go Go.Proofs Go.RowKit Go.Flow
set_option maxRecDepth 100000
theorem make6_ok (k : Int) (a : Int) (b : Int) (hb : Bool) (u0 : List UInt8) (v0 : List UInt8) (u1 : List UInt8) (v1 : List UInt8) (u2 : List UInt8) (v2 : List UInt8) (u3 : List UInt8) (v3 : List UInt8) (u4 : List UInt8) (v4 : List UInt8) (h : AllP
    [CallsTo Tryz.prog (67 : Nat) [AV.v (Value.int IntKind.u8 k)] (AV.tup [AV.lst 2 [AV.agg [iv 0, iv 0], AV.agg [iv 4, iv 0], AV.agg [iv 4, iv 4], AV.agg [iv 0, iv 4], AV.agg [iv 2, iv 0]], AV.lst 3 [AV.agg [iv 0, iv 4, iv 3], AV.agg [iv 4, iv 2, iv 3], AV.agg [iv 4, iv 1, iv 2]]]),
     true = true,
     (0 : Int) ≤ (0 : Int) ∧ some (AV.agg [iv 0, iv 0]) = some (AV.agg [iv 0, iv 0]),
     (0 : Int) ≤ (0 : Int) ∧ (0 : Int) < (↑(2 : Nat) : Int),
     IntKind.wrap IntKind.i8 (0 : Int) = (0 : Int),
     (0 : Int) ≤ (0 : Int) ∧ some (AV.agg [iv 0, iv 0]) = some (AV.agg [iv 0, iv 0]),
     (0 : Int) ≤ (1 : Int) ∧ (1 : Int) < (↑(2 : Nat) : Int),
     IntKind.wrap IntKind.i8 (0 : Int) = (0 : Int),
     CallsTo Tryz.prog (24 : Nat) [AV.agg [AV.v (Value.int IntKind.u8 k), AV.v (Value.int IntKind.i8 a), AV.v (Value.int IntKind.i8 b), bv (hb)], AV.agg [AV.v (Value.int IntKind.i8 (0 : Int)), AV.v (Value.int IntKind.i8 (0 : Int))], iv 1] (AV.agg [sv u0, sv v0]),
     nat_lit 1 ≤ nat_lit 9223372036854775807 ∧ nat_lit 32 ≤ nat_lit 140737488355328,
     IntKind.wrap IntKind.i64 ((0 : Int) + (1 : Int)) = (0 : Int) + (1 : Int),
     true = true,
     (0 : Int) ≤ (0 : Int) + (1 : Int) ∧ some (AV.agg [iv 4, iv 0]) = some (AV.agg [iv 4, iv 0]),
     (0 : Int) ≤ (0 : Int) ∧ (0 : Int) < (↑(2 : Nat) : Int),
     IntKind.wrap IntKind.i8 (4 : Int) = (4 : Int),
     (0 : Int) ≤ (0 : Int) + (1 : Int) ∧ some (AV.agg [iv 4, iv 0]) = some (AV.agg [iv 4, iv 0]),
     (0 : Int) ≤ (1 : Int) ∧ (1 : Int) < (↑(2 : Nat) : Int),
     IntKind.wrap IntKind.i8 (0 : Int) = (0 : Int),
     CallsTo Tryz.prog (24 : Nat) [AV.agg [AV.v (Value.int IntKind.u8 k), AV.v (Value.int IntKind.i8 a), AV.v (Value.int IntKind.i8 b), bv (hb)], AV.agg [AV.v (Value.int IntKind.i8 (4 : Int)), AV.v (Value.int IntKind.i8 (0 : Int))], iv 1] (AV.agg [sv u1, sv v1]),
     nat_lit 2 ≤ nat_lit 9223372036854775807 ∧ nat_lit 64 ≤ nat_lit 140737488355328,
     IntKind.wrap IntKind.i64 ((0 : Int) + (1 : Int) + (1 : Int)) = (0 : Int) + (1 : Int) + (1 : Int),
     true = true,
     (0 : Int) ≤ (0 : Int) + (1 : Int) + (1 : Int) ∧ some (AV.agg [iv 4, iv 4]) = some (AV.agg [iv 4, iv 4]),
     (0 : Int) ≤ (0 : Int) ∧ (0 : Int) < (↑(2 : Nat) : Int),
     IntKind.wrap IntKind.i8 (4 : Int) = (4 : Int),
     (0 : Int) ≤ (0 : Int) + (1 : Int) + (1 : Int) ∧ some (AV.agg [iv 4, iv 4]) = some (AV.agg [iv 4, iv 4]),
     (0 : Int) ≤ (1 : Int) ∧ (1 : Int) < (↑(2 : Nat) : Int),
     IntKind.wrap IntKind.i8 (4 : Int) = (4 : Int),
     CallsTo Tryz.prog (24 : Nat) [AV.agg [AV.v (Value.int IntKind.u8 k), AV.v (Value.int IntKind.i8 a), AV.v (Value.int IntKind.i8 b), bv (hb)], AV.agg [AV.v (Value.int IntKind.i8 (4 : Int)), AV.v (Value.int IntKind.i8 (4 : Int))], iv 1] (AV.agg [sv u2, sv v2]),
     nat_lit 3 ≤ nat_lit 9223372036854775807 ∧ nat_lit 96 ≤ nat_lit 140737488355328,
     IntKind.wrap IntKind.i64 ((0 : Int) + (1 : Int) + (1 : Int) + (1 : Int)) = (0 : Int) + (1 : Int) + (1 : Int) + (1 : Int),
     true = true,
     (0 : Int) ≤ (0 : Int) + (1 : Int) + (1 : Int) + (1 : Int) ∧ some (AV.agg [iv 0, iv 4]) = some (AV.agg [iv 0, iv 4]),
     (0 : Int) ≤ (0 : Int) ∧ (0 : Int) < (↑(2 : Nat) : Int),
     IntKind.wrap IntKind.i8 (0 : Int) = (0 : Int),
     (0 : Int) ≤ (0 : Int) + (1 : Int) + (1 : Int) + (1 : Int) ∧ some (AV.agg [iv 0, iv 4]) = some (AV.agg [iv 0, iv 4]),
     (0 : Int) ≤ (1 : Int) ∧ (1 : Int) < (↑(2 : Nat) : Int),
     IntKind.wrap IntKind.i8 (4 : Int) = (4 : Int),
     CallsTo Tryz.prog (24 : Nat) [AV.agg [AV.v (Value.int IntKind.u8 k), AV.v (Value.int IntKind.i8 a), AV.v (Value.int IntKind.i8 b), bv (hb)], AV.agg [AV.v (Value.int IntKind.i8 (0 : Int)), AV.v (Value.int IntKind.i8 (4 : Int))], iv 1] (AV.agg [sv u3, sv v3]),
     nat_lit 4 ≤ nat_lit 9223372036854775807 ∧ nat_lit 128 ≤ nat_lit 140737488355328,
     IntKind.wrap IntKind.i64 ((0 : Int) + (1 : Int) + (1 : Int) + (1 : Int) + (1 : Int)) = (0 : Int) + (1 : Int) + (1 : Int) + (1 : Int) + (1 : Int),
     true = true,
     (0 : Int) ≤ (0 : Int) + (1 : Int) + (1 : Int) + (1 : Int) + (1 : Int) ∧ some (AV.agg [iv 2, iv 0]) = some (AV.agg [iv 2, iv 0]),
     (0 : Int) ≤ (0 : Int) ∧ (0 : Int) < (↑(2 : Nat) : Int),
     IntKind.wrap IntKind.i8 (2 : Int) = (2 : Int),
     (0 : Int) ≤ (0 : Int) + (1 : Int) + (1 : Int) + (1 : Int) + (1 : Int) ∧ some (AV.agg [iv 2, iv 0]) = some (AV.agg [iv 2, iv 0]),
     (0 : Int) ≤ (1 : Int) ∧ (1 : Int) < (↑(2 : Nat) : Int),
     IntKind.wrap IntKind.i8 (0 : Int) = (0 : Int),
     CallsTo Tryz.prog (24 : Nat) [AV.agg [AV.v (Value.int IntKind.u8 k), AV.v (Value.int IntKind.i8 a), AV.v (Value.int IntKind.i8 b), bv (hb)], AV.agg [AV.v (Value.int IntKind.i8 (2 : Int)), AV.v (Value.int IntKind.i8 (0 : Int))], iv 1] (AV.agg [sv u4, sv v4]),
     nat_lit 5 ≤ nat_lit 9223372036854775807 ∧ nat_lit 160 ≤ nat_lit 140737488355328,
     IntKind.wrap IntKind.i64 ((0 : Int) + (1 : Int) + (1 : Int) + (1 : Int) + (1 : Int) + (1 : Int)) = (0 : Int) + (1 : Int) + (1 : Int) + (1 : Int) + (1 : Int) + (1 : Int),
     false = false]) :
    CallsTo Tryz.prog 23 [AV.agg [AV.v (Value.int IntKind.u8 k), AV.v (Value.int IntKind.i8 a), AV.v (Value.int IntKind.i8 b), bv (hb)]] (AV.agg [AV.lst 2 [AV.agg [sv u0, sv v0], AV.agg [sv u1, sv v1], AV.agg [sv u2, sv v2], AV.agg [sv u3, sv v3], AV.agg [sv u4, sv v4]], AV.lst 3 [AV.agg [iv 0, iv 4, iv 3], AV.agg [iv 4, iv 2, iv 3], AV.agg [iv 4, iv 1, iv 2]]]) :=
  fn_ok fits hmix Tryz.func23 (by kernel_rfl)
    [Orc.a (AV.tup [AV.lst 2 [AV.agg [iv 0, iv 0], AV.agg [iv 4, iv 0], AV.agg [iv 4, iv 4], AV.agg [iv 0, iv 4], AV.agg [iv 2, iv 0]], AV.lst 3 [AV.agg [iv 0, iv 4, iv 3], AV.agg [iv 4, iv 2, iv 3], AV.agg [iv 4, iv 1, iv 2]]]), Orc.u (6 : Nat), Orc.b true, Orc.a (AV.agg [iv 0, iv 0]), Orc.a (AV.agg [iv 0, iv 0]), Orc.a (AV.agg [sv u0, sv v0]), Orc.b true, Orc.a (AV.agg [iv 4, iv 0]), Orc.a (AV.agg [iv 4, iv 0]), Orc.a (AV.agg [sv u1, sv v1]), Orc.b true, Orc.a (AV.agg [iv 4, iv 4]), Orc.a (AV.agg [iv 4, iv 4]), Orc.a (AV.agg [sv u2, sv v2]), Orc.b true, Orc.a (AV.agg [iv 0, iv 4]), Orc.a (AV.agg [iv 0, iv 4]), Orc.a (AV.agg [sv u3, sv v3]), Orc.b true, Orc.a (AV.agg [iv 2, iv 0]), Orc.a (AV.agg [iv 2, iv 0]), Orc.a (AV.agg [sv u4, sv v4]), Orc.b false] (by kernel_rfl) h
theorem make7_ok (k : Int) (a : Int) (b : Int) (hb : Bool) (u0 : List UInt8) (v0 : List UInt8) (u1 : List UInt8) (v1 : List UInt8) (u2 : List UInt8) (v2 : List UInt8) (u3 : List UInt8) (v3 : List UInt8) (h : AllP
    [CallsTo Tryz.prog (67 : Nat) [AV.v (Value.int IntKind.u8 k)] (AV.tup [AV.lst 2 [AV.agg [iv 0, iv 0], AV.agg [iv 6, iv 0], AV.agg [iv 0, iv 6], AV.agg [iv 2, iv 2]], AV.lst 3 [AV.agg [iv 0, iv 1, iv 3], AV.agg [iv 1, iv 2, iv 3], AV.agg [iv 2, iv 0, iv 3]]]),
     true = true,
     (0 : Int) ≤ (0 : Int) ∧ some (AV.agg [iv 0, iv 0]) = some (AV.agg [iv 0, iv 0]),
     (0 : Int) ≤ (0 : Int) ∧ (0 : Int) < (↑(2 : Nat) : Int),
     IntKind.wrap IntKind.i8 (0 : Int) = (0 : Int),
     (0 : Int) ≤ (0 : Int) ∧ some (AV.agg [iv 0, iv 0]) = some (AV.agg [iv 0, iv 0]),
     (0 : Int) ≤ (1 : Int) ∧ (1 : Int) < (↑(2 : Nat) : Int),
     IntKind.wrap IntKind.i8 (0 : Int) = (0 : Int),
     CallsTo Tryz.prog (24 : Nat) [AV.agg [AV.v (Value.int IntKind.u8 k), AV.v (Value.int IntKind.i8 a), AV.v (Value.int IntKind.i8 b), bv (hb)], AV.agg [AV.v (Value.int IntKind.i8 (0 : Int)), AV.v (Value.int IntKind.i8 (0 : Int))], iv 1] (AV.agg [sv u0, sv v0]),
     nat_lit 1 ≤ nat_lit 9223372036854775807 ∧ nat_lit 32 ≤ nat_lit 140737488355328,
     IntKind.wrap IntKind.i64 ((0 : Int) + (1 : Int)) = (0 : Int) + (1 : Int),
     true = true,
     (0 : Int) ≤ (0 : Int) + (1 : Int) ∧ some (AV.agg [iv 6, iv 0]) = some (AV.agg [iv 6, iv 0]),
     (0 : Int) ≤ (0 : Int) ∧ (0 : Int) < (↑(2 : Nat) : Int),
     IntKind.wrap IntKind.i8 (6 : Int) = (6 : Int),
     (0 : Int) ≤ (0 : Int) + (1 : Int) ∧ some (AV.agg [iv 6, iv 0]) = some (AV.agg [iv 6, iv 0]),
     (0 : Int) ≤ (1 : Int) ∧ (1 : Int) < (↑(2 : Nat) : Int),
     IntKind.wrap IntKind.i8 (0 : Int) = (0 : Int),
     CallsTo Tryz.prog (24 : Nat) [AV.agg [AV.v (Value.int IntKind.u8 k), AV.v (Value.int IntKind.i8 a), AV.v (Value.int IntKind.i8 b), bv (hb)], AV.agg [AV.v (Value.int IntKind.i8 (6 : Int)), AV.v (Value.int IntKind.i8 (0 : Int))], iv 1] (AV.agg [sv u1, sv v1]),
     nat_lit 2 ≤ nat_lit 9223372036854775807 ∧ nat_lit 64 ≤ nat_lit 140737488355328,
     IntKind.wrap IntKind.i64 ((0 : Int) + (1 : Int) + (1 : Int)) = (0 : Int) + (1 : Int) + (1 : Int),
     true = true,
     (0 : Int) ≤ (0 : Int) + (1 : Int) + (1 : Int) ∧ some (AV.agg [iv 0, iv 6]) = some (AV.agg [iv 0, iv 6]),
     (0 : Int) ≤ (0 : Int) ∧ (0 : Int) < (↑(2 : Nat) : Int),
     IntKind.wrap IntKind.i8 (0 : Int) = (0 : Int),
     (0 : Int) ≤ (0 : Int) + (1 : Int) + (1 : Int) ∧ some (AV.agg [iv 0, iv 6]) = some (AV.agg [iv 0, iv 6]),
     (0 : Int) ≤ (1 : Int) ∧ (1 : Int) < (↑(2 : Nat) : Int),
     IntKind.wrap IntKind.i8 (6 : Int) = (6 : Int),
     CallsTo Tryz.prog (24 : Nat) [AV.agg [AV.v (Value.int IntKind.u8 k), AV.v (Value.int IntKind.i8 a), AV.v (Value.int IntKind.i8 b), bv (hb)], AV.agg [AV.v (Value.int IntKind.i8 (0 : Int)), AV.v (Value.int IntKind.i8 (6 : Int))], iv 1] (AV.agg [sv u2, sv v2]),
     nat_lit 3 ≤ nat_lit 9223372036854775807 ∧ nat_lit 96 ≤ nat_lit 140737488355328,
     IntKind.wrap IntKind.i64 ((0 : Int) + (1 : Int) + (1 : Int) + (1 : Int)) = (0 : Int) + (1 : Int) + (1 : Int) + (1 : Int),
     true = true,
     (0 : Int) ≤ (0 : Int) + (1 : Int) + (1 : Int) + (1 : Int) ∧ some (AV.agg [iv 2, iv 2]) = some (AV.agg [iv 2, iv 2]),
     (0 : Int) ≤ (0 : Int) ∧ (0 : Int) < (↑(2 : Nat) : Int),
     IntKind.wrap IntKind.i8 (2 : Int) = (2 : Int),
     (0 : Int) ≤ (0 : Int) + (1 : Int) + (1 : Int) + (1 : Int) ∧ some (AV.agg [iv 2, iv 2]) = some (AV.agg [iv 2, iv 2]),
     (0 : Int) ≤ (1 : Int) ∧ (1 : Int) < (↑(2 : Nat) : Int),
     IntKind.wrap IntKind.i8 (2 : Int) = (2 : Int),
     CallsTo Tryz.prog (24 : Nat) [AV.agg [AV.v (Value.int IntKind.u8 k), AV.v (Value.int IntKind.i8 a), AV.v (Value.int IntKind.i8 b), bv (hb)], AV.agg [AV.v (Value.int IntKind.i8 (2 : Int)), AV.v (Value.int IntKind.i8 (2 : Int))], iv 1] (AV.agg [sv u3, sv v3]),
     nat_lit 4 ≤ nat_lit 9223372036854775807 ∧ nat_lit 128 ≤ nat_lit 140737488355328,
     IntKind.wrap IntKind.i64 ((0 : Int) + (1 : Int) + (1 : Int) + (1 : Int) + (1 : Int)) = (0 : Int) + (1 : Int) + (1 : Int) + (1 : Int) + (1 : Int),
     false = false]) :
    CallsTo Tryz.prog 23 [AV.agg [AV.v (Value.int IntKind.u8 k), AV.v (Value.int IntKind.i8 a), AV.v (Value.int IntKind.i8 b), bv (hb)]] (AV.agg [AV.lst 2 [AV.agg [sv u0, sv v0], AV.agg [sv u1, sv v1], AV.agg [sv u2, sv v2], AV.agg [sv u3, sv v3]], AV.lst 3 [AV.agg [iv 0, iv 1, iv 3], AV.agg [iv 1, iv 2, iv 3], AV.agg [iv 2, iv 0, iv 3]]]) :=
  fn_ok fits hmix Tryz.func23 (by kernel_rfl)
    [Orc.a (AV.tup [AV.lst 2 [AV.agg [iv 0, iv 0], AV.agg [iv 6, iv 0], AV.agg [iv 0, iv 6], AV.agg [iv 2, iv 2]], AV.lst 3 [AV.agg [iv 0, iv 1, iv 3], AV.agg [iv 1, iv 2, iv 3], AV.agg [iv 2, iv 0, iv 3]]]), Orc.u (5 : Nat), Orc.b true, Orc.a (AV.agg [iv 0, iv 0]), Orc.a (AV.agg [iv 0, iv 0]), Orc.a (AV.agg [sv u0, sv v0]), Orc.b true, Orc.a (AV.agg [iv 6, iv 0]), Orc.a (AV.agg [iv 6, iv 0]), Orc.a (AV.agg [sv u1, sv v1]), Orc.b true, Orc.a (AV.agg [iv 0, iv 6]), Orc.a (AV.agg [iv 0, iv 6]), Orc.a (AV.agg [sv u2, sv v2]), Orc.b true, Orc.a (AV.agg [iv 2, iv 2]), Orc.a (AV.agg [iv 2, iv 2]), Orc.a (AV.agg [sv u3, sv v3]), Orc.b false] (by kernel_rfl) h
end Go.Flow.Tryz
namespace Go.Flow.Tryz
open Go Go.Proofs Go.RowKit Go.Flow
set_option maxRecDepth 100000
def shP : Nat → List Pt
  | 0 => [(0, 0), (4, 0), (4, 4), (0, 4)]
  | 1 => [(0, 0), (4, 0), (4, 4), (0, 4)]
  | 2 => [(0, 0), (4, 0), (4, 4), (0, 4), (2, 1)]
  | 3 => [(0, 0), (6, 0), (0, 4)]
  | 4 => [(0, 0), (2, 0), (4, 0), (0, 2), (2, 2), (4, 2)]
  | 5 => [(1, 4), (5, 3), (4, 0), (0, 0)]
  | 6 => [(0, 0), (4, 0), (4, 4), (0, 4), (2, 0)]
  | _ => [(0, 0), (6, 0), (0, 6), (2, 2)]
def shT : Nat → List Tri
  | 0 => [(0, 1, 2), (0, 2, 3)]
  | 1 => [(0, 1, 3), (1, 2, 3)]
  | 2 => [(0, 1, 4), (1, 2, 4), (2, 3, 4), (3, 0, 4)]
  | 3 => [(2, 0, 1)]
  | 4 => [(0, 1, 4), (0, 4, 3), (1, 2, 5), (1, 5, 4)]
  | 5 => [(3, 2, 1), (3, 1, 0)]
  | 6 => [(0, 4, 3), (4, 2, 3), (4, 1, 2)]
  | _ => [(0, 1, 3), (1, 2, 3), (2, 0, 3)]
def shC : Nat → List Int
  | 0 => [1, 2, 3]
  | 1 => [1, 2, 3]
  | 2 => [1, 2, 3]
  | 3 => [1, 2]
  | 4 => [1, 2, 5, 4, 3]
  | 5 => [3, 2, 1]
  | 6 => [4, 1, 2, 3]
  | _ => [1, 2]
theorem eight {Q : Nat → Prop} (h0 : Q 0) (h1 : Q 1) (h2 : Q 2) (h3 : Q 3) (h4 : Q 4) (h5 : Q 5) (h6 : Q 6) (h7 : Q 7) : ∀ i, i < 8 → Q i
  | 0, _ => h0 | 1, _ => h1 | 2, _ => h2 | 3, _ => h3 | 4, _ => h4 | 5, _ => h5 | 6, _ => h6 | 7, _ => h7
  | n + 8, h => absurd h (by omega)
theorem shSheet : ∀ i, i < 8 → Sheet (shP i) (shT i) 0 (shC i) := eight sheet0 sheet1 sheet2 sheet3 sheet4 sheet5 sheet6 sheet7
def cf (h : Bool) : Int := if h then 6 else 12
def mkP (i : Nat) (a b : Int) (h : Bool) : List Pt := (shP i).map (mvP (Int.tmod a 8) (Int.tmod b 8) (cf h))
theorem mkSheet {i : Nat} (hi : i < 8) (a b : Int) (h : Bool) : Sheet (mkP i a b h) (shT i) 0 (shC i) :=
  (shSheet i hi).move _ _ _ (by unfold cf; split <;> decide) (by unfold cf; split <;> decide) (by have := tmod8 a; omega) (by have := tmod8 b; omega)
    (eight (Q := fun i => ∀ p ∈ shP i, p.1.natAbs ≤ 20 ∧ p.2.natAbs ≤ 20) (by decide) (by decide) (by decide) (by decide) (by decide) (by decide) (by decide) (by decide) i hi)
theorem place1 (k a b x y : Int) (h : Bool) (hx : x.natAbs ≤ 128) (hy : y.natAbs ≤ 128) : CallsTo Tryz.prog 24 [sheetAV k a b h, i8x2 x y, iv 1] (.agg (ptS 12 (mvP (Int.tmod a 8) (Int.tmod b 8) (cf h) (x, y)))) := by
  have := place_ok k a b x y h 1 (if h then 6 else 12) hx hy (by decide) (by decide) (by split <;> decide) (by cases h <;> decide)
  unfold mvP cf
  simp only [Int.natCast_one, Int.mul_one] at this
  cases h <;> exact this
theorem rep_mkmesh {E : Env} {N : Nat} {pts : List Pt} {tris : List Tri} {v : Value} (h : Rep E (.agg [.lst 2 (pts.map fun p => .agg (ptS N p)), .lst 3 (tris.map triAV)]) v) : Rep E (meshAV N pts tris) v := by
  obtain ⟨us, rfl, hl⟩ := h.inv_agg
  cases hl with
  | cons _ u0 _ us0 h0 hl =>
    cases hl with
    | cons _ u1 _ us1 h1 hl =>
      refine .agg _ _ (.cons _ _ _ _ (.ps _ _ _ ?_) (.cons _ _ _ _ (.ps _ _ _ ?_) hl))
      · have e : (pts.map (ptR N)).map rowAV = pts.map fun p => .agg (ptS N p) := by rw [List.map_map]; exact List.map_congr_left fun _ _ => rfl
        rw [e]; exact h0
      · rw [tri_rows]; exact h1
theorem make_0 (k a b : Int) (h : Bool) (hk : Int.tmod k 8 = 0) : CallsTo Tryz.prog 23 [sheetAV k a b h] (meshAV 12 (mkP 0 a b h) (shT 0)) := by
  have e0 : (Int.tmod k 8 == 0) = true := by simp [hk]
  have hs := shape0_ok k ⟨by decide, e0, trivial⟩
  have p0 := place1 k a b 0 0 h (by decide) (by decide)
  have p1 := place1 k a b 4 0 h (by decide) (by decide)
  have p2 := place1 k a b 4 4 h (by decide) (by decide)
  have p3 := place1 k a b 0 4 h (by decide) (by decide)
  refine CallsTo.rep (make0_ok k a b h (fT (mvP (Int.tmod a 8) (Int.tmod b 8) (cf h) (0, 0)).1 12) (fT (mvP (Int.tmod a 8) (Int.tmod b 8) (cf h) (0, 0)).2 12) (fT (mvP (Int.tmod a 8) (Int.tmod b 8) (cf h) (4, 0)).1 12) (fT (mvP (Int.tmod a 8) (Int.tmod b 8) (cf h) (4, 0)).2 12) (fT (mvP (Int.tmod a 8) (Int.tmod b 8) (cf h) (4, 4)).1 12) (fT (mvP (Int.tmod a 8) (Int.tmod b 8) (cf h) (4, 4)).2 12) (fT (mvP (Int.tmod a 8) (Int.tmod b 8) (cf h) (0, 4)).1 12) (fT (mvP (Int.tmod a 8) (Int.tmod b 8) (cf h) (0, 4)).2 12) ?_) fun E v hv => rep_mkmesh hv
  repeat' first | exact AllP.nil | refine AllP.cons ?_ ?_
  all_goals first | rfl | assumption | exact ⟨by decide, rfl⟩ | decide | exact ⟨by decide, rfl⟩ | exact ⟨by decide, by decide⟩
theorem make_1 (k a b : Int) (h : Bool) (hk : Int.tmod k 8 = 1) : CallsTo Tryz.prog 23 [sheetAV k a b h] (meshAV 12 (mkP 1 a b h) (shT 1)) := by
  have e0 : (Int.tmod k 8 == 0) = false := by simp [hk]
  have e1 : (Int.tmod k 8 == 1) = true := by simp [hk]
  have hs := shape1_ok k ⟨by decide, e0, e1, trivial⟩
  have p0 := place1 k a b 0 0 h (by decide) (by decide)
  have p1 := place1 k a b 4 0 h (by decide) (by decide)
  have p2 := place1 k a b 4 4 h (by decide) (by decide)
  have p3 := place1 k a b 0 4 h (by decide) (by decide)
  refine CallsTo.rep (make1_ok k a b h (fT (mvP (Int.tmod a 8) (Int.tmod b 8) (cf h) (0, 0)).1 12) (fT (mvP (Int.tmod a 8) (Int.tmod b 8) (cf h) (0, 0)).2 12) (fT (mvP (Int.tmod a 8) (Int.tmod b 8) (cf h) (4, 0)).1 12) (fT (mvP (Int.tmod a 8) (Int.tmod b 8) (cf h) (4, 0)).2 12) (fT (mvP (Int.tmod a 8) (Int.tmod b 8) (cf h) (4, 4)).1 12) (fT (mvP (Int.tmod a 8) (Int.tmod b 8) (cf h) (4, 4)).2 12) (fT (mvP (Int.tmod a 8) (Int.tmod b 8) (cf h) (0, 4)).1 12) (fT (mvP (Int.tmod a 8) (Int.tmod b 8) (cf h) (0, 4)).2 12) ?_) fun E v hv => rep_mkmesh hv
  repeat' first | exact AllP.nil | refine AllP.cons ?_ ?_
  all_goals first | rfl | assumption | exact ⟨by decide, rfl⟩ | decide | exact ⟨by decide, rfl⟩ | exact ⟨by decide, by decide⟩
theorem make_2 (k a b : Int) (h : Bool) (hk : Int.tmod k 8 = 2) : CallsTo Tryz.prog 23 [sheetAV k a b h] (meshAV 12 (mkP 2 a b h) (shT 2)) := by
  have e0 : (Int.tmod k 8 == 0) = false := by simp [hk]
  have e1 : (Int.tmod k 8 == 1) = false := by simp [hk]
  have e2 : (Int.tmod k 8 == 2) = true := by simp [hk]
  have hs := shape2_ok k ⟨by decide, e0, e1, e2, ⟨by decide, by decide⟩, trivial⟩
  have p0 := place1 k a b 0 0 h (by decide) (by decide)
  have p1 := place1 k a b 4 0 h (by decide) (by decide)
  have p2 := place1 k a b 4 4 h (by decide) (by decide)
  have p3 := place1 k a b 0 4 h (by decide) (by decide)
  have p4 := place1 k a b 2 1 h (by decide) (by decide)
  refine CallsTo.rep (make2_ok k a b h (fT (mvP (Int.tmod a 8) (Int.tmod b 8) (cf h) (0, 0)).1 12) (fT (mvP (Int.tmod a 8) (Int.tmod b 8) (cf h) (0, 0)).2 12) (fT (mvP (Int.tmod a 8) (Int.tmod b 8) (cf h) (4, 0)).1 12) (fT (mvP (Int.tmod a 8) (Int.tmod b 8) (cf h) (4, 0)).2 12) (fT (mvP (Int.tmod a 8) (Int.tmod b 8) (cf h) (4, 4)).1 12) (fT (mvP (Int.tmod a 8) (Int.tmod b 8) (cf h) (4, 4)).2 12) (fT (mvP (Int.tmod a 8) (Int.tmod b 8) (cf h) (0, 4)).1 12) (fT (mvP (Int.tmod a 8) (Int.tmod b 8) (cf h) (0, 4)).2 12) (fT (mvP (Int.tmod a 8) (Int.tmod b 8) (cf h) (2, 1)).1 12) (fT (mvP (Int.tmod a 8) (Int.tmod b 8) (cf h) (2, 1)).2 12) ?_) fun E v hv => rep_mkmesh hv
  repeat' first | exact AllP.nil | refine AllP.cons ?_ ?_
  all_goals first | rfl | assumption | exact ⟨by decide, rfl⟩ | decide | exact ⟨by decide, rfl⟩ | exact ⟨by decide, by decide⟩
theorem make_3 (k a b : Int) (h : Bool) (hk : Int.tmod k 8 = 3) : CallsTo Tryz.prog 23 [sheetAV k a b h] (meshAV 12 (mkP 3 a b h) (shT 3)) := by
  have e0 : (Int.tmod k 8 == 0) = false := by simp [hk]
  have e1 : (Int.tmod k 8 == 1) = false := by simp [hk]
  have e2 : (Int.tmod k 8 == 2) = false := by simp [hk]
  have e3 : (Int.tmod k 8 == 3) = true := by simp [hk]
  have hs := shape3_ok k ⟨by decide, e0, e1, e2, e3, trivial⟩
  have p0 := place1 k a b 0 0 h (by decide) (by decide)
  have p1 := place1 k a b 6 0 h (by decide) (by decide)
  have p2 := place1 k a b 0 4 h (by decide) (by decide)
  refine CallsTo.rep (make3_ok k a b h (fT (mvP (Int.tmod a 8) (Int.tmod b 8) (cf h) (0, 0)).1 12) (fT (mvP (Int.tmod a 8) (Int.tmod b 8) (cf h) (0, 0)).2 12) (fT (mvP (Int.tmod a 8) (Int.tmod b 8) (cf h) (6, 0)).1 12) (fT (mvP (Int.tmod a 8) (Int.tmod b 8) (cf h) (6, 0)).2 12) (fT (mvP (Int.tmod a 8) (Int.tmod b 8) (cf h) (0, 4)).1 12) (fT (mvP (Int.tmod a 8) (Int.tmod b 8) (cf h) (0, 4)).2 12) ?_) fun E v hv => rep_mkmesh hv
  repeat' first | exact AllP.nil | refine AllP.cons ?_ ?_
  all_goals first | rfl | assumption | exact ⟨by decide, rfl⟩ | decide | exact ⟨by decide, rfl⟩ | exact ⟨by decide, by decide⟩
theorem make_4 (k a b : Int) (h : Bool) (hk : Int.tmod k 8 = 4) : CallsTo Tryz.prog 23 [sheetAV k a b h] (meshAV 12 (mkP 4 a b h) (shT 4)) := by
  have e0 : (Int.tmod k 8 == 0) = false := by simp [hk]
  have e1 : (Int.tmod k 8 == 1) = false := by simp [hk]
  have e2 : (Int.tmod k 8 == 2) = false := by simp [hk]
  have e3 : (Int.tmod k 8 == 3) = false := by simp [hk]
  have e4 : (Int.tmod k 8 == 4) = true := by simp [hk]
  have hs := shape4_ok k ⟨by decide, e0, e1, e2, e3, e4, trivial⟩
  have p0 := place1 k a b 0 0 h (by decide) (by decide)
  have p1 := place1 k a b 2 0 h (by decide) (by decide)
  have p2 := place1 k a b 4 0 h (by decide) (by decide)
  have p3 := place1 k a b 0 2 h (by decide) (by decide)
  have p4 := place1 k a b 2 2 h (by decide) (by decide)
  have p5 := place1 k a b 4 2 h (by decide) (by decide)
  refine CallsTo.rep (make4_ok k a b h (fT (mvP (Int.tmod a 8) (Int.tmod b 8) (cf h) (0, 0)).1 12) (fT (mvP (Int.tmod a 8) (Int.tmod b 8) (cf h) (0, 0)).2 12) (fT (mvP (Int.tmod a 8) (Int.tmod b 8) (cf h) (2, 0)).1 12) (fT (mvP (Int.tmod a 8) (Int.tmod b 8) (cf h) (2, 0)).2 12) (fT (mvP (Int.tmod a 8) (Int.tmod b 8) (cf h) (4, 0)).1 12) (fT (mvP (Int.tmod a 8) (Int.tmod b 8) (cf h) (4, 0)).2 12) (fT (mvP (Int.tmod a 8) (Int.tmod b 8) (cf h) (0, 2)).1 12) (fT (mvP (Int.tmod a 8) (Int.tmod b 8) (cf h) (0, 2)).2 12) (fT (mvP (Int.tmod a 8) (Int.tmod b 8) (cf h) (2, 2)).1 12) (fT (mvP (Int.tmod a 8) (Int.tmod b 8) (cf h) (2, 2)).2 12) (fT (mvP (Int.tmod a 8) (Int.tmod b 8) (cf h) (4, 2)).1 12) (fT (mvP (Int.tmod a 8) (Int.tmod b 8) (cf h) (4, 2)).2 12) ?_) fun E v hv => rep_mkmesh hv
  repeat' first | exact AllP.nil | refine AllP.cons ?_ ?_
  all_goals first | rfl | assumption | exact ⟨by decide, rfl⟩ | decide | exact ⟨by decide, rfl⟩ | exact ⟨by decide, by decide⟩
theorem make_5 (k a b : Int) (h : Bool) (hk : Int.tmod k 8 = 5) : CallsTo Tryz.prog 23 [sheetAV k a b h] (meshAV 12 (mkP 5 a b h) (shT 5)) := by
  have e0 : (Int.tmod k 8 == 0) = false := by simp [hk]
  have e1 : (Int.tmod k 8 == 1) = false := by simp [hk]
  have e2 : (Int.tmod k 8 == 2) = false := by simp [hk]
  have e3 : (Int.tmod k 8 == 3) = false := by simp [hk]
  have e4 : (Int.tmod k 8 == 4) = false := by simp [hk]
  have e5 : (Int.tmod k 8 == 5) = true := by simp [hk]
  have hs := shape5_ok k ⟨by decide, e0, e1, e2, e3, e4, e5, trivial⟩
  have p0 := place1 k a b 1 4 h (by decide) (by decide)
  have p1 := place1 k a b 5 3 h (by decide) (by decide)
  have p2 := place1 k a b 4 0 h (by decide) (by decide)
  have p3 := place1 k a b 0 0 h (by decide) (by decide)
  refine CallsTo.rep (make5_ok k a b h (fT (mvP (Int.tmod a 8) (Int.tmod b 8) (cf h) (1, 4)).1 12) (fT (mvP (Int.tmod a 8) (Int.tmod b 8) (cf h) (1, 4)).2 12) (fT (mvP (Int.tmod a 8) (Int.tmod b 8) (cf h) (5, 3)).1 12) (fT (mvP (Int.tmod a 8) (Int.tmod b 8) (cf h) (5, 3)).2 12) (fT (mvP (Int.tmod a 8) (Int.tmod b 8) (cf h) (4, 0)).1 12) (fT (mvP (Int.tmod a 8) (Int.tmod b 8) (cf h) (4, 0)).2 12) (fT (mvP (Int.tmod a 8) (Int.tmod b 8) (cf h) (0, 0)).1 12) (fT (mvP (Int.tmod a 8) (Int.tmod b 8) (cf h) (0, 0)).2 12) ?_) fun E v hv => rep_mkmesh hv
  repeat' first | exact AllP.nil | refine AllP.cons ?_ ?_
  all_goals first | rfl | assumption | exact ⟨by decide, rfl⟩ | decide | exact ⟨by decide, rfl⟩ | exact ⟨by decide, by decide⟩
theorem make_6 (k a b : Int) (h : Bool) (hk : Int.tmod k 8 = 6) : CallsTo Tryz.prog 23 [sheetAV k a b h] (meshAV 12 (mkP 6 a b h) (shT 6)) := by
  have e0 : (Int.tmod k 8 == 0) = false := by simp [hk]
  have e1 : (Int.tmod k 8 == 1) = false := by simp [hk]
  have e2 : (Int.tmod k 8 == 2) = false := by simp [hk]
  have e3 : (Int.tmod k 8 == 3) = false := by simp [hk]
  have e4 : (Int.tmod k 8 == 4) = false := by simp [hk]
  have e5 : (Int.tmod k 8 == 5) = false := by simp [hk]
  have e6 : (Int.tmod k 8 == 6) = true := by simp [hk]
  have hs := shape6_ok k ⟨by decide, e0, e1, e2, e3, e4, e5, e6, ⟨by decide, by decide⟩, trivial⟩
  have p0 := place1 k a b 0 0 h (by decide) (by decide)
  have p1 := place1 k a b 4 0 h (by decide) (by decide)
  have p2 := place1 k a b 4 4 h (by decide) (by decide)
  have p3 := place1 k a b 0 4 h (by decide) (by decide)
  have p4 := place1 k a b 2 0 h (by decide) (by decide)
  refine CallsTo.rep (make6_ok k a b h (fT (mvP (Int.tmod a 8) (Int.tmod b 8) (cf h) (0, 0)).1 12) (fT (mvP (Int.tmod a 8) (Int.tmod b 8) (cf h) (0, 0)).2 12) (fT (mvP (Int.tmod a 8) (Int.tmod b 8) (cf h) (4, 0)).1 12) (fT (mvP (Int.tmod a 8) (Int.tmod b 8) (cf h) (4, 0)).2 12) (fT (mvP (Int.tmod a 8) (Int.tmod b 8) (cf h) (4, 4)).1 12) (fT (mvP (Int.tmod a 8) (Int.tmod b 8) (cf h) (4, 4)).2 12) (fT (mvP (Int.tmod a 8) (Int.tmod b 8) (cf h) (0, 4)).1 12) (fT (mvP (Int.tmod a 8) (Int.tmod b 8) (cf h) (0, 4)).2 12) (fT (mvP (Int.tmod a 8) (Int.tmod b 8) (cf h) (2, 0)).1 12) (fT (mvP (Int.tmod a 8) (Int.tmod b 8) (cf h) (2, 0)).2 12) ?_) fun E v hv => rep_mkmesh hv
  repeat' first | exact AllP.nil | refine AllP.cons ?_ ?_
  all_goals first | rfl | assumption | exact ⟨by decide, rfl⟩ | decide | exact ⟨by decide, rfl⟩ | exact ⟨by decide, by decide⟩
theorem make_7 (k a b : Int) (h : Bool) (hk : Int.tmod k 8 = 7) : CallsTo Tryz.prog 23 [sheetAV k a b h] (meshAV 12 (mkP 7 a b h) (shT 7)) := by
  have e0 : (Int.tmod k 8 == 0) = false := by simp [hk]
  have e1 : (Int.tmod k 8 == 1) = false := by simp [hk]
  have e2 : (Int.tmod k 8 == 2) = false := by simp [hk]
  have e3 : (Int.tmod k 8 == 3) = false := by simp [hk]
  have e4 : (Int.tmod k 8 == 4) = false := by simp [hk]
  have e5 : (Int.tmod k 8 == 5) = false := by simp [hk]
  have e6 : (Int.tmod k 8 == 6) = false := by simp [hk]
  have hs := shape7_ok k ⟨by decide, e0, e1, e2, e3, e4, e5, e6, trivial⟩
  have p0 := place1 k a b 0 0 h (by decide) (by decide)
  have p1 := place1 k a b 6 0 h (by decide) (by decide)
  have p2 := place1 k a b 0 6 h (by decide) (by decide)
  have p3 := place1 k a b 2 2 h (by decide) (by decide)
  refine CallsTo.rep (make7_ok k a b h (fT (mvP (Int.tmod a 8) (Int.tmod b 8) (cf h) (0, 0)).1 12) (fT (mvP (Int.tmod a 8) (Int.tmod b 8) (cf h) (0, 0)).2 12) (fT (mvP (Int.tmod a 8) (Int.tmod b 8) (cf h) (6, 0)).1 12) (fT (mvP (Int.tmod a 8) (Int.tmod b 8) (cf h) (6, 0)).2 12) (fT (mvP (Int.tmod a 8) (Int.tmod b 8) (cf h) (0, 6)).1 12) (fT (mvP (Int.tmod a 8) (Int.tmod b 8) (cf h) (0, 6)).2 12) (fT (mvP (Int.tmod a 8) (Int.tmod b 8) (cf h) (2, 2)).1 12) (fT (mvP (Int.tmod a 8) (Int.tmod b 8) (cf h) (2, 2)).2 12) ?_) fun E v hv => rep_mkmesh hv
  repeat' first | exact AllP.nil | refine AllP.cons ?_ ?_
  all_goals first | rfl | assumption | exact ⟨by decide, rfl⟩ | decide | exact ⟨by decide, rfl⟩ | exact ⟨by decide, by decide⟩
theorem make_ok (k a b : Int) (h : Bool) (hk : 0 ≤ k) : CallsTo Tryz.prog 23 [sheetAV k a b h] (meshAV 12 (mkP (k.toNat % 8) a b h) (shT (k.toNat % 8))) := by
  have e : Int.tmod k 8 = ((k.toNat % 8 : Nat) : Int) := by
    rw [Int.tmod_eq_emod_of_nonneg hk]
    omega
  have hlt : k.toNat % 8 < 8 := Nat.mod_lt _ (by decide)
  generalize k.toNat % 8 = i at e hlt
  revert e
  revert i
  exact eight (make_0 k a b h) (make_1 k a b h) (make_2 k a b h) (make_3 k a b h) (make_4 k a b h) (make_5 k a b h) (make_6 k a b h) (make_7 k a b h)
end Go.Flow.Tryz
namespace Go.Flow.Tryz
open Go Go.Proofs Go.RowKit Go.Flow
set_option maxRecDepth 100000
theorem orient_ok (a : List UInt8) (a' : List UInt8) (b : List UInt8) (b' : List UInt8) (c : List UInt8) (c' : List UInt8) (d1 : List UInt8) (d2 : List UInt8) (d3 : List UInt8) (d4 : List UInt8) (p1 : List UInt8) (p2 : List UInt8) (r : List UInt8) (h : AllP
    [CallsTo Tryz.prog (20 : Nat) [sv b, sv a] (sv d1),
     CallsTo Tryz.prog (20 : Nat) [strv ((bstr (c'))), strv ((bstr (a')))] (sv d2),
     CallsTo Tryz.prog (19 : Nat) [sv d1, sv d2] (sv p1),
     CallsTo Tryz.prog (20 : Nat) [strv ((bstr (b'))), strv ((bstr (a')))] (sv d3),
     CallsTo Tryz.prog (20 : Nat) [sv c, sv a] (sv d4),
     CallsTo Tryz.prog (19 : Nat) [sv d3, sv d4] (sv p2),
     CallsTo Tryz.prog (20 : Nat) [sv p1, sv p2] (sv r)]) :
    CallsTo Tryz.prog 74 [AV.agg [sv a, strv ((bstr (a')))], AV.agg [sv b, strv ((bstr (b')))], AV.agg [sv c, strv ((bstr (c')))]] (sv r) :=
  fn_ok fits hmix Tryz.func74 (by kernel_rfl)
    [Orc.a (sv d1), Orc.a (sv d2), Orc.a (sv p1), Orc.a (sv d3), Orc.a (sv d4), Orc.a (sv p2), Orc.a (sv r)] (by kernel_rfl) h
theorem lturn_ok (a : List UInt8) (a' : List UInt8) (b : List UInt8) (b' : List UInt8) (c : List UInt8) (c' : List UInt8) (r : List UInt8) (s : Int) (h : AllP
    [CallsTo Tryz.prog (74 : Nat) [AV.agg [sv a, strv ((bstr (a')))], AV.agg [sv b, strv ((bstr (b')))], AV.agg [sv c, strv ((bstr (c')))]] (sv r),
     CallsTo Tryz.prog (75 : Nat) [sv r] (iv (s))]) :
    CallsTo Tryz.prog 38 [AV.agg [sv a, strv ((bstr (a')))], AV.agg [sv b, strv ((bstr (b')))], AV.agg [sv c, strv ((bstr (c')))]] (iv (s)) :=
  fn_ok fits hmix Tryz.func38 (by kernel_rfl)
    [Orc.a (sv r), Orc.a (iv (s))] (by kernel_rfl) h
theorem lcorn_ok (ps : List (List Value)) (ts : List (List Value)) (i : Int) (a : Int) (b : Int) (c : Int) (x1 : List UInt8) (y1 : List UInt8) (x2 : List UInt8) (y2 : List UInt8) (x3 : List UInt8) (y3 : List UInt8) (h : AllP
    [(0 : Int) ≤ i ∧ (List.map rowAV ts)[Int.toNat i]? = some (AV.agg [iv (a), iv (b), iv (c)]),
     (0 : Int) ≤ (0 : Int) ∧ (0 : Int) < (↑(3 : Nat) : Int),
     (0 : Int) ≤ a ∧ (List.map rowAV ps)[Int.toNat a]? = some (AV.agg [sv x1, sv y1]),
     (0 : Int) ≤ (1 : Int) ∧ (1 : Int) < (↑(3 : Nat) : Int),
     (0 : Int) ≤ b ∧ (List.map rowAV ps)[Int.toNat b]? = some (AV.agg [sv x2, sv y2]),
     (0 : Int) ≤ (2 : Int) ∧ (2 : Int) < (↑(3 : Nat) : Int),
     (0 : Int) ≤ c ∧ (List.map rowAV ps)[Int.toNat c]? = some (AV.agg [sv x3, sv y3])]) :
    CallsTo Tryz.prog 27 [AV.agg [AV.ps 2 ps, AV.ps 3 ts], iv (i)] (AV.agg [sv x1, sv y1, sv x2, sv y2, sv x3, sv y3]) :=
  fn_ok fits hmix Tryz.func27 (by kernel_rfl)
    [Orc.a (AV.agg [iv (a), iv (b), iv (c)]), Orc.a (AV.agg [sv x1, sv y1]), Orc.a (AV.agg [sv x2, sv y2]), Orc.a (AV.agg [sv x3, sv y3])] (by kernel_rfl) h
theorem linside_ok (a : List UInt8) (a' : List UInt8) (b : List UInt8) (b' : List UInt8) (c : List UInt8) (c' : List UInt8) (p : List UInt8) (p' : List UInt8) (s1 : Int) (s2 : Int) (s3 : Int) (h : AllP
    [(0 : Int) ≤ (0 : Int) ∧ (0 : Int) < (↑(3 : Nat) : Int),
     (0 : Int) ≤ (1 : Int) ∧ (1 : Int) < (↑(3 : Nat) : Int),
     CallsTo Tryz.prog (38 : Nat) [AV.agg [sv a, strv ((bstr (a')))], AV.agg [sv b, strv ((bstr (b')))], AV.agg [sv p, strv ((bstr (p')))]] (iv (s1)),
     decide (s1 ≥ (0 : Int)) = true,
     (0 : Int) ≤ (1 : Int) ∧ (1 : Int) < (↑(3 : Nat) : Int),
     decide (s1 ≥ (0 : Int)) = true,
     decide (s1 ≥ (0 : Int)) = true,
     (0 : Int) ≤ (2 : Int) ∧ (2 : Int) < (↑(3 : Nat) : Int),
     decide (s1 ≥ (0 : Int)) = true,
     decide (s1 ≥ (0 : Int)) = true,
     decide (s1 ≥ (0 : Int)) = true,
     CallsTo Tryz.prog (38 : Nat) [AV.agg [sv b, strv ((bstr (b')))], AV.agg [sv c, strv ((bstr (c')))], AV.agg [sv p, strv ((bstr (p')))]] (iv (s2)),
     decide (s1 ≥ (0 : Int)) = true,
     decide (s1 ≥ (0 : Int)) = true,
     decide (s2 ≥ (0 : Int)) = true,
     (0 : Int) ≤ (2 : Int) ∧ (2 : Int) < (↑(3 : Nat) : Int),
     decide (s2 ≥ (0 : Int)) = true,
     decide (s2 ≥ (0 : Int)) = true,
     (0 : Int) ≤ (0 : Int) ∧ (0 : Int) < (↑(3 : Nat) : Int),
     decide (s2 ≥ (0 : Int)) = true,
     decide (s2 ≥ (0 : Int)) = true,
     decide (s2 ≥ (0 : Int)) = true,
     CallsTo Tryz.prog (38 : Nat) [AV.agg [sv c, strv ((bstr (c')))], AV.agg [sv a, strv ((bstr (a')))], AV.agg [sv p, strv ((bstr (p')))]] (iv (s3)),
     decide (s2 ≥ (0 : Int)) = true,
     decide (s2 ≥ (0 : Int)) = true]) :
    CallsTo Tryz.prog 32 [AV.agg [sv a, strv ((bstr (a'))), sv b, strv ((bstr (b'))), sv c, strv ((bstr (c')))], AV.agg [sv p, strv ((bstr (p')))]] (bv ((decide (s3 ≥ (0 : Int))))) :=
  fn_ok fits hmix Tryz.func32 (by kernel_rfl)
    [Orc.a (iv (s1)), Orc.b true, Orc.b true, Orc.b true, Orc.b true, Orc.b true, Orc.b true, Orc.a (iv (s2)), Orc.b true, Orc.b true, Orc.b true, Orc.b true, Orc.b true, Orc.b true, Orc.b true, Orc.b true, Orc.a (iv (s3)), Orc.b true, Orc.b true] (by kernel_rfl) h
theorem linside_f1_ok (a : List UInt8) (a' : List UInt8) (b : List UInt8) (b' : List UInt8) (c : List UInt8) (c' : List UInt8) (p : List UInt8) (p' : List UInt8) (s1 : Int) (h : AllP
    [(0 : Int) ≤ (0 : Int) ∧ (0 : Int) < (↑(3 : Nat) : Int),
     (0 : Int) ≤ (1 : Int) ∧ (1 : Int) < (↑(3 : Nat) : Int),
     CallsTo Tryz.prog (38 : Nat) [AV.agg [sv a, strv ((bstr (a')))], AV.agg [sv b, strv ((bstr (b')))], AV.agg [sv p, strv ((bstr (p')))]] (iv (s1)),
     decide (s1 ≥ (0 : Int)) = false,
     decide (s1 ≥ (0 : Int)) = false,
     decide (s1 ≥ (0 : Int)) = false,
     decide (s1 ≥ (0 : Int)) = false,
     decide (s1 ≥ (0 : Int)) = false,
     decide (s1 ≥ (0 : Int)) = false,
     decide (s1 ≥ (0 : Int)) = false,
     decide (s1 ≥ (0 : Int)) = false,
     false = false,
     false = false,
     false = false,
     false = false,
     false = false,
     false = false,
     false = false,
     false = false]) :
    CallsTo Tryz.prog 32 [AV.agg [sv a, strv ((bstr (a'))), sv b, strv ((bstr (b'))), sv c, strv ((bstr (c')))], AV.agg [sv p, strv ((bstr (p')))]] (bv (false)) :=
  fn_ok fits hmix Tryz.func32 (by kernel_rfl)
    [Orc.a (iv (s1)), Orc.b false, Orc.b false, Orc.b false, Orc.b false, Orc.b false, Orc.b false, Orc.b false, Orc.b false, Orc.b false, Orc.b false, Orc.b false, Orc.b false, Orc.b false, Orc.b false, Orc.b false, Orc.b false] (by kernel_rfl) h
theorem linside_f2_ok (a : List UInt8) (a' : List UInt8) (b : List UInt8) (b' : List UInt8) (c : List UInt8) (c' : List UInt8) (p : List UInt8) (p' : List UInt8) (s1 : Int) (s2 : Int) (h : AllP
    [(0 : Int) ≤ (0 : Int) ∧ (0 : Int) < (↑(3 : Nat) : Int),
     (0 : Int) ≤ (1 : Int) ∧ (1 : Int) < (↑(3 : Nat) : Int),
     CallsTo Tryz.prog (38 : Nat) [AV.agg [sv a, strv ((bstr (a')))], AV.agg [sv b, strv ((bstr (b')))], AV.agg [sv p, strv ((bstr (p')))]] (iv (s1)),
     decide (s1 ≥ (0 : Int)) = true,
     (0 : Int) ≤ (1 : Int) ∧ (1 : Int) < (↑(3 : Nat) : Int),
     decide (s1 ≥ (0 : Int)) = true,
     decide (s1 ≥ (0 : Int)) = true,
     (0 : Int) ≤ (2 : Int) ∧ (2 : Int) < (↑(3 : Nat) : Int),
     decide (s1 ≥ (0 : Int)) = true,
     decide (s1 ≥ (0 : Int)) = true,
     decide (s1 ≥ (0 : Int)) = true,
     CallsTo Tryz.prog (38 : Nat) [AV.agg [sv b, strv ((bstr (b')))], AV.agg [sv c, strv ((bstr (c')))], AV.agg [sv p, strv ((bstr (p')))]] (iv (s2)),
     decide (s1 ≥ (0 : Int)) = true,
     decide (s1 ≥ (0 : Int)) = true,
     decide (s2 ≥ (0 : Int)) = false,
     decide (s2 ≥ (0 : Int)) = false,
     decide (s2 ≥ (0 : Int)) = false,
     decide (s2 ≥ (0 : Int)) = false,
     decide (s2 ≥ (0 : Int)) = false,
     decide (s2 ≥ (0 : Int)) = false,
     decide (s2 ≥ (0 : Int)) = false,
     decide (s2 ≥ (0 : Int)) = false]) :
    CallsTo Tryz.prog 32 [AV.agg [sv a, strv ((bstr (a'))), sv b, strv ((bstr (b'))), sv c, strv ((bstr (c')))], AV.agg [sv p, strv ((bstr (p')))]] (bv (false)) :=
  fn_ok fits hmix Tryz.func32 (by kernel_rfl)
    [Orc.a (iv (s1)), Orc.b true, Orc.b true, Orc.b true, Orc.b true, Orc.b true, Orc.b true, Orc.a (iv (s2)), Orc.b true, Orc.b true, Orc.b false, Orc.b false, Orc.b false, Orc.b false, Orc.b false, Orc.b false, Orc.b false, Orc.b false] (by kernel_rfl) h
theorem lpoint_ok (x : Int) (y : Int) (u : List UInt8) (v : List UInt8) (h : AllP
    [CallsTo Tryz.prog (95 : Nat) [iv (x)] (sv u),
     CallsTo Tryz.prog (95 : Nat) [iv (y)] (sv v)]) :
    CallsTo Tryz.prog 48 [iv (x), iv (y)] (AV.agg [sv u, sv v]) :=
  fn_ok fits hmix Tryz.func48 (by kernel_rfl)
    [Orc.a (sv u), Orc.a (sv v)] (by kernel_rfl) h
theorem grid1_ok (a : List UInt8) (b : List UInt8) (k : List UInt8) (d : List UInt8) (e : List UInt8) (s : List UInt8) (i : Int) (n : Int) (h : AllP
    [CallsTo Tryz.prog (17 : Nat) [iv (i), iv (n)] (AV.tup [sv k, iv 0]),
     CallsTo Tryz.prog (20 : Nat) [sv b, sv a] (sv d),
     CallsTo Tryz.prog (19 : Nat) [sv k, sv d] (sv e),
     CallsTo Tryz.prog (18 : Nat) [sv a, sv e] (sv s)]) :
    CallsTo Tryz.prog 57 [sv a, sv b, iv (i), iv (n)] (sv s) :=
  fn_ok fits hmix Tryz.func57 (by kernel_rfl)
    [Orc.a (AV.tup [sv k, iv 0]), Orc.a (sv d), Orc.a (sv e), Orc.a (sv s)] (by kernel_rfl) h
theorem bdry_ok (ps : List (List Value)) (ts : List (List Value)) (es : List (Value × Value)) (cy : List Value) (h : AllP
    [CallsTo Tryz.prog (22 : Nat) [AV.agg [AV.ps 2 ps, AV.ps 3 ts]] (iv 0),
     false = false,
     CallsTo Tryz.prog (83 : Nat) [AV.agg [AV.ps 2 ps, AV.ps 3 ts]] (AV.tup [AV.mv es, bv (true)]),
     CallsTo Tryz.prog (91 : Nat) [AV.agg [AV.ps 2 ps, AV.ps 3 ts], AV.mv es] (AV.tup [AV.ls cy, bv (true)])]) :
    CallsTo Tryz.prog 42 [AV.agg [AV.ps 2 ps, AV.ps 3 ts]] (AV.tup [AV.ls cy, iv 0]) :=
  fn_ok fits hmix Tryz.func42 (by kernel_rfl)
    [Orc.a (iv 0), Orc.b false, Orc.a (AV.tup [AV.mv es, bv (true)]), Orc.a (AV.tup [AV.ls cy, bv (true)])] (by kernel_rfl) h
end Go.Flow.Tryz
namespace Go.Flow.Tryz
open Go Go.Proofs Go.RowKit Go.Flow
set_option maxRecDepth 100000
theorem lorient (N : Nat) (hN : 0 < N) (hN4 : N < 10000) (a b c : Pt) (ha : smallP a) (hb : smallP b) (hc : smallP c) :
    CallsTo Tryz.prog 74 [.agg (ptS N a), .agg (ptS N b), .agg (ptS N c)] (sv (fT (det a b c) (N * N))) := by
  obtain ⟨a1, a2⟩ := ha
  obtain ⟨b1, b2⟩ := hb
  obtain ⟨c1, c2⟩ := hc
  have hNN : N * N < 100000000 := Nat.mul_lt_mul'' hN4 hN4
  have hNN0 : 0 < N * N := Nat.mul_pos hN hN
  have m1 := mul_small (a := b.1 - a.1) (b := c.2 - a.2) (by omega) (by omega)
  have m2 := mul_small (a := b.2 - a.2) (b := c.1 - a.1) (by omega) (by omega)
  refine orient_ok _ _ _ _ _ _ (fT (b.1 - a.1) N) (fT (c.2 - a.2) N) (fT (b.2 - a.2) N) (fT (c.1 - a.1) N) (fT ((b.1 - a.1) * (c.2 - a.2)) (N * N)) (fT ((b.2 - a.2) * (c.1 - a.1)) (N * N)) _ ?_
  exact ⟨sub_same _ _ N hN (by omega) (by omega) (by omega), sub_same _ _ N hN (by omega) (by omega) (by omega), mul_ok _ _ N N hN hN (by omega) (by omega) (by omega) (by omega),
    sub_same _ _ N hN (by omega) (by omega) (by omega), sub_same _ _ N hN (by omega) (by omega) (by omega), mul_ok _ _ N N hN hN (by omega) (by omega) (by omega) (by omega),
    sub_same _ _ (N * N) hNN0 (by omega) (by omega) (by omega), trivial⟩
theorem lturn (N : Nat) (hN : 0 < N) (hN4 : N < 10000) (a b c : Pt) (ha : smallP a) (hb : smallP b) (hc : smallP c) :
    CallsTo Tryz.prog 38 [.agg (ptS N a), .agg (ptS N b), .agg (ptS N c)] (iv (det a b c).sign) :=
  lturn_ok _ _ _ _ _ _ _ _ ⟨lorient N hN hN4 a b c ha hb hc, sign_ok _ _ (Nat.mul_pos hN hN), trivial⟩
theorem linside (N : Nat) (hN : 0 < N) (hN4 : N < 10000) (a b c p : Pt) (ha : smallP a) (hb : smallP b) (hc : smallP c) (hp : smallP p) :
    CallsTo Tryz.prog 32 [.agg (ptS N a ++ ptS N b ++ ptS N c), .agg (ptS N p)] (bv (insideB a b c p)) := by
  have t1 := lturn N hN hN4 a b p ha hb hp
  have t2 := lturn N hN hN4 b c p hb hc hp
  have t3 := lturn N hN hN4 c a p hc ha hp
  have s1 := sign_nonneg (det a b p)
  have s2 := sign_nonneg (det b c p)
  have s3 := sign_nonneg (det c a p)
  unfold insideB
  by_cases h1 : 0 ≤ det a b p
  · rw [decide_eq_true (show det a b p ≥ 0 from h1)] at s1
    by_cases h2 : 0 ≤ det b c p
    · rw [decide_eq_true (show det b c p ≥ 0 from h2)] at s2
      rw [decide_eq_true h1, decide_eq_true h2, Bool.true_and, Bool.true_and, show decide (0 ≤ det c a p) = decide ((det c a p).sign ≥ 0) from s3.symm]
      refine linside_ok _ _ _ _ _ _ _ _ (det a b p).sign (det b c p).sign (det c a p).sign ?_
      repeat' first | exact AllP.nil | refine AllP.cons ?_ ?_
      all_goals first | exact t1 | exact t2 | exact t3 | exact s1 | exact s2 | decide
    · rw [decide_eq_false (show ¬ det b c p ≥ 0 from h2)] at s2
      rw [decide_eq_true h1, decide_eq_false h2, Bool.false_and, Bool.and_false]
      refine linside_f2_ok _ _ _ _ _ _ _ _ (det a b p).sign (det b c p).sign ?_
      repeat' first | exact AllP.nil | refine AllP.cons ?_ ?_
      all_goals first | exact t1 | exact t2 | exact s1 | exact s2 | rfl | decide
  · rw [decide_eq_false (show ¬ det a b p ≥ 0 from h1)] at s1
    rw [decide_eq_false h1, Bool.false_and]
    refine linside_f1_ok _ _ _ _ _ _ _ _ (det a b p).sign ?_
    repeat' first | exact AllP.nil | refine AllP.cons ?_ ?_
    all_goals first | exact t1 | exact s1 | rfl | decide
variable {pts : List Pt} {tris : List Tri} {c0 : Int} {rest : List Int}
theorem Sheet.lcorners (s : Sheet pts tris c0 rest) (N : Nat) {i : Nat} (hi : i < tris.length) :
    CallsTo Tryz.prog 27 [meshAV N pts tris, iv i] (.agg (ptS N (corA pts tris i) ++ ptS N (corB pts tris i) ++ ptS N (corC pts tris i))) := by
  have e : tris.getD i (0, 0, 0) = tris[i] := by simp [List.getD, List.getElem?_eq_getElem hi]
  obtain ⟨⟨a0, a1⟩, ⟨b0, b1⟩, ⟨c0, c1⟩⟩ := s.inn _ (List.getElem_mem hi)
  unfold corA corB corC
  rw [e]
  refine lcorn_ok _ _ i tris[i].1 tris[i].2.1 tris[i].2.2 _ _ _ _ _ _ ⟨⟨by omega, ?_⟩, by decide, ⟨a0, ptR_get a0 a1⟩, by decide, ⟨b0, ptR_get b0 b1⟩, by decide, ⟨c0, ptR_get c0 c1⟩, trivial⟩
  rw [Int.toNat_natCast, List.getElem?_map, List.getElem?_map, List.getElem?_eq_getElem hi]
  rfl
end Go.Flow.Tryz
namespace Go.Flow.Tryz
open Go Go.Proofs Go.RowKit Go.Flow
set_option maxRecDepth 100000
theorem grid21_ok (x0 : List UInt8) (y0 : List UInt8) (x1 : List UInt8) (y1 : List UInt8) (u0 : List UInt8) (v0 : List UInt8) (u1 : List UInt8) (v1 : List UInt8) (u2 : List UInt8) (v2 : List UInt8) (u3 : List UInt8) (v3 : List UInt8) (u4 : List UInt8) (v4 : List UInt8) (u5 : List UInt8) (v5 : List UInt8) (h : AllP
    [CallsTo Tryz.prog (56 : Nat) [AV.agg [sv x0, sv y0]] (iv 0),
     false = false,
     false = false,
     CallsTo Tryz.prog (56 : Nat) [AV.agg [sv x1, sv y1]] (iv 0),
     false = false,
     false = false,
     false = false,
     CallsTo Tryz.prog (14 : Nat) [sv x0, sv x1] (iv ((-1 : Int))),
     false = false,
     false = false,
     false = false,
     false = false,
     false = false,
     CallsTo Tryz.prog (14 : Nat) [sv y0, sv y1] (iv ((-1 : Int))),
     false = false,
     false = false,
     false = false,
     false = false,
     false = false,
     false = false,
     false = false,
     false = false,
     false = false,
     false = false,
     false = false,
     false = false,
     false = false,
     IntKind.wrap IntKind.i64 ((1 : Int) + (1 : Int)) = (1 : Int) + (1 : Int),
     true = true,
     IntKind.wrap IntKind.i64 ((2 : Int) + (1 : Int)) = (2 : Int) + (1 : Int),
     true = true,
     CallsTo Tryz.prog (57 : Nat) [sv x0, sv x1, iv 0, iv 2] (sv u0),
     CallsTo Tryz.prog (57 : Nat) [sv y0, sv y1, iv 0, iv 1] (sv v0),
     CallsTo Tryz.prog (56 : Nat) [AV.agg [sv u0, sv v0]] (iv 0),
     false = false,
     nat_lit 1 ≤ nat_lit 9223372036854775807 ∧ nat_lit 32 ≤ nat_lit 140737488355328,
     IntKind.wrap IntKind.i64 ((0 : Int) + (1 : Int)) = (0 : Int) + (1 : Int),
     true = true,
     CallsTo Tryz.prog (57 : Nat) [sv x0, sv x1, iv (((0 : Int) + (1 : Int))), iv 2] (sv u1),
     CallsTo Tryz.prog (57 : Nat) [sv y0, sv y1, iv 0, iv 1] (sv v1),
     CallsTo Tryz.prog (56 : Nat) [AV.agg [sv u1, sv v1]] (iv 0),
     false = false,
     nat_lit 2 ≤ nat_lit 9223372036854775807 ∧ nat_lit 64 ≤ nat_lit 140737488355328,
     IntKind.wrap IntKind.i64 ((0 : Int) + (1 : Int) + (1 : Int)) = (0 : Int) + (1 : Int) + (1 : Int),
     true = true,
     CallsTo Tryz.prog (57 : Nat) [sv x0, sv x1, iv (((0 : Int) + (1 : Int) + (1 : Int))), iv 2] (sv u2),
     CallsTo Tryz.prog (57 : Nat) [sv y0, sv y1, iv 0, iv 1] (sv v2),
     CallsTo Tryz.prog (56 : Nat) [AV.agg [sv u2, sv v2]] (iv 0),
     false = false,
     nat_lit 3 ≤ nat_lit 9223372036854775807 ∧ nat_lit 96 ≤ nat_lit 140737488355328,
     IntKind.wrap IntKind.i64 ((0 : Int) + (1 : Int) + (1 : Int) + (1 : Int)) = (0 : Int) + (1 : Int) + (1 : Int) + (1 : Int),
     false = false,
     IntKind.wrap IntKind.i64 ((0 : Int) + (1 : Int)) = (0 : Int) + (1 : Int),
     true = true,
     IntKind.wrap IntKind.i64 ((2 : Int) + (1 : Int)) = (2 : Int) + (1 : Int),
     true = true,
     CallsTo Tryz.prog (57 : Nat) [sv x0, sv x1, iv 0, iv 2] (sv u3),
     CallsTo Tryz.prog (57 : Nat) [sv y0, sv y1, iv (((0 : Int) + (1 : Int))), iv 1] (sv v3),
     CallsTo Tryz.prog (56 : Nat) [AV.agg [sv u3, sv v3]] (iv 0),
     false = false,
     nat_lit 4 ≤ nat_lit 9223372036854775807 ∧ nat_lit 128 ≤ nat_lit 140737488355328,
     IntKind.wrap IntKind.i64 ((0 : Int) + (1 : Int)) = (0 : Int) + (1 : Int),
     true = true,
     CallsTo Tryz.prog (57 : Nat) [sv x0, sv x1, iv (((0 : Int) + (1 : Int))), iv 2] (sv u4),
     CallsTo Tryz.prog (57 : Nat) [sv y0, sv y1, iv (((0 : Int) + (1 : Int))), iv 1] (sv v4),
     CallsTo Tryz.prog (56 : Nat) [AV.agg [sv u4, sv v4]] (iv 0),
     false = false,
     nat_lit 5 ≤ nat_lit 9223372036854775807 ∧ nat_lit 160 ≤ nat_lit 140737488355328,
     IntKind.wrap IntKind.i64 ((0 : Int) + (1 : Int) + (1 : Int)) = (0 : Int) + (1 : Int) + (1 : Int),
     true = true,
     CallsTo Tryz.prog (57 : Nat) [sv x0, sv x1, iv (((0 : Int) + (1 : Int) + (1 : Int))), iv 2] (sv u5),
     CallsTo Tryz.prog (57 : Nat) [sv y0, sv y1, iv (((0 : Int) + (1 : Int))), iv 1] (sv v5),
     CallsTo Tryz.prog (56 : Nat) [AV.agg [sv u5, sv v5]] (iv 0),
     false = false,
     nat_lit 6 ≤ nat_lit 9223372036854775807 ∧ nat_lit 192 ≤ nat_lit 140737488355328,
     IntKind.wrap IntKind.i64 ((0 : Int) + (1 : Int) + (1 : Int) + (1 : Int)) = (0 : Int) + (1 : Int) + (1 : Int) + (1 : Int),
     false = false,
     IntKind.wrap IntKind.i64 ((0 : Int) + (1 : Int) + (1 : Int)) = (0 : Int) + (1 : Int) + (1 : Int),
     false = false,
     true = true,
     true = true,
     IntKind.wrap IntKind.i64 ((2 : Int) + (1 : Int)) = (2 : Int) + (1 : Int),
     IntKind.wrap IntKind.i64 ((0 : Int) * ((2 : Int) + (1 : Int))) = (0 : Int) * ((2 : Int) + (1 : Int)),
     IntKind.wrap IntKind.i64 ((0 : Int) * ((2 : Int) + (1 : Int)) + (0 : Int)) = (0 : Int) * ((2 : Int) + (1 : Int)) + (0 : Int),
     IntKind.wrap IntKind.i64 ((0 : Int) * ((2 : Int) + (1 : Int)) + (0 : Int) + (2 : Int)) = (0 : Int) * ((2 : Int) + (1 : Int)) + (0 : Int) + (2 : Int),
     IntKind.wrap IntKind.i64 ((0 : Int) * ((2 : Int) + (1 : Int)) + (0 : Int) + (2 : Int) + (1 : Int)) = (0 : Int) * ((2 : Int) + (1 : Int)) + (0 : Int) + (2 : Int) + (1 : Int),
     IntKind.wrap IntKind.i64 ((0 : Int) * ((2 : Int) + (1 : Int)) + (0 : Int) + (1 : Int)) = (0 : Int) * ((2 : Int) + (1 : Int)) + (0 : Int) + (1 : Int),
     IntKind.wrap IntKind.i64 ((0 : Int) * ((2 : Int) + (1 : Int)) + (0 : Int) + (2 : Int) + (1 : Int) + (1 : Int)) = (0 : Int) * ((2 : Int) + (1 : Int)) + (0 : Int) + (2 : Int) + (1 : Int) + (1 : Int),
     IntKind.wrap IntKind.i64 ((0 : Int) * ((2 : Int) + (1 : Int)) + (0 : Int) + (2 : Int) + (1 : Int) + (1 : Int)) = (0 : Int) * ((2 : Int) + (1 : Int)) + (0 : Int) + (2 : Int) + (1 : Int) + (1 : Int),
     nat_lit 2 ≤ nat_lit 9223372036854775807 ∧ nat_lit 48 ≤ nat_lit 140737488355328,
     IntKind.wrap IntKind.i64 ((0 : Int) + (1 : Int)) = (0 : Int) + (1 : Int),
     true = true,
     IntKind.wrap IntKind.i64 ((2 : Int) + (1 : Int)) = (2 : Int) + (1 : Int),
     IntKind.wrap IntKind.i64 ((0 : Int) * ((2 : Int) + (1 : Int))) = (0 : Int) * ((2 : Int) + (1 : Int)),
     IntKind.wrap IntKind.i64 ((0 : Int) * ((2 : Int) + (1 : Int)) + ((0 : Int) + (1 : Int))) = (0 : Int) * ((2 : Int) + (1 : Int)) + ((0 : Int) + (1 : Int)),
     IntKind.wrap IntKind.i64 ((0 : Int) * ((2 : Int) + (1 : Int)) + ((0 : Int) + (1 : Int)) + (2 : Int)) = (0 : Int) * ((2 : Int) + (1 : Int)) + ((0 : Int) + (1 : Int)) + (2 : Int),
     IntKind.wrap IntKind.i64 ((0 : Int) * ((2 : Int) + (1 : Int)) + ((0 : Int) + (1 : Int)) + (2 : Int) + (1 : Int)) = (0 : Int) * ((2 : Int) + (1 : Int)) + ((0 : Int) + (1 : Int)) + (2 : Int) + (1 : Int),
     IntKind.wrap IntKind.i64 ((0 : Int) * ((2 : Int) + (1 : Int)) + ((0 : Int) + (1 : Int)) + (1 : Int)) = (0 : Int) * ((2 : Int) + (1 : Int)) + ((0 : Int) + (1 : Int)) + (1 : Int),
     IntKind.wrap IntKind.i64 ((0 : Int) * ((2 : Int) + (1 : Int)) + ((0 : Int) + (1 : Int)) + (2 : Int) + (1 : Int) + (1 : Int)) = (0 : Int) * ((2 : Int) + (1 : Int)) + ((0 : Int) + (1 : Int)) + (2 : Int) + (1 : Int) + (1 : Int),
     IntKind.wrap IntKind.i64 ((0 : Int) * ((2 : Int) + (1 : Int)) + ((0 : Int) + (1 : Int)) + (2 : Int) + (1 : Int) + (1 : Int)) = (0 : Int) * ((2 : Int) + (1 : Int)) + ((0 : Int) + (1 : Int)) + (2 : Int) + (1 : Int) + (1 : Int),
     nat_lit 4 ≤ nat_lit 9223372036854775807 ∧ nat_lit 96 ≤ nat_lit 140737488355328,
     IntKind.wrap IntKind.i64 ((0 : Int) + (1 : Int) + (1 : Int)) = (0 : Int) + (1 : Int) + (1 : Int),
     false = false,
     IntKind.wrap IntKind.i64 ((0 : Int) + (1 : Int)) = (0 : Int) + (1 : Int),
     false = false]) :
    CallsTo Tryz.prog 15 [AV.agg [sv x0, sv y0], AV.agg [sv x1, sv y1], iv 2, iv 1] (AV.tup [AV.agg [AV.lst 2 [AV.agg [sv u0, sv v0], AV.agg [sv u1, sv v1], AV.agg [sv u2, sv v2], AV.agg [sv u3, sv v3], AV.agg [sv u4, sv v4], AV.agg [sv u5, sv v5]], AV.lst 3 [AV.agg [iv (((0 : Int) * ((2 : Int) + (1 : Int)) + (0 : Int))), iv (((0 : Int) * ((2 : Int) + (1 : Int)) + (0 : Int) + (1 : Int))), iv (((0 : Int) * ((2 : Int) + (1 : Int)) + (0 : Int) + (2 : Int) + (1 : Int) + (1 : Int)))], AV.agg [iv (((0 : Int) * ((2 : Int) + (1 : Int)) + (0 : Int))), iv (((0 : Int) * ((2 : Int) + (1 : Int)) + (0 : Int) + (2 : Int) + (1 : Int) + (1 : Int))), iv (((0 : Int) * ((2 : Int) + (1 : Int)) + (0 : Int) + (2 : Int) + (1 : Int)))], AV.agg [iv (((0 : Int) * ((2 : Int) + (1 : Int)) + ((0 : Int) + (1 : Int)))), iv (((0 : Int) * ((2 : Int) + (1 : Int)) + ((0 : Int) + (1 : Int)) + (1 : Int))), iv (((0 : Int) * ((2 : Int) + (1 : Int)) + ((0 : Int) + (1 : Int)) + (2 : Int) + (1 : Int) + (1 : Int)))], AV.agg [iv (((0 : Int) * ((2 : Int) + (1 : Int)) + ((0 : Int) + (1 : Int)))), iv (((0 : Int) * ((2 : Int) + (1 : Int)) + ((0 : Int) + (1 : Int)) + (2 : Int) + (1 : Int) + (1 : Int))), iv (((0 : Int) * ((2 : Int) + (1 : Int)) + ((0 : Int) + (1 : Int)) + (2 : Int) + (1 : Int)))]]], iv 0]) :=
  fn_ok fits hmix Tryz.func15 (by kernel_rfl)
    [Orc.a (iv 0), Orc.b false, Orc.b false, Orc.a (iv 0), Orc.b false, Orc.b false, Orc.b false, Orc.a (iv ((-1 : Int))), Orc.b false, Orc.b false, Orc.b false, Orc.b false, Orc.b false, Orc.a (iv ((-1 : Int))), Orc.b false, Orc.b false, Orc.b false, Orc.b false, Orc.b false, Orc.b false, Orc.b false, Orc.b false, Orc.b false, Orc.b false, Orc.b false, Orc.b false, Orc.b false, Orc.u (3 : Nat), Orc.b true, Orc.u (4 : Nat), Orc.b true, Orc.a (sv u0), Orc.a (sv v0), Orc.a (iv 0), Orc.b false, Orc.b true, Orc.a (sv u1), Orc.a (sv v1), Orc.a (iv 0), Orc.b false, Orc.b true, Orc.a (sv u2), Orc.a (sv v2), Orc.a (iv 0), Orc.b false, Orc.b false, Orc.b true, Orc.u (4 : Nat), Orc.b true, Orc.a (sv u3), Orc.a (sv v3), Orc.a (iv 0), Orc.b false, Orc.b true, Orc.a (sv u4), Orc.a (sv v4), Orc.a (iv 0), Orc.b false, Orc.b true, Orc.a (sv u5), Orc.a (sv v5), Orc.a (iv 0), Orc.b false, Orc.b false, Orc.b false, Orc.u (2 : Nat), Orc.b true, Orc.u (3 : Nat), Orc.b true, Orc.b true, Orc.b false, Orc.b false] (by kernel_rfl) h
end Go.Flow.Tryz
namespace Go.Flow.Tryz
open Go Go.Proofs Go.RowKit Go.Flow
set_option maxRecDepth 100000
theorem knownf_ok (z0 : List UInt8) (z1 : List UInt8) (z2 : List UInt8) (z3 : List UInt8) (z4 : List UInt8) (z5 : List UInt8) (z6 : List UInt8) (z7 : List UInt8) (z8 : List UInt8) (z9 : List UInt8) (ps : List (List Value)) (ts : List (List Value)) (w1 : List UInt8) (w2 : List UInt8) (w3 : List UInt8) (cy : List Value) (ou : List (List Value)) (t1 : Int) (t2 : Int) (t3 : Int) (s1 : Int) (s2 : Int) (f1 : List UInt8) (f2 : List UInt8) (f3 : List UInt8) (f4 : List UInt8) (h : AllP
    [CallsTo Tryz.prog (48 : Nat) [iv 0, iv 0] (AV.agg [sv z0, sv z1]),
     CallsTo Tryz.prog (48 : Nat) [iv 4, iv 2] (AV.agg [sv z2, sv z3]),
     CallsTo Tryz.prog (15 : Nat) [AV.agg [sv z0, sv z1], AV.agg [sv z2, sv z3], iv 2, iv 1] (AV.tup [AV.agg [AV.ps 2 ps, AV.ps 3 ts], iv 0]),
     CallsTo Tryz.prog (42 : Nat) [AV.agg [AV.ps 2 ps, AV.ps 3 ts]] (AV.tup [AV.ls cy, iv 0]),
     CallsTo Tryz.prog (48 : Nat) [iv 1, iv 1] (AV.agg [sv z4, sv z5]),
     CallsTo Tryz.prog (28 : Nat) [AV.agg [AV.ps 2 ps, AV.ps 3 ts], iv 0, AV.agg [sv z4, sv z5]] (AV.tup [AV.agg [sv w1, sv w2, sv w3], iv 0]),
     CallsTo Tryz.prog (48 : Nat) [iv ((-1 : Int)), iv 1] (AV.agg [sv z6, sv z7]),
     CallsTo Tryz.prog (48 : Nat) [iv 3, iv 1] (AV.agg [sv z8, sv z9]),
     CallsTo Tryz.prog (25 : Nat) [AV.agg [AV.ps 2 ps, AV.ps 3 ts], AV.agg [sv z6, sv z7], AV.agg [sv z8, sv z9]] (AV.tup [AV.ps 3 ou, iv 0]),
     true = true,
     true = true,
     true = true,
     true = true,
     true = true,
     ((↑(List.length (List.map rowAV ps)) : Int) == (6 : Int)) = true,
     ((↑(List.length (List.map rowAV ps)) : Int) == (6 : Int)) = true,
     ((↑(List.length (List.map rowAV ps)) : Int) == (6 : Int)) = true,
     ((↑(List.length (List.map rowAV ps)) : Int) == (6 : Int)) = true,
     ((↑(List.length (List.map rowAV ps)) : Int) == (6 : Int)) = true,
     ((↑(List.length (List.map rowAV ts)) : Int) == (4 : Int)) = true,
     ((↑(List.length (List.map rowAV ts)) : Int) == (4 : Int)) = true,
     ((↑(List.length (List.map rowAV ts)) : Int) == (4 : Int)) = true,
     (0 : Int) ≤ (3 : Int) ∧ (List.map rowAV ts)[nat_lit 3]? = some (AV.agg [iv (t1), iv (t2), iv (t3)]),
     ((↑(List.length (List.map rowAV ts)) : Int) == (4 : Int)) = true,
     ((↑(List.length (List.map rowAV ts)) : Int) == (4 : Int)) = true,
     ((↑(List.length (List.map rowAV ts)) : Int) == (4 : Int)) = true,
     PureOp Tryz.prog { dst := some (53 : Nat), op := Op.binOp BinOp.eql (42 : Nat) (Operand.tmp (51 : Nat)) (Operand.tmp (52 : Nat)) (42 : Nat), type := nat_lit 4, pos := "law.go:19", after := { toList := [{ on := nat_lit 18, ground := Ground.data }, { on := nat_lit 19, ground := Ground.data }, { on := nat_lit 14, ground := Ground.guard }] }, guard := some (nat_lit 14, true) } [bv (false), AV.op 0 0, iv 0, AV.ls cy, iv 0, AV.op 7 0, iv 0, AV.ps 3 ou, iv 0, AV.tup [AV.agg [AV.ps 2 ps, AV.ps 3 ts], iv 0], AV.agg [sv z0, sv z1], AV.agg [sv z2, sv z3], AV.tup [AV.agg [AV.ps 2 ps, AV.ps 3 ts], iv 0], AV.agg [AV.ps 2 ps, AV.ps 3 ts], iv 0, AV.tup [AV.ls cy, iv 0], AV.agg [AV.ps 2 ps, AV.ps 3 ts], AV.tup [AV.ls cy, iv 0], AV.ls cy, iv 0, AV.tup [AV.agg [sv w1, sv w2, sv w3], iv 0], AV.agg [AV.ps 2 ps, AV.ps 3 ts], AV.agg [sv z4, sv z5], AV.tup [AV.agg [sv w1, sv w2, sv w3], iv 0], AV.agg [sv w1, sv w2, sv w3], iv 0, AV.tup [AV.ps 3 ou, iv 0], AV.agg [AV.ps 2 ps, AV.ps 3 ts], AV.agg [sv z6, sv z7], AV.agg [sv z8, sv z9], AV.tup [AV.ps 3 ou, iv 0], AV.ps 3 ou, iv 0, iv 0, bv (true), bv (true), AV.op 0 0, AV.ps 2 ps, iv ((↑(List.length (List.map rowAV ps)) : Int)), bv (((↑(List.length (List.map rowAV ps)) : Int) == (6 : Int))), bv (((↑(List.length (List.map rowAV ps)) : Int) == (6 : Int))), bv (((↑(List.length (List.map rowAV ps)) : Int) == (6 : Int))), AV.op 0 1, AV.ps 3 ts, iv ((↑(List.length (List.map rowAV ts)) : Int)), bv (((↑(List.length (List.map rowAV ts)) : Int) == (4 : Int))), bv (((↑(List.length (List.map rowAV ts)) : Int) == (4 : Int))), bv (((↑(List.length (List.map rowAV ts)) : Int) == (4 : Int))), AV.op 0 1, AV.ps 3 ts, AV.lp [iv (t1), iv (t2), iv (t3)], AV.agg [iv (t1), iv (t2), iv (t3)], AV.agg [iv 1, iv 5, iv 4], uu, uu, uu, uu, uu, uu, uu, uu, uu, uu, uu, uu, uu, uu, uu, uu, uu, uu, uu, uu, uu, uu, uu, uu, uu, uu, uu, uu, uu, uu, uu, uu, uu, uu, uu, uu, uu, uu, uu, uu, uu, uu, uu] (bv (true)),
     ((↑(List.length (List.map rowAV ts)) : Int) == (4 : Int)) = true,
     true = true,
     true = true,
     true = true,
     true = true,
     true = true,
     true = true,
     CallsTo Tryz.prog (33 : Nat) [AV.ls cy, AV.lst 1 [iv 0, iv 1, iv 2, iv 5, iv 4, iv 3]] (bv (true)),
     true = true,
     true = true,
     true = true,
     true = true,
     true = true,
     true = true,
     true = true,
     PureOp Tryz.prog { dst := some (71 : Nat), op := Op.binOp BinOp.eql (63 : Nat) (Operand.tmp (69 : Nat)) (Operand.tmp (70 : Nat)) (63 : Nat), type := nat_lit 4, pos := "law.go:19", after := { toList := [{ on := nat_lit 36, ground := Ground.data }, { on := nat_lit 37, ground := Ground.data }, { on := nat_lit 35, ground := Ground.guard }] }, guard := some (nat_lit 35, true) } [bv (false), AV.op 0 0, iv 0, AV.ls cy, iv 0, AV.op 7 0, iv 0, AV.ps 3 ou, iv 0, AV.tup [AV.agg [AV.ps 2 ps, AV.ps 3 ts], iv 0], AV.agg [sv z0, sv z1], AV.agg [sv z2, sv z3], AV.tup [AV.agg [AV.ps 2 ps, AV.ps 3 ts], iv 0], AV.agg [AV.ps 2 ps, AV.ps 3 ts], iv 0, AV.tup [AV.ls cy, iv 0], AV.agg [AV.ps 2 ps, AV.ps 3 ts], AV.tup [AV.ls cy, iv 0], AV.ls cy, iv 0, AV.tup [AV.agg [sv w1, sv w2, sv w3], iv 0], AV.agg [AV.ps 2 ps, AV.ps 3 ts], AV.agg [sv z4, sv z5], AV.tup [AV.agg [sv w1, sv w2, sv w3], iv 0], AV.agg [sv w1, sv w2, sv w3], iv 0, AV.tup [AV.ps 3 ou, iv 0], AV.agg [AV.ps 2 ps, AV.ps 3 ts], AV.agg [sv z6, sv z7], AV.agg [sv z8, sv z9], AV.tup [AV.ps 3 ou, iv 0], AV.ps 3 ou, iv 0, iv 0, bv (true), bv (true), AV.op 0 0, AV.ps 2 ps, iv ((↑(List.length (List.map rowAV ps)) : Int)), bv (((↑(List.length (List.map rowAV ps)) : Int) == (6 : Int))), bv (((↑(List.length (List.map rowAV ps)) : Int) == (6 : Int))), bv (((↑(List.length (List.map rowAV ps)) : Int) == (6 : Int))), AV.op 0 1, AV.ps 3 ts, iv ((↑(List.length (List.map rowAV ts)) : Int)), bv (((↑(List.length (List.map rowAV ts)) : Int) == (4 : Int))), bv (((↑(List.length (List.map rowAV ts)) : Int) == (4 : Int))), bv (((↑(List.length (List.map rowAV ts)) : Int) == (4 : Int))), AV.op 0 1, AV.ps 3 ts, AV.lp [iv (t1), iv (t2), iv (t3)], AV.agg [iv (t1), iv (t2), iv (t3)], AV.agg [iv 1, iv 5, iv 4], bv (true), bv (true), bv (true), iv 0, bv (true), bv (true), bv (true), AV.ls cy, AV.own 8, bv (true), bv (true), bv (true), iv 0, bv (true), bv (true), bv (true), AV.agg [sv w1, sv w2, sv w3], AV.agg [strv ({ data := #[(49 : UInt8), (47 : UInt8), (50 : UInt8)] }), strv ({ data := #[(48 : UInt8)] }), strv ({ data := #[(49 : UInt8), (47 : UInt8), (50 : UInt8)] })], uu, uu, uu, uu, uu, uu, uu, uu, uu, uu, uu, uu, uu, uu, uu, uu, uu, uu, uu, uu, uu, uu, uu, uu, uu] (bv (true)),
     true = true,
     true = true,
     true = true,
     true = true,
     true = true,
     true = true,
     true = true,
     true = true,
     ((↑(List.length (List.map rowAV ou)) : Int) == (3 : Int)) = true,
     ((↑(List.length (List.map rowAV ou)) : Int) == (3 : Int)) = true,
     (0 : Int) ≤ (0 : Int) ∧ (List.map rowAV ou)[nat_lit 0]? = some (AV.agg [iv (s1), sv f1, sv f2]),
     ((↑(List.length (List.map rowAV ou)) : Int) == (3 : Int)) = true,
     ((↑(List.length (List.map rowAV ou)) : Int) == (3 : Int)) = true,
     ((↑(List.length (List.map rowAV ou)) : Int) == (3 : Int)) = true,
     PureOp Tryz.prog { dst := some (87 : Nat), op := Op.binOp BinOp.eql (60 : Nat) (Operand.tmp (85 : Nat)) (Operand.tmp (86 : Nat)) (60 : Nat), type := nat_lit 4, pos := "law.go:19", after := { toList := [{ on := nat_lit 52, ground := Ground.data }, { on := nat_lit 53, ground := Ground.data }, { on := nat_lit 49, ground := Ground.guard }] }, guard := some (nat_lit 49, true) } [bv (false), AV.op 0 0, iv 0, AV.ls cy, iv 0, AV.op 7 0, iv 0, AV.ps 3 ou, iv 0, AV.tup [AV.agg [AV.ps 2 ps, AV.ps 3 ts], iv 0], AV.agg [sv z0, sv z1], AV.agg [sv z2, sv z3], AV.tup [AV.agg [AV.ps 2 ps, AV.ps 3 ts], iv 0], AV.agg [AV.ps 2 ps, AV.ps 3 ts], iv 0, AV.tup [AV.ls cy, iv 0], AV.agg [AV.ps 2 ps, AV.ps 3 ts], AV.tup [AV.ls cy, iv 0], AV.ls cy, iv 0, AV.tup [AV.agg [sv w1, sv w2, sv w3], iv 0], AV.agg [AV.ps 2 ps, AV.ps 3 ts], AV.agg [sv z4, sv z5], AV.tup [AV.agg [sv w1, sv w2, sv w3], iv 0], AV.agg [sv w1, sv w2, sv w3], iv 0, AV.tup [AV.ps 3 ou, iv 0], AV.agg [AV.ps 2 ps, AV.ps 3 ts], AV.agg [sv z6, sv z7], AV.agg [sv z8, sv z9], AV.tup [AV.ps 3 ou, iv 0], AV.ps 3 ou, iv 0, iv 0, bv (true), bv (true), AV.op 0 0, AV.ps 2 ps, iv ((↑(List.length (List.map rowAV ps)) : Int)), bv (((↑(List.length (List.map rowAV ps)) : Int) == (6 : Int))), bv (((↑(List.length (List.map rowAV ps)) : Int) == (6 : Int))), bv (((↑(List.length (List.map rowAV ps)) : Int) == (6 : Int))), AV.op 0 1, AV.ps 3 ts, iv ((↑(List.length (List.map rowAV ts)) : Int)), bv (((↑(List.length (List.map rowAV ts)) : Int) == (4 : Int))), bv (((↑(List.length (List.map rowAV ts)) : Int) == (4 : Int))), bv (((↑(List.length (List.map rowAV ts)) : Int) == (4 : Int))), AV.op 0 1, AV.ps 3 ts, AV.lp [iv (t1), iv (t2), iv (t3)], AV.agg [iv (t1), iv (t2), iv (t3)], AV.agg [iv 1, iv 5, iv 4], bv (true), bv (true), bv (true), iv 0, bv (true), bv (true), bv (true), AV.ls cy, AV.own 8, bv (true), bv (true), bv (true), iv 0, bv (true), bv (true), bv (true), AV.agg [sv w1, sv w2, sv w3], AV.agg [strv ({ data := #[(49 : UInt8), (47 : UInt8), (50 : UInt8)] }), strv ({ data := #[(48 : UInt8)] }), strv ({ data := #[(49 : UInt8), (47 : UInt8), (50 : UInt8)] })], bv (true), bv (true), bv (true), iv 0, bv (true), bv (true), bv (true), AV.ps 3 ou, iv ((↑(List.length (List.map rowAV ou)) : Int)), bv (((↑(List.length (List.map rowAV ou)) : Int) == (3 : Int))), bv (((↑(List.length (List.map rowAV ou)) : Int) == (3 : Int))), bv (((↑(List.length (List.map rowAV ou)) : Int) == (3 : Int))), AV.ps 3 ou, AV.lp [iv (s1), sv f1, sv f2], AV.agg [iv (s1), sv f1, sv f2], AV.agg [iv 1, strv ({ data := #[(49 : UInt8), (47 : UInt8), (52 : UInt8)] }), strv ({ data := #[(49 : UInt8), (47 : UInt8), (50 : UInt8)] })], uu, uu, uu, uu, uu, uu, uu, uu, uu] (bv (true)),
     ((↑(List.length (List.map rowAV ou)) : Int) == (3 : Int)) = true,
     true = true,
     true = true,
     (0 : Int) ≤ (2 : Int) ∧ (List.map rowAV ou)[nat_lit 2]? = some (AV.agg [iv (s2), sv f3, sv f4]),
     true = true,
     true = true,
     true = true,
     true = true]) :
    CallsTo Tryz.prog 12 [] (bv ((s2 == (3 : Int)))) :=
  fn_ok fits hmix Tryz.func12 (by kernel_rfl)
    [Orc.a (AV.agg [sv z0, sv z1]), Orc.a (AV.agg [sv z2, sv z3]), Orc.a (AV.tup [AV.agg [AV.ps 2 ps, AV.ps 3 ts], iv 0]), Orc.a (AV.tup [AV.ls cy, iv 0]), Orc.a (AV.agg [sv z4, sv z5]), Orc.a (AV.tup [AV.agg [sv w1, sv w2, sv w3], iv 0]), Orc.a (AV.agg [sv z6, sv z7]), Orc.a (AV.agg [sv z8, sv z9]), Orc.a (AV.tup [AV.ps 3 ou, iv 0]), Orc.b true, Orc.b true, Orc.b true, Orc.b true, Orc.b true, Orc.b true, Orc.b true, Orc.b true, Orc.b true, Orc.b true, Orc.b true, Orc.b true, Orc.b true, Orc.a (AV.agg [iv (t1), iv (t2), iv (t3)]), Orc.b true, Orc.b true, Orc.b true, Orc.x (bv (true)), Orc.b true, Orc.b true, Orc.b true, Orc.b true, Orc.b true, Orc.b true, Orc.b true, Orc.a (bv (true)), Orc.b true, Orc.b true, Orc.b true, Orc.b true, Orc.b true, Orc.b true, Orc.b true, Orc.x (bv (true)), Orc.b true, Orc.b true, Orc.b true, Orc.b true, Orc.b true, Orc.b true, Orc.b true, Orc.b true, Orc.b true, Orc.b true, Orc.a (AV.agg [iv (s1), sv f1, sv f2]), Orc.b true, Orc.b true, Orc.b true, Orc.x (bv (true)), Orc.b true, Orc.b true, Orc.b true, Orc.a (AV.agg [iv (s2), sv f3, sv f4]), Orc.b true, Orc.b true, Orc.b true, Orc.b true] (by kernel_rfl) h
end Go.Flow.Tryz
namespace Go.Flow.Tryz
open Go Go.Proofs Go.RowKit Go.Flow
set_option maxRecDepth 100000
theorem sa_ne_ok (us : List Value) (vs : List Value) (h : AllP
    [((↑(List.length (List.map AV.v us)) : Int) != (↑(List.length (List.map AV.v vs)) : Int)) = true]) :
    CallsTo Tryz.prog 33 [AV.ls us, AV.ls vs] (bv (false)) :=
  fn_ok fits hmix Tryz.func33 (by kernel_rfl)
    [Orc.b true] (by kernel_rfl) h
theorem sa_lp_ok (us : List Value) (vs : List Value) (i : Int) (h : AllP
    [((↑(List.length (List.map AV.v us)) : Int) != (↑(List.length (List.map AV.v vs)) : Int)) = false,
     Goes Tryz.prog (loopAt Tryz.f33 (0 : Nat)) (st 26 [AV.ls us, AV.ls vs, uu, uu, bv (false), iv 0]) [] (Ex.exit (0 : Nat)) (st 26 [AV.ls us, AV.ls vs, AV.any, AV.any, AV.any, iv (i)]) []]) :
    CallsTo Tryz.prog 33 [AV.ls us, AV.ls vs] (bv (true)) :=
  fn_ok fits hmix Tryz.func33 (by kernel_rfl)
    [Orc.b false, .s (6 : Nat) (Ex.exit (0 : Nat)) (st 26 [AV.ls us, AV.ls vs, AV.any, AV.any, AV.any, iv (i)]) []] (by kernel_rfl) h
theorem sa_lf_ok (us : List Value) (vs : List Value) (h : AllP
    [((↑(List.length (List.map AV.v us)) : Int) != (↑(List.length (List.map AV.v vs)) : Int)) = false,
     Goes Tryz.prog (loopAt Tryz.f33 (0 : Nat)) (st 26 [AV.ls us, AV.ls vs, uu, uu, bv (false), iv 0]) [] (Ex.ret) (st 26 [AV.any, AV.any, AV.any, AV.any, bv (false)]) []]) :
    CallsTo Tryz.prog 33 [AV.ls us, AV.ls vs] (bv (false)) :=
  fn_ok fits hmix Tryz.func33 (by kernel_rfl)
    [Orc.b false, .s (6 : Nat) (Ex.ret) (st 26 [AV.any, AV.any, AV.any, AV.any, bv (false)]) []] (by kernel_rfl) h
theorem sa_st_step (us : List Value) (vs : List Value) (i : Int) (x : Int) (y : Int) {ex : Ex} {T2 : List AV} {H2 : Heap} (m : Nat) (h : AllP
    [decide (i < (↑(List.length (List.map AV.v us)) : Int)) = true,
     (0 : Int) ≤ i ∧ (List.map AV.v us)[Int.toNat i]? = some (iv (x)),
     (0 : Int) ≤ i ∧ (List.map AV.v vs)[Int.toNat i]? = some (iv (y)),
     (x != y) = false,
     IntKind.wrap IntKind.i64 (i + (1 : Int)) = i + (1 : Int)])
    (h2 : Rounds Tryz.prog (bodyOf (loopAt Tryz.f33 (0 : Nat))) m (st 26 [AV.ls us, AV.ls vs, AV.any, AV.any, AV.any, iv ((i + (1 : Int)))]) [] ex T2 H2) :
    Rounds Tryz.prog (bodyOf (loopAt Tryz.f33 (0 : Nat))) (m + 1) (st 26 [AV.ls us, AV.ls vs, AV.any, AV.any, AV.any, iv (i)]) [] ex T2 H2 :=
  Rounds.step_of fits hmix [Orc.b true, Orc.a (iv (x)), Orc.a (iv (y)), Orc.b false] (6 : Nat) [] (by kernel_rfl) h h2
theorem sa_no_out (us : List Value) (vs : List Value) (i : Int) (x : Int) (y : Int) (m : Nat) (h : AllP
    [decide (i < (↑(List.length (List.map AV.v us)) : Int)) = true,
     (0 : Int) ≤ i ∧ (List.map AV.v us)[Int.toNat i]? = some (iv (x)),
     (0 : Int) ≤ i ∧ (List.map AV.v vs)[Int.toNat i]? = some (iv (y)),
     (x != y) = true]) :
    Rounds Tryz.prog (bodyOf (loopAt Tryz.f33 (0 : Nat))) (m + 1) (st 26 [AV.ls us, AV.ls vs, AV.any, AV.any, AV.any, iv (i)]) [] (Ex.ret) (st 26 [AV.ls us, AV.ls vs, AV.any, AV.any, bv (false), iv (i)]) [] :=
  Rounds.out_of fits hmix [Orc.b true, Orc.a (iv (x)), Orc.a (iv (y)), Orc.b true] (6 : Nat) [] m (by simp) (by kernel_rfl) h
theorem sa_end_out (us : List Value) (vs : List Value) (i : Int) (m : Nat) (h : AllP
    [decide (i < (↑(List.length (List.map AV.v us)) : Int)) = false]) :
    Rounds Tryz.prog (bodyOf (loopAt Tryz.f33 (0 : Nat))) (m + 1) (st 26 [AV.ls us, AV.ls vs, AV.any, AV.any, AV.any, iv (i)]) [] (Ex.exit (0 : Nat)) (st 26 [AV.ls us, AV.ls vs, AV.any, AV.any, AV.any, iv (i)]) [] :=
  Rounds.out_of fits hmix [Orc.b false] (6 : Nat) [] m (by simp) (by kernel_rfl) h
theorem ml_in0_step (ps : List (List Value)) (ts : List (List Value)) (p1 : List UInt8) (p2 : List UInt8) (c1 : List UInt8) (c2 : List UInt8) (c3 : List UInt8) (c4 : List UInt8) (c5 : List UInt8) (c6 : List UInt8) (is : Bool) (us : List Value) (i : Int) {ex : Ex} {T2 : List AV} {H2 : Heap} (m : Nat) (h : AllP
    [decide (i < (↑(List.length (List.map rowAV ts)) : Int)) = true,
     CallsTo Tryz.prog (27 : Nat) [AV.agg [AV.ps 2 ps, AV.ps 3 ts], iv (i)] (AV.agg [sv c1, sv c2, sv c3, sv c4, sv c5, sv c6]),
     CallsTo Tryz.prog (32 : Nat) [AV.agg [sv c1, sv c2, sv c3, sv c4, sv c5, sv c6], AV.agg [sv p1, sv p2]] (bv (true)),
     true = true,
     nat_lit 1 ≤ nat_lit 9223372036854775807 ∧ nat_lit 8 ≤ nat_lit 140737488355328,
     IntKind.wrap IntKind.i64 (i + (1 : Int)) = i + (1 : Int)])
    (h2 : Rounds Tryz.prog (bodyOf (loopAt Tryz.f6 (0 : Nat))) m (st 103 [AV.any, AV.any, AV.any, AV.any, AV.any, AV.op 0 0, AV.op 1 0, bv (is), iv 0, AV.ls us, iv 0, bv (false), iv 2, AV.v (Value.slice none 0 0), iv 2, AV.own 2, iv ((i + (1 : Int)))]) [some (AObj.box false 34 [AV.ps 2 ps, AV.ps 3 ts]), some (AObj.box false 24 [sv p1, sv p2]), some (AObj.row false 3 1 [iv (i)])] ex T2 H2) :
    Rounds Tryz.prog (bodyOf (loopAt Tryz.f6 (0 : Nat))) (m + 1) (st 103 [AV.any, AV.any, AV.any, AV.any, AV.any, AV.op 0 0, AV.op 1 0, bv (is), iv 0, AV.ls us, iv 0, bv (false), iv 2, AV.v (Value.slice none 0 0), iv 2, AV.v (Value.slice none 0 0), iv (i)]) [some (AObj.box false 34 [AV.ps 2 ps, AV.ps 3 ts]), some (AObj.box false 24 [sv p1, sv p2])] ex T2 H2 :=
  Rounds.step_of fits hmix [Orc.b true, Orc.a (AV.agg [sv c1, sv c2, sv c3, sv c4, sv c5, sv c6]), Orc.a (bv (true)), Orc.b true] (17 : Nat) [(0 : Nat), (1 : Nat), (3 : Nat)] (by kernel_rfl) h h2
theorem ml_no0_step (ps : List (List Value)) (ts : List (List Value)) (p1 : List UInt8) (p2 : List UInt8) (c1 : List UInt8) (c2 : List UInt8) (c3 : List UInt8) (c4 : List UInt8) (c5 : List UInt8) (c6 : List UInt8) (is : Bool) (us : List Value) (i : Int) {ex : Ex} {T2 : List AV} {H2 : Heap} (m : Nat) (h : AllP
    [decide (i < (↑(List.length (List.map rowAV ts)) : Int)) = true,
     CallsTo Tryz.prog (27 : Nat) [AV.agg [AV.ps 2 ps, AV.ps 3 ts], iv (i)] (AV.agg [sv c1, sv c2, sv c3, sv c4, sv c5, sv c6]),
     CallsTo Tryz.prog (32 : Nat) [AV.agg [sv c1, sv c2, sv c3, sv c4, sv c5, sv c6], AV.agg [sv p1, sv p2]] (bv (false)),
     false = false,
     IntKind.wrap IntKind.i64 (i + (1 : Int)) = i + (1 : Int)])
    (h2 : Rounds Tryz.prog (bodyOf (loopAt Tryz.f6 (0 : Nat))) m (st 103 [AV.any, AV.any, AV.any, AV.any, AV.any, AV.op 0 0, AV.op 1 0, bv (is), iv 0, AV.ls us, iv 0, bv (false), iv 2, AV.v (Value.slice none 0 0), iv 2, AV.v (Value.slice none 0 0), iv ((i + (1 : Int)))]) [some (AObj.box false 34 [AV.ps 2 ps, AV.ps 3 ts]), some (AObj.box false 24 [sv p1, sv p2])] ex T2 H2) :
    Rounds Tryz.prog (bodyOf (loopAt Tryz.f6 (0 : Nat))) (m + 1) (st 103 [AV.any, AV.any, AV.any, AV.any, AV.any, AV.op 0 0, AV.op 1 0, bv (is), iv 0, AV.ls us, iv 0, bv (false), iv 2, AV.v (Value.slice none 0 0), iv 2, AV.v (Value.slice none 0 0), iv (i)]) [some (AObj.box false 34 [AV.ps 2 ps, AV.ps 3 ts]), some (AObj.box false 24 [sv p1, sv p2])] ex T2 H2 :=
  Rounds.step_of fits hmix [Orc.b true, Orc.a (AV.agg [sv c1, sv c2, sv c3, sv c4, sv c5, sv c6]), Orc.a (bv (false)), Orc.b false] (17 : Nat) [(0 : Nat), (1 : Nat)] (by kernel_rfl) h h2
theorem ml_in_step (ps : List (List Value)) (ts : List (List Value)) (p1 : List UInt8) (p2 : List UInt8) (c1 : List UInt8) (c2 : List UInt8) (c3 : List UInt8) (c4 : List UInt8) (c5 : List UInt8) (c6 : List UInt8) (is : Bool) (us : List Value) (xs : List AV) (i : Int) {ex : Ex} {T2 : List AV} {H2 : Heap} (m : Nat) (h : AllP
    [decide (i < (↑(List.length (List.map rowAV ts)) : Int)) = true,
     CallsTo Tryz.prog (27 : Nat) [AV.agg [AV.ps 2 ps, AV.ps 3 ts], iv (i)] (AV.agg [sv c1, sv c2, sv c3, sv c4, sv c5, sv c6]),
     CallsTo Tryz.prog (32 : Nat) [AV.agg [sv c1, sv c2, sv c3, sv c4, sv c5, sv c6], AV.agg [sv p1, sv p2]] (bv (true)),
     true = true,
     List.length xs + nat_lit 1 ≤ nat_lit 9223372036854775807 ∧ (List.length xs + nat_lit 1) * nat_lit 8 ≤ nat_lit 140737488355328,
     IntKind.wrap IntKind.i64 (i + (1 : Int)) = i + (1 : Int)])
    (h2 : Rounds Tryz.prog (bodyOf (loopAt Tryz.f6 (0 : Nat))) m (st 103 [AV.any, AV.any, AV.any, AV.any, AV.any, AV.op 0 0, AV.op 1 0, bv (is), iv 0, AV.ls us, iv 0, bv (false), iv 2, AV.v (Value.slice none 0 0), iv 2, AV.own 2, iv ((i + (1 : Int)))]) [some (AObj.box false 34 [AV.ps 2 ps, AV.ps 3 ts]), some (AObj.box false 24 [sv p1, sv p2]), some (AObj.row false 3 1 (List.map (ren [(0 : Nat), (1 : Nat), (4 : Nat)] (9 : Nat)) (xs ++ [iv (i)])))] ex T2 H2) :
    Rounds Tryz.prog (bodyOf (loopAt Tryz.f6 (0 : Nat))) (m + 1) (st 103 [AV.any, AV.any, AV.any, AV.any, AV.any, AV.op 0 0, AV.op 1 0, bv (is), iv 0, AV.ls us, iv 0, bv (false), iv 2, AV.v (Value.slice none 0 0), iv 2, AV.own 2, iv (i)]) [some (AObj.box false 34 [AV.ps 2 ps, AV.ps 3 ts]), some (AObj.box false 24 [sv p1, sv p2]), some (AObj.row false 3 1 xs)] ex T2 H2 :=
  Rounds.step_of fits hmix [Orc.b true, Orc.a (AV.agg [sv c1, sv c2, sv c3, sv c4, sv c5, sv c6]), Orc.a (bv (true)), Orc.b true] (17 : Nat) [(0 : Nat), (1 : Nat), (4 : Nat)] (by kernel_rfl) h h2
theorem ml_no_step (ps : List (List Value)) (ts : List (List Value)) (p1 : List UInt8) (p2 : List UInt8) (c1 : List UInt8) (c2 : List UInt8) (c3 : List UInt8) (c4 : List UInt8) (c5 : List UInt8) (c6 : List UInt8) (is : Bool) (us : List Value) (xs : List AV) (i : Int) {ex : Ex} {T2 : List AV} {H2 : Heap} (m : Nat) (h : AllP
    [decide (i < (↑(List.length (List.map rowAV ts)) : Int)) = true,
     CallsTo Tryz.prog (27 : Nat) [AV.agg [AV.ps 2 ps, AV.ps 3 ts], iv (i)] (AV.agg [sv c1, sv c2, sv c3, sv c4, sv c5, sv c6]),
     CallsTo Tryz.prog (32 : Nat) [AV.agg [sv c1, sv c2, sv c3, sv c4, sv c5, sv c6], AV.agg [sv p1, sv p2]] (bv (false)),
     false = false,
     IntKind.wrap IntKind.i64 (i + (1 : Int)) = i + (1 : Int)])
    (h2 : Rounds Tryz.prog (bodyOf (loopAt Tryz.f6 (0 : Nat))) m (st 103 [AV.any, AV.any, AV.any, AV.any, AV.any, AV.op 0 0, AV.op 1 0, bv (is), iv 0, AV.ls us, iv 0, bv (false), iv 2, AV.v (Value.slice none 0 0), iv 2, AV.own 2, iv ((i + (1 : Int)))]) [some (AObj.box false 34 [AV.ps 2 ps, AV.ps 3 ts]), some (AObj.box false 24 [sv p1, sv p2]), some (AObj.row false 3 1 (List.map (ren [(0 : Nat), (1 : Nat), (2 : Nat)] (9 : Nat)) xs))] ex T2 H2) :
    Rounds Tryz.prog (bodyOf (loopAt Tryz.f6 (0 : Nat))) (m + 1) (st 103 [AV.any, AV.any, AV.any, AV.any, AV.any, AV.op 0 0, AV.op 1 0, bv (is), iv 0, AV.ls us, iv 0, bv (false), iv 2, AV.v (Value.slice none 0 0), iv 2, AV.own 2, iv (i)]) [some (AObj.box false 34 [AV.ps 2 ps, AV.ps 3 ts]), some (AObj.box false 24 [sv p1, sv p2]), some (AObj.row false 3 1 xs)] ex T2 H2 :=
  Rounds.step_of fits hmix [Orc.b true, Orc.a (AV.agg [sv c1, sv c2, sv c3, sv c4, sv c5, sv c6]), Orc.a (bv (false)), Orc.b false] (17 : Nat) [(0 : Nat), (1 : Nat), (2 : Nat)] (by kernel_rfl) h h2
theorem ml_end0_out (ps : List (List Value)) (ts : List (List Value)) (p1 : List UInt8) (p2 : List UInt8) (is : Bool) (us : List Value) (i : Int) (m : Nat) (h : AllP
    [decide (i < (↑(List.length (List.map rowAV ts)) : Int)) = false]) :
    Rounds Tryz.prog (bodyOf (loopAt Tryz.f6 (0 : Nat))) (m + 1) (st 103 [AV.any, AV.any, AV.any, AV.any, AV.any, AV.op 0 0, AV.op 1 0, bv (is), iv 0, AV.ls us, iv 0, bv (false), iv 2, AV.v (Value.slice none 0 0), iv 2, AV.v (Value.slice none 0 0), iv (i)]) [some (AObj.box false 34 [AV.ps 2 ps, AV.ps 3 ts]), some (AObj.box false 24 [sv p1, sv p2])] (Ex.exit (0 : Nat)) (st 103 [AV.any, AV.any, AV.any, AV.any, AV.any, AV.op 0 0, AV.op 1 0, bv (is), iv 0, AV.ls us, iv 0, bv (false), iv 2, AV.v (Value.slice none 0 0), iv 2, AV.v (Value.slice none 0 0), iv (i)]) [some (AObj.box false 34 [AV.ps 2 ps, AV.ps 3 ts]), some (AObj.box false 24 [sv p1, sv p2])] :=
  Rounds.out_of fits hmix [Orc.b false] (17 : Nat) [(0 : Nat), (1 : Nat)] m (by simp) (by kernel_rfl) h
theorem ml_end_out (ps : List (List Value)) (ts : List (List Value)) (p1 : List UInt8) (p2 : List UInt8) (is : Bool) (us : List Value) (xs : List AV) (i : Int) (m : Nat) (h : AllP
    [decide (i < (↑(List.length (List.map rowAV ts)) : Int)) = false]) :
    Rounds Tryz.prog (bodyOf (loopAt Tryz.f6 (0 : Nat))) (m + 1) (st 103 [AV.any, AV.any, AV.any, AV.any, AV.any, AV.op 0 0, AV.op 1 0, bv (is), iv 0, AV.ls us, iv 0, bv (false), iv 2, AV.v (Value.slice none 0 0), iv 2, AV.own 2, iv (i)]) [some (AObj.box false 34 [AV.ps 2 ps, AV.ps 3 ts]), some (AObj.box false 24 [sv p1, sv p2]), some (AObj.row false 3 1 xs)] (Ex.exit (0 : Nat)) (st 103 [AV.any, AV.any, AV.any, AV.any, AV.any, AV.op 0 0, AV.op 1 0, bv (is), iv 0, AV.ls us, iv 0, bv (false), iv 2, AV.v (Value.slice none 0 0), iv 2, AV.own 2, iv (i)]) [some (AObj.box false 34 [AV.ps 2 ps, AV.ps 3 ts]), some (AObj.box false 24 [sv p1, sv p2]), some (AObj.row false 3 1 (List.map (ren [(0 : Nat), (1 : Nat), (2 : Nat)] (9 : Nat)) xs))] :=
  Rounds.out_of fits hmix [Orc.b false] (17 : Nat) [(0 : Nat), (1 : Nat), (2 : Nat)] m (by simp) (by kernel_rfl) h
theorem ml_f_ok (k : Int) (a : Int) (b : Int) (x : Int) (y : Int) (i : Int) (hb : Bool) (is : Bool) (ps : List (List Value)) (ts : List (List Value)) (p1 : List UInt8) (p2 : List UInt8) (us : List Value) (vs : List Value) (h : AllP
    [CallsTo Tryz.prog (12 : Nat) [] (bv (true)),
     false = false,
     CallsTo Tryz.prog (23 : Nat) [AV.agg [AV.v (Value.int IntKind.u8 k), AV.v (Value.int IntKind.i8 a), AV.v (Value.int IntKind.i8 b), bv (hb)]] (AV.agg [AV.ps 2 ps, AV.ps 3 ts]),
     CallsTo Tryz.prog (24 : Nat) [AV.agg [AV.v (Value.int IntKind.u8 k), AV.v (Value.int IntKind.i8 a), AV.v (Value.int IntKind.i8 b), bv (hb)], AV.agg [AV.v (Value.int IntKind.i8 x), AV.v (Value.int IntKind.i8 y)], iv 6] (AV.agg [sv p1, sv p2]),
     CallsTo Tryz.prog (30 : Nat) [AV.agg [AV.ps 2 ps, AV.ps 3 ts], AV.agg [sv p1, sv p2]] (AV.tup [bv (is), iv 0]),
     CallsTo Tryz.prog (31 : Nat) [AV.agg [AV.ps 2 ps, AV.ps 3 ts], AV.agg [sv p1, sv p2]] (AV.tup [AV.ls us, iv 0]),
     CallsTo Tryz.prog (30 : Nat) [AV.agg [AV.ps 2 ps, AV.ps 3 ts], AV.agg [sv p1, strv ({ data := #[(49 : UInt8), (47 : UInt8), (49 : UInt8)] })]] (AV.tup [bv (false), iv 2]),
     CallsTo Tryz.prog (31 : Nat) [AV.agg [AV.ps 2 ps, AV.ps 3 ts], AV.agg [sv p1, strv ({ data := #[(49 : UInt8), (47 : UInt8), (49 : UInt8)] })]] (AV.tup [AV.v (Value.slice none 0 0), iv 2]),
     CallsTo Tryz.prog (24 : Nat) [AV.agg [AV.v (Value.int IntKind.u8 k), AV.v (Value.int IntKind.i8 a), AV.v (Value.int IntKind.i8 b), bv (hb)], AV.agg [AV.v (Value.int IntKind.i8 x), AV.v (Value.int IntKind.i8 y)], iv 6] (AV.agg [sv p1, sv p2]),
     Goes Tryz.prog (loopAt Tryz.f6 (0 : Nat)) (st 103 [AV.agg [AV.v (Value.int IntKind.u8 k), AV.v (Value.int IntKind.i8 a), AV.v (Value.int IntKind.i8 b), bv (hb)], AV.agg [AV.v (Value.int IntKind.i8 x), AV.v (Value.int IntKind.i8 y)], AV.op 0 0, AV.op 1 0, bv (false), AV.op 2 0, AV.op 3 0, bv (is), iv 0, AV.ls us, iv 0, bv (false), iv 2, AV.v (Value.slice none 0 0), iv 2, AV.v (Value.slice none 0 0), iv 0]) [some (AObj.box false 49 [AV.v (Value.int IntKind.u8 k), AV.v (Value.int IntKind.i8 a), AV.v (Value.int IntKind.i8 b), bv (hb)]), some (AObj.box false 47 [AV.v (Value.int IntKind.i8 x), AV.v (Value.int IntKind.i8 y)]), some (AObj.box false 34 [AV.ps 2 ps, AV.ps 3 ts]), some (AObj.box false 24 [sv p1, sv p2])] (Ex.exit (0 : Nat)) (st 103 [AV.any, AV.any, AV.any, AV.any, AV.any, AV.any, AV.any, bv (is), iv 0, AV.ls us, iv 0, bv (false), iv 2, AV.v (Value.slice none 0 0), iv 2, AV.ls vs, iv (i)]) [],
     true = true,
     true = true,
     true = true,
     true = true,
     true = true,
     PureOp Tryz.prog { dst := some (75 : Nat), op := Op.binOp BinOp.eql (4 : Nat) (Operand.tmp (71 : Nat)) (Operand.tmp (74 : Nat)) (4 : Nat), type := nat_lit 4, pos := "law.go:434", after := { toList := [{ on := nat_lit 3, ground := Ground.data }, { on := nat_lit 6, ground := Ground.data }, { on := nat_lit 2, ground := Ground.guard }] }, guard := some (nat_lit 2, true) } [AV.any, AV.any, AV.any, AV.any, AV.any, AV.any, AV.any, bv (is), iv 0, AV.ls us, iv 0, bv (false), iv 2, AV.v (Value.slice none 0 0), iv 2, AV.ls vs, iv (i), AV.any, AV.any, AV.any, AV.any, AV.any, AV.any, AV.any, AV.any, AV.any, AV.any, AV.any, AV.any, AV.any, AV.any, AV.any, AV.any, AV.any, AV.any, AV.any, AV.any, AV.any, AV.any, AV.any, AV.any, AV.any, AV.any, AV.any, AV.any, AV.any, AV.any, AV.any, AV.any, AV.any, AV.any, AV.any, AV.any, AV.any, AV.any, AV.any, AV.any, AV.any, AV.any, AV.any, AV.any, AV.any, AV.any, AV.any, AV.any, AV.any, AV.any, AV.any, iv 0, bv (true), bv (true), bv (is), AV.ls vs, iv ((↑(List.length (List.map AV.v vs)) : Int)), bv ((decide ((↑(List.length (List.map AV.v vs)) : Int) > (0 : Int)))), AV.any, AV.any, AV.any, AV.any, AV.any, AV.any, AV.any, AV.any, AV.any, AV.any, AV.any, AV.any, AV.any, AV.any, AV.any, AV.any, AV.any, AV.any, AV.any, AV.any, AV.any, AV.any, AV.any, AV.any, AV.any, AV.any, AV.any, AV.any] (bv (true)),
     true = true,
     true = true,
     true = true,
     true = true,
     true = true,
     true = true,
     true = true,
     CallsTo Tryz.prog (33 : Nat) [AV.ls us, AV.ls vs] (bv (true)),
     true = true,
     true = true,
     true = true,
     true = true,
     true = true,
     true = true,
     true = true,
     true = true,
     true = true,
     true = true,
     true = true,
     true = true,
     true = true,
     true = true]) :
    CallsTo Tryz.prog 6 [AV.agg [AV.v (Value.int IntKind.u8 k), AV.v (Value.int IntKind.i8 a), AV.v (Value.int IntKind.i8 b), bv (hb)], AV.agg [AV.v (Value.int IntKind.i8 x), AV.v (Value.int IntKind.i8 y)]] (bv (true)) :=
  fn_ok fits hmix Tryz.func6 (by kernel_rfl)
    [Orc.a (bv (true)), Orc.b false, Orc.a (AV.agg [AV.ps 2 ps, AV.ps 3 ts]), Orc.a (AV.agg [sv p1, sv p2]), Orc.a (AV.tup [bv (is), iv 0]), Orc.a (AV.tup [AV.ls us, iv 0]), Orc.a (AV.tup [bv (false), iv 2]), Orc.a (AV.tup [AV.v (Value.slice none 0 0), iv 2]), Orc.a (AV.agg [sv p1, sv p2]), .s (17 : Nat) (Ex.exit (0 : Nat)) (st 103 [AV.any, AV.any, AV.any, AV.any, AV.any, AV.any, AV.any, bv (is), iv 0, AV.ls us, iv 0, bv (false), iv 2, AV.v (Value.slice none 0 0), iv 2, AV.ls vs, iv (i)]) [], Orc.b true, Orc.b true, Orc.b true, Orc.b true, Orc.b true, Orc.x (bv (true)), Orc.b true, Orc.b true, Orc.b true, Orc.b true, Orc.b true, Orc.b true, Orc.b true, Orc.a (bv (true)), Orc.b true, Orc.b true, Orc.b true, Orc.b true, Orc.b true, Orc.b true, Orc.b true, Orc.b true, Orc.b true, Orc.b true, Orc.b true, Orc.b true, Orc.b true, Orc.b true] (by kernel_rfl) h
end Go.Flow.Tryz
