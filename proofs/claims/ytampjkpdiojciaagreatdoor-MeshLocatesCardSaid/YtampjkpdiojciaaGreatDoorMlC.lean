/- Part 3 of the proofs of the mesh laws: what their code computes. No conditions. -/
import Derived.Shelf.Strings.Builder1
import Derived.Shelf.Small.Bits
import Derived.Shelf.Small.Strs
import Derived.Shelf.Small.Wraps
import Derived.Shelf.Strconv.Atoi
import Derived.Shelf.Strconv.Itoa0
import Derived.Shelf.Strconv.Itoa1
import Derived.Shelf.LaysM
import Derived.Shelf.Strconv.Itoa2
import Derived.Shelf.Strconv.Itoa3
import Derived.Shelf.Strconv.AtoiErrFast
import Derived.Shelf.Strconv.ParseIntEmpty
import Derived.Shelf.Strconv.AtoiFail
import Derived.Shelf.Strconv.Clone
import Derived.Shelf.Strconv.SyntaxError
import Derived.Shelf.LaysC
import Derived.Shelf.Strconv.ToError
import Derived.Shelf.Strconv.Lower
import Derived.Shelf.Strconv.ParseUint10
import Derived.Shelf.Strconv.ParseUint10Empty
import Derived.Shelf.Strconv.ParseUint10Any
import Derived.Shelf.Strconv.ParseInt10
import Derived.Shelf.Strconv.AtoiLong
import Derived.Shelf.Strconv.AtoiInnerAll
import Derived.Shelf.Strconv.RangeError
import Derived.Shelf.Strconv.ToErrorRange
import Derived.Shelf.Strconv.AtoiAll
import Derived.Shelf.Strconv.ErrVarAll
import Derived.Ground.MpProg
import Derived.Shelf.Pu.ParseUintPublic10
import Derived.Shelf.Pu.ErrVarParseUint
import Derived.Shelf.Strings.Search1
import Derived.Shelf.Strings.Search2
import Derived.Shelf.Strings.Cut
import Derived.Shelf.Strings.Shaped
import Derived.Shelf.Strings.Prefix
import Derived.Ground.Names2Prog
import Derived.Shelf.Slices.SearchI
import Derived.Test.YtampjkpdiojciaaGreatDoorProg
import Derived.Lib.AppendIntMem
import Derived.Lib.AtoiErrMem
import Derived.Lib.UnsafeStr
import Derived.Lib.AppendStr
import Derived.Shelf.Strings.BuilderK
import Derived.WalkKit
import Derived.BigCall
import Derived.BigGuard
import Derived.Test.YtampjkpdiojciaaGreatDoorMlA
import Derived.Test.YtampjkpdiojciaaGreatDoorMlB
namespace Go.Flow.Tryz
open Go Go.Proofs Go.RowKit Go.Flow
set_option maxRecDepth 100000
theorem chk_step_step (u : List UInt8) (n : Int) (i : Int) {ex : Ex} {T2 : List AV} {H2 : Heap} (m : Nat) (h : AllP
    [decide (i < n) = true,
     (0 : Int) ≤ i ∧ i < (↑(ByteArray.size (bstr u)) : Int),
     decide ((↑(UInt8.toNat (List.getD (bstr u).data.toList (Int.toNat i) (0 : UInt8))) : Int) < (48 : Int)) = false,
     decide ((↑(UInt8.toNat (List.getD (bstr u).data.toList (Int.toNat i) (0 : UInt8))) : Int) < (48 : Int)) = false,
     decide ((↑(UInt8.toNat (List.getD (bstr u).data.toList (Int.toNat i) (0 : UInt8))) : Int) < (48 : Int)) = false,
     (0 : Int) ≤ i ∧ i < (↑(ByteArray.size (bstr u)) : Int),
     decide ((↑(UInt8.toNat (List.getD (bstr u).data.toList (Int.toNat i) (0 : UInt8))) : Int) < (48 : Int)) = false,
     decide ((↑(UInt8.toNat (List.getD (bstr u).data.toList (Int.toNat i) (0 : UInt8))) : Int) < (48 : Int)) = false,
     decide ((↑(UInt8.toNat (List.getD (bstr u).data.toList (Int.toNat i) (0 : UInt8))) : Int) > (57 : Int)) = false,
     IntKind.wrap IntKind.i64 (i + (1 : Int)) = i + (1 : Int)])
    (h2 : Rounds Tryz.prog (bodyOf (loopAt Tryz.f50 (0 : Nat))) m (st 47 [AV.any, AV.any, iv 0, sv u, AV.any, iv (i), AV.any, AV.any, AV.any, AV.any, AV.any, AV.any, AV.any, AV.any, AV.any, AV.any, AV.any, AV.any, AV.any, AV.any, AV.any, AV.any, AV.any, AV.any, AV.any, AV.any, AV.any, AV.any, AV.any, AV.any, AV.any, AV.any, iv (n), iv ((i + (1 : Int)))]) [] ex T2 H2) :
    Rounds Tryz.prog (bodyOf (loopAt Tryz.f50 (0 : Nat))) (m + 1) (st 47 [AV.any, AV.any, iv 0, sv u, AV.any, AV.any, AV.any, AV.any, AV.any, AV.any, AV.any, AV.any, AV.any, AV.any, AV.any, AV.any, AV.any, AV.any, AV.any, AV.any, AV.any, AV.any, AV.any, AV.any, AV.any, AV.any, AV.any, AV.any, AV.any, AV.any, AV.any, AV.any, iv (n), iv (i)]) [] ex T2 H2 :=
  Rounds.step_of fits hmix [Orc.b true, Orc.b false, Orc.b false, Orc.b false, Orc.b false, Orc.b false, Orc.b false] (34 : Nat) [] (by kernel_rfl) h h2
theorem chk_end_out (u : List UInt8) (n : Int) (i : Int) (m : Nat) (h : AllP
    [decide (i < n) = false]) :
    Rounds Tryz.prog (bodyOf (loopAt Tryz.f50 (0 : Nat))) (m + 1) (st 47 [AV.any, AV.any, iv 0, sv u, AV.any, AV.any, AV.any, AV.any, AV.any, AV.any, AV.any, AV.any, AV.any, AV.any, AV.any, AV.any, AV.any, AV.any, AV.any, AV.any, AV.any, AV.any, AV.any, AV.any, AV.any, AV.any, AV.any, AV.any, AV.any, AV.any, AV.any, AV.any, iv (n), iv (i)]) [] (Ex.exit (0 : Nat)) (st 47 [AV.any, AV.any, iv 0, sv u, AV.any, AV.any, AV.any, AV.any, AV.any, AV.any, AV.any, AV.any, AV.any, AV.any, AV.any, AV.any, AV.any, AV.any, AV.any, AV.any, AV.any, AV.any, AV.any, AV.any, AV.any, AV.any, AV.any, AV.any, AV.any, AV.any, AV.any, AV.any, iv (n), iv (i)]) [] :=
  Rounds.out_of fits hmix [Orc.b false] (34 : Nat) [] m (by simp) (by kernel_rfl) h
theorem chk_pos_ok (s : List UInt8) (u : List UInt8) (m : Bool) (h : AllP
    [CallsTo Tryz.prog (97 : Nat) [sv s, strv ({ data := #[(45 : UInt8)] })] (AV.tup [sv u, bv (m)]),
     (ByteArray.toList (bstr u) == []) = false,
     (ByteArray.toList (bstr u) == []) = false,
     (ByteArray.toList (bstr u) == []) = false,
     (ByteArray.toList (bstr u) == []) = false,
     decide ((↑(ByteArray.size (bstr u)) : Int) > (200 : Int)) = false,
     decide ((↑(ByteArray.size (bstr u)) : Int) > (200 : Int)) = false,
     (0 : Int) ≤ (0 : Int) ∧ (0 : Int) < (↑(ByteArray.size (bstr u)) : Int),
     decide ((↑(ByteArray.size (bstr u)) : Int) > (200 : Int)) = false,
     decide ((↑(ByteArray.size (bstr u)) : Int) > (200 : Int)) = false,
     ((↑(UInt8.toNat (List.getD (bstr u).data.toList (Int.toNat (0 : Int)) (0 : UInt8))) : Int) == (48 : Int)) = false,
     ((↑(UInt8.toNat (List.getD (bstr u).data.toList (Int.toNat (0 : Int)) (0 : UInt8))) : Int) == (48 : Int)) = false,
     ((↑(UInt8.toNat (List.getD (bstr u).data.toList (Int.toNat (0 : Int)) (0 : UInt8))) : Int) == (48 : Int)) = false,
     ((↑(UInt8.toNat (List.getD (bstr u).data.toList (Int.toNat (0 : Int)) (0 : UInt8))) : Int) == (48 : Int)) = false,
     ((↑(UInt8.toNat (List.getD (bstr u).data.toList (Int.toNat (0 : Int)) (0 : UInt8))) : Int) == (48 : Int)) = false,
     decide ((↑(ByteArray.size (bstr u)) : Int) > (200 : Int)) = false,
     ((↑(UInt8.toNat (List.getD (bstr u).data.toList (Int.toNat (0 : Int)) (0 : UInt8))) : Int) == (48 : Int)) = false,
     decide ((↑(ByteArray.size (bstr u)) : Int) > (200 : Int)) = false,
     false = false,
     Goes Tryz.prog (loopAt Tryz.f50 (0 : Nat)) (st 47 [sv s, uu, iv 0, sv u, bv (m), uu, AV.tup [sv u, bv (m)], sv s, AV.tup [sv u, bv (m)], sv u, bv (m), sv u, bv ((ByteArray.toList (bstr u) == [])), bv ((ByteArray.toList (bstr u) == [])), sv u, iv ((↑(ByteArray.size (bstr u)) : Int)), bv ((decide ((↑(ByteArray.size (bstr u)) : Int) > (200 : Int)))), bv ((decide ((↑(ByteArray.size (bstr u)) : Int) > (200 : Int)))), bv ((decide ((↑(ByteArray.size (bstr u)) : Int) > (200 : Int)))), sv u, AV.v (Value.int IntKind.u8 (↑(UInt8.toNat (List.getD (bstr u).data.toList (Int.toNat (0 : Int)) (0 : UInt8))) : Int)), bv (((↑(UInt8.toNat (List.getD (bstr u).data.toList (Int.toNat (0 : Int)) (0 : UInt8))) : Int) == (48 : Int))), bv (((↑(UInt8.toNat (List.getD (bstr u).data.toList (Int.toNat (0 : Int)) (0 : UInt8))) : Int) == (48 : Int))), uu, uu, uu, uu, uu, uu, bv (false), bv (false), sv u, iv ((↑(ByteArray.size (bstr u)) : Int)), iv 0]) [] (Ex.exit (0 : Nat)) (st 47 [AV.any, AV.any, iv 0, sv u, AV.any, AV.any, AV.any, AV.any, AV.any, AV.any, AV.any, AV.any, AV.any, AV.any, AV.any, AV.any, AV.any, AV.any, AV.any, AV.any, AV.any, AV.any, AV.any, AV.any, AV.any, AV.any, AV.any, AV.any, AV.any, AV.any, AV.any, AV.any, iv ((↑(ByteArray.size (bstr u)) : Int)), iv ((↑(ByteArray.size (bstr u)) : Int))]) []]) :
    CallsTo Tryz.prog 50 [sv s] (iv 0) :=
  fn_ok fits hmix Tryz.func50 (by kernel_rfl)
    [Orc.a (AV.tup [sv u, bv (m)]), Orc.b false, Orc.b false, Orc.b false, Orc.b false, Orc.b false, Orc.b false, Orc.b false, Orc.b false, Orc.b false, Orc.b false, Orc.b false, Orc.b false, Orc.b false, Orc.b false, Orc.b false, Orc.b false, Orc.b false, .s (34 : Nat) (Ex.exit (0 : Nat)) (st 47 [AV.any, AV.any, iv 0, sv u, AV.any, AV.any, AV.any, AV.any, AV.any, AV.any, AV.any, AV.any, AV.any, AV.any, AV.any, AV.any, AV.any, AV.any, AV.any, AV.any, AV.any, AV.any, AV.any, AV.any, AV.any, AV.any, AV.any, AV.any, AV.any, AV.any, AV.any, AV.any, iv ((↑(ByteArray.size (bstr u)) : Int)), iv ((↑(ByteArray.size (bstr u)) : Int))]) []] (by kernel_rfl) h
theorem chk_zero_ok (s : List UInt8) (h : AllP
    [CallsTo Tryz.prog (97 : Nat) [sv s, strv ({ data := #[(45 : UInt8)] })] (AV.tup [strv ((bstr ([(48 : UInt8)]))), bv (false)]),
     false = false,
     false = false,
     false = false,
     false = false,
     false = false,
     false = false,
     (0 : Int) ≤ (0 : Int) ∧ (0 : Int) < (↑(1 : Nat) : Int),
     false = false,
     false = false,
     true = true,
     true = true,
     true = true,
     true = true,
     false = false,
     true = true,
     false = false,
     false = false,
     true = true,
     false = false,
     false = false,
     true = true,
     (0 : Int) ≤ (0 : Int) ∧ (0 : Int) < (↑(1 : Nat) : Int),
     false = false,
     false = false,
     false = false,
     (0 : Int) ≤ (0 : Int) ∧ (0 : Int) < (↑(1 : Nat) : Int),
     false = false,
     false = false,
     false = false,
     IntKind.wrap IntKind.i64 ((0 : Int) + (1 : Int)) = (0 : Int) + (1 : Int),
     false = false]) :
    CallsTo Tryz.prog 50 [sv s] (iv 0) :=
  fn_ok fits hmix Tryz.func50 (by kernel_rfl)
    [Orc.a (AV.tup [strv ((bstr ([(48 : UInt8)]))), bv (false)]), Orc.b false, Orc.b false, Orc.b false, Orc.b false, Orc.b false, Orc.b false, Orc.b false, Orc.b false, Orc.b true, Orc.b true, Orc.b true, Orc.b true, Orc.b false, Orc.b true, Orc.b false, Orc.b false, Orc.b true, Orc.b false, Orc.b false, Orc.u (2 : Nat), Orc.b true, Orc.b false, Orc.b false, Orc.b false, Orc.b false, Orc.b false, Orc.b false, Orc.b false] (by kernel_rfl) h
theorem chk_00_ok (s : List UInt8) (h : AllP
    [CallsTo Tryz.prog (97 : Nat) [sv s, strv ({ data := #[(45 : UInt8)] })] (AV.tup [strv ((bstr ([(48 : UInt8), (48 : UInt8)]))), bv (false)]),
     false = false,
     false = false,
     false = false,
     false = false,
     false = false,
     false = false,
     (0 : Int) ≤ (0 : Int) ∧ (0 : Int) < (↑(2 : Nat) : Int),
     false = false,
     false = false,
     true = true,
     true = true,
     true = true,
     true = true,
     true = true,
     true = true,
     true = true,
     false = false,
     true = true,
     false = false,
     true = true]) :
    CallsTo Tryz.prog 50 [sv s] (iv 2) :=
  fn_ok fits hmix Tryz.func50 (by kernel_rfl)
    [Orc.a (AV.tup [strv ((bstr ([(48 : UInt8), (48 : UInt8)]))), bv (false)]), Orc.b false, Orc.b false, Orc.b false, Orc.b false, Orc.b false, Orc.b false, Orc.b false, Orc.b false, Orc.b true, Orc.b true, Orc.b true, Orc.b true, Orc.b true, Orc.b true, Orc.b true, Orc.b false, Orc.b true, Orc.b false, Orc.b true] (by kernel_rfl) h
theorem icmp_long_ok (s : List UInt8) (h : AllP
    [CallsTo Tryz.prog (98 : Nat) [sv s] (iv 1),
     CallsTo Tryz.prog (98 : Nat) [strv ((bstr ([(49 : UInt8)])))] (iv 1),
     false = false,
     CallsTo Tryz.prog (99 : Nat) [sv s, strv ({ data := #[(45 : UInt8)] })] (sv s),
     CallsTo Tryz.prog (99 : Nat) [strv ((bstr ([(49 : UInt8)]))), strv ({ data := #[(45 : UInt8)] })] (strv ((bstr ([(49 : UInt8)])))),
     ((↑(ByteArray.size (bstr s)) : Int) != (↑(1 : Nat) : Int)) = true,
     decide ((↑(ByteArray.size (bstr s)) : Int) < (↑(ByteArray.size (bstr ([(49 : UInt8)]))) : Int)) = false]) :
    CallsTo Tryz.prog 51 [sv s, strv ((bstr ([(49 : UInt8)])))] (iv 1) :=
  fn_ok fits hmix Tryz.func51 (by kernel_rfl)
    [Orc.a (iv 1), Orc.a (iv 1), Orc.b false, Orc.a (sv s), Orc.a (strv ((bstr ([(49 : UInt8)])))), Orc.b true, Orc.b false] (by kernel_rfl) h
theorem icmp_same_ok (s : List UInt8) (c : Int) (h : AllP
    [CallsTo Tryz.prog (98 : Nat) [sv s] (iv 1),
     CallsTo Tryz.prog (98 : Nat) [strv ((bstr ([(49 : UInt8)])))] (iv 1),
     false = false,
     CallsTo Tryz.prog (99 : Nat) [sv s, strv ({ data := #[(45 : UInt8)] })] (sv s),
     CallsTo Tryz.prog (99 : Nat) [strv ((bstr ([(49 : UInt8)]))), strv ({ data := #[(45 : UInt8)] })] (strv ((bstr ([(49 : UInt8)])))),
     ((↑(ByteArray.size (bstr s)) : Int) != (↑(1 : Nat) : Int)) = false,
     CallsTo Tryz.prog (100 : Nat) [sv s, strv ((bstr ([(49 : UInt8)])))] (iv (c)),
     IntKind.wrap IntKind.i64 ((1 : Int) * c) = (1 : Int) * c]) :
    CallsTo Tryz.prog 51 [sv s, strv ((bstr ([(49 : UInt8)])))] (iv (((1 : Int) * c))) :=
  fn_ok fits hmix Tryz.func51 (by kernel_rfl)
    [Orc.a (iv 1), Orc.a (iv 1), Orc.b false, Orc.a (sv s), Orc.a (strv ((bstr ([(49 : UInt8)])))), Orc.b false, Orc.a (iv (c))] (by kernel_rfl) h
theorem rchk_whole_ok (s : List UInt8) (a : List UInt8) (b : List UInt8) (h : AllP
    [CallsTo Tryz.prog (49 : Nat) [sv s, strv ({ data := #[(47 : UInt8)] })] (AV.tup [sv a, sv b, bv (false)]),
     CallsTo Tryz.prog (50 : Nat) [sv a] (iv 0),
     false = false,
     true = true]) :
    CallsTo Tryz.prog 13 [sv s] (iv 0) :=
  fn_ok fits hmix Tryz.func13 (by kernel_rfl)
    [Orc.a (AV.tup [sv a, sv b, bv (false)]), Orc.a (iv 0), Orc.b false, Orc.b true] (by kernel_rfl) h
theorem rchk_frac_ok (s : List UInt8) (a : List UInt8) (b : List UInt8) (c : Int) (h : AllP
    [CallsTo Tryz.prog (49 : Nat) [sv s, strv ({ data := #[(47 : UInt8)] })] (AV.tup [sv a, sv b, bv (true)]),
     CallsTo Tryz.prog (50 : Nat) [sv a] (iv 0),
     false = false,
     false = false,
     CallsTo Tryz.prog (50 : Nat) [sv b] (iv 0),
     false = false,
     false = false,
     CallsTo Tryz.prog (51 : Nat) [sv b, strv ({ data := #[(49 : UInt8)] })] (iv (c)),
     false = false,
     false = false,
     decide (c ≤ (0 : Int)) = false,
     decide (c ≤ (0 : Int)) = false,
     decide (c ≤ (0 : Int)) = false,
     (ByteArray.toList (bstr a) == [(48 : UInt8)]) = false,
     (ByteArray.toList (bstr a) == [(48 : UInt8)]) = false,
     (ByteArray.toList (bstr a) == [(48 : UInt8)]) = false,
     CallsTo Tryz.prog (52 : Nat) [sv a, sv b] (strv ((bstr ([(49 : UInt8)])))),
     (ByteArray.toList (bstr a) == [(48 : UInt8)]) = false,
     (ByteArray.toList (bstr a) == [(48 : UInt8)]) = false,
     false = false]) :
    CallsTo Tryz.prog 13 [sv s] (iv 0) :=
  fn_ok fits hmix Tryz.func13 (by kernel_rfl)
    [Orc.a (AV.tup [sv a, sv b, bv (true)]), Orc.a (iv 0), Orc.b false, Orc.b false, Orc.a (iv 0), Orc.b false, Orc.b false, Orc.a (iv (c)), Orc.b false, Orc.b false, Orc.b false, Orc.b false, Orc.b false, Orc.b false, Orc.b false, Orc.b false, Orc.a (strv ((bstr ([(49 : UInt8)])))), Orc.b false, Orc.b false, Orc.b false] (by kernel_rfl) h
theorem rchk_one_ok (s : List UInt8) (h : AllP
    [CallsTo Tryz.prog (49 : Nat) [sv s, strv ({ data := #[(47 : UInt8)] })] (AV.tup [strv ((bstr ([(49 : UInt8)]))), strv ((bstr ([(49 : UInt8)]))), bv (true)]),
     CallsTo Tryz.prog (50 : Nat) [strv ((bstr ([(49 : UInt8)])))] (iv 0),
     false = false,
     false = false,
     CallsTo Tryz.prog (50 : Nat) [strv ((bstr ([(49 : UInt8)])))] (iv 0),
     false = false,
     false = false,
     CallsTo Tryz.prog (51 : Nat) [strv ((bstr ([(49 : UInt8)]))), strv ({ data := #[(49 : UInt8)] })] (iv 0),
     false = false,
     false = false,
     true = true,
     true = true,
     true = true,
     true = true,
     true = true,
     true = true,
     true = true,
     true = true,
     true = true]) :
    CallsTo Tryz.prog 13 [sv s] (iv 2) :=
  fn_ok fits hmix Tryz.func13 (by kernel_rfl)
    [Orc.a (AV.tup [strv ((bstr ([(49 : UInt8)]))), strv ((bstr ([(49 : UInt8)]))), bv (true)]), Orc.a (iv 0), Orc.b false, Orc.b false, Orc.a (iv 0), Orc.b false, Orc.b false, Orc.a (iv 0), Orc.b false, Orc.b false, Orc.b true, Orc.b true, Orc.b true, Orc.b true, Orc.b true, Orc.b true, Orc.b true, Orc.b true, Orc.b true] (by kernel_rfl) h
theorem rchk_bad_ok (s : List UInt8) (a : List UInt8) (b : List UInt8) (w : Bool) (h : AllP
    [CallsTo Tryz.prog (49 : Nat) [sv s, strv ({ data := #[(47 : UInt8)] })] (AV.tup [sv a, sv b, bv (w)]),
     CallsTo Tryz.prog (50 : Nat) [sv a] (iv 2),
     true = true]) :
    CallsTo Tryz.prog 13 [sv s] (iv 2) :=
  fn_ok fits hmix Tryz.func13 (by kernel_rfl)
    [Orc.a (AV.tup [sv a, sv b, bv (w)]), Orc.a (iv 2), Orc.b true] (by kernel_rfl) h
theorem rdiv_zero_ok (s : List UInt8) (h : AllP
    [true = true]) :
    CallsTo Tryz.prog 76 [sv s, strv ((bstr ([(48 : UInt8)])))] (AV.tup [strv ({ data := #[] }), iv 17]) :=
  fn_ok fits hmix Tryz.func76 (by kernel_rfl)
    [Orc.b true] (by kernel_rfl) h
theorem rdiv_pos_ok (s : List UInt8) (u : List UInt8) (m : List UInt8) (e : List UInt8) (j : List UInt8) (r : List UInt8) (h : AllP
    [(ByteArray.toList (bstr u) == [(48 : UInt8)]) = false,
     CallsTo Tryz.prog (54 : Nat) [sv u] (AV.tup [sv m, sv e]),
     (0 : Int) ≤ (0 : Int) ∧ (0 : Int) < (↑(ByteArray.size (bstr u)) : Int),
     ((↑(UInt8.toNat (List.getD (bstr u).data.toList (Int.toNat (0 : Int)) (0 : UInt8))) : Int) == (45 : Int)) = false,
     CallsTo Tryz.prog (110 : Nat) [sv e, sv m] (sv j),
     CallsTo Tryz.prog (19 : Nat) [sv s, sv j] (sv r)]) :
    CallsTo Tryz.prog 76 [sv s, sv u] (AV.tup [sv r, iv 0]) :=
  fn_ok fits hmix Tryz.func76 (by kernel_rfl)
    [Orc.b false, Orc.a (AV.tup [sv m, sv e]), Orc.b false, Orc.a (sv j), Orc.a (sv r)] (by kernel_rfl) h
theorem rdiv_neg_ok (s : List UInt8) (u : List UInt8) (m : List UInt8) (e : List UInt8) (m' : List UInt8) (e' : List UInt8) (j : List UInt8) (r : List UInt8) (h : AllP
    [(ByteArray.toList (bstr u) == [(48 : UInt8)]) = false,
     CallsTo Tryz.prog (54 : Nat) [sv u] (AV.tup [sv m, sv e]),
     (0 : Int) ≤ (0 : Int) ∧ (0 : Int) < (↑(ByteArray.size (bstr u)) : Int),
     ((↑(UInt8.toNat (List.getD (bstr u).data.toList (Int.toNat (0 : Int)) (0 : UInt8))) : Int) == (45 : Int)) = true,
     CallsTo Tryz.prog (108 : Nat) [sv m] (strv ((bstr (m')))),
     CallsTo Tryz.prog (108 : Nat) [sv e] (strv ((bstr (e')))),
     CallsTo Tryz.prog (110 : Nat) [strv ((bstr (e'))), strv ((bstr (m')))] (sv j),
     CallsTo Tryz.prog (19 : Nat) [sv s, sv j] (sv r)]) :
    CallsTo Tryz.prog 76 [sv s, sv u] (AV.tup [sv r, iv 0]) :=
  fn_ok fits hmix Tryz.func76 (by kernel_rfl)
    [Orc.b false, Orc.a (AV.tup [sv m, sv e]), Orc.b true, Orc.a (strv ((bstr (m')))), Orc.a (strv ((bstr (e')))), Orc.a (sv j), Orc.a (sv r)] (by kernel_rfl) h
theorem sum3_ok (a : List UInt8) (b : List UInt8) (c : List UInt8) (r1 : List UInt8) (r2 : List UInt8) (r3 : List UInt8) (h : AllP
    [true = true,
     (0 : Int) ≤ (0 : Int) ∧ some (sv a) = some (sv a),
     CallsTo Tryz.prog (18 : Nat) [strv ({ data := #[(48 : UInt8)] }), sv a] (sv r1),
     IntKind.wrap IntKind.i64 ((0 : Int) + (1 : Int)) = (0 : Int) + (1 : Int),
     true = true,
     (0 : Int) ≤ (0 : Int) + (1 : Int) ∧ some (sv b) = some (sv b),
     CallsTo Tryz.prog (18 : Nat) [sv r1, sv b] (sv r2),
     IntKind.wrap IntKind.i64 ((0 : Int) + (1 : Int) + (1 : Int)) = (0 : Int) + (1 : Int) + (1 : Int),
     true = true,
     (0 : Int) ≤ (0 : Int) + (1 : Int) + (1 : Int) ∧ some (sv c) = some (sv c),
     CallsTo Tryz.prog (18 : Nat) [sv r2, sv c] (sv r3),
     IntKind.wrap IntKind.i64 ((0 : Int) + (1 : Int) + (1 : Int) + (1 : Int)) = (0 : Int) + (1 : Int) + (1 : Int) + (1 : Int),
     false = false]) :
    CallsTo Tryz.prog 29 [AV.lst 1 [sv a, sv b, sv c]] (sv r3) :=
  fn_ok fits hmix Tryz.func29 (by kernel_rfl)
    [Orc.u (4 : Nat), Orc.b true, Orc.a (sv a), Orc.a (sv r1), Orc.b true, Orc.a (sv b), Orc.a (sv r2), Orc.b true, Orc.a (sv c), Orc.a (sv r3), Orc.b false] (by kernel_rfl) h
theorem nums2_ok (a : List UInt8) (b : List UInt8) (h : AllP
    [true = true,
     (0 : Int) ≤ (0 : Int) ∧ some (sv a) = some (sv a),
     CallsTo Tryz.prog (13 : Nat) [sv a] (iv 0),
     false = false,
     IntKind.wrap IntKind.i64 ((0 : Int) + (1 : Int)) = (0 : Int) + (1 : Int),
     true = true,
     (0 : Int) ≤ (0 : Int) + (1 : Int) ∧ some (sv b) = some (sv b),
     CallsTo Tryz.prog (13 : Nat) [sv b] (iv 0),
     false = false,
     IntKind.wrap IntKind.i64 ((0 : Int) + (1 : Int) + (1 : Int)) = (0 : Int) + (1 : Int) + (1 : Int),
     false = false]) :
    CallsTo Tryz.prog 106 [AV.lst 1 [sv a, sv b]] (iv 0) :=
  fn_ok fits hmix Tryz.func106 (by kernel_rfl)
    [Orc.u (3 : Nat), Orc.b true, Orc.a (sv a), Orc.a (iv 0), Orc.b false, Orc.b true, Orc.a (sv b), Orc.a (iv 0), Orc.b false, Orc.b false] (by kernel_rfl) h
theorem nums_bad2_ok (a : List UInt8) (b : List UInt8) (h : AllP
    [true = true,
     (0 : Int) ≤ (0 : Int) ∧ some (sv a) = some (sv a),
     CallsTo Tryz.prog (13 : Nat) [sv a] (iv 0),
     false = false,
     IntKind.wrap IntKind.i64 ((0 : Int) + (1 : Int)) = (0 : Int) + (1 : Int),
     true = true,
     (0 : Int) ≤ (0 : Int) + (1 : Int) ∧ some (sv b) = some (sv b),
     CallsTo Tryz.prog (13 : Nat) [sv b] (iv 2),
     true = true]) :
    CallsTo Tryz.prog 106 [AV.lst 1 [sv a, sv b]] (iv 2) :=
  fn_ok fits hmix Tryz.func106 (by kernel_rfl)
    [Orc.u (2 : Nat), Orc.b true, Orc.a (sv a), Orc.a (iv 0), Orc.b false, Orc.b true, Orc.a (sv b), Orc.a (iv 2), Orc.b true] (by kernel_rfl) h
theorem ckp_ok (a : List UInt8) (b : List UInt8) (e : Int) (h : AllP
    [CallsTo Tryz.prog (106 : Nat) [AV.lst 1 [sv a, sv b]] (iv (e))]) :
    CallsTo Tryz.prog 56 [AV.agg [sv a, sv b]] (iv (e)) :=
  fn_ok fits hmix Tryz.func56 (by kernel_rfl)
    [Orc.a (iv (e))] (by kernel_rfl) h
theorem marea_ok (a : List UInt8) (a' : List UInt8) (b : List UInt8) (b' : List UInt8) (c : List UInt8) (c' : List UInt8) (d1 : List UInt8) (d2 : List UInt8) (d3 : List UInt8) (d4 : List UInt8) (p1 : List UInt8) (p2 : List UInt8) (r : List UInt8) (h : AllP
    [CallsTo Tryz.prog (20 : Nat) [sv b, sv a] (sv d1),
     CallsTo Tryz.prog (20 : Nat) [strv ((bstr (c'))), strv ((bstr (a')))] (sv d2),
     CallsTo Tryz.prog (19 : Nat) [sv d1, sv d2] (sv p1),
     CallsTo Tryz.prog (20 : Nat) [strv ((bstr (b'))), strv ((bstr (a')))] (sv d3),
     CallsTo Tryz.prog (20 : Nat) [sv c, sv a] (sv d4),
     CallsTo Tryz.prog (19 : Nat) [sv d3, sv d4] (sv p2),
     CallsTo Tryz.prog (20 : Nat) [sv p1, sv p2] (sv r)]) :
    CallsTo Tryz.prog 80 [AV.agg [sv a, strv ((bstr (a')))], AV.agg [sv b, strv ((bstr (b')))], AV.agg [sv c, strv ((bstr (c')))]] (sv r) :=
  fn_ok fits hmix Tryz.func80 (by kernel_rfl)
    [Orc.a (sv d1), Orc.a (sv d2), Orc.a (sv p1), Orc.a (sv d3), Orc.a (sv d4), Orc.a (sv p2), Orc.a (sv r)] (by kernel_rfl) h
theorem mturn_ok (a : List UInt8) (a' : List UInt8) (b : List UInt8) (b' : List UInt8) (c : List UInt8) (c' : List UInt8) (r : List UInt8) (s : Int) (h : AllP
    [CallsTo Tryz.prog (80 : Nat) [AV.agg [sv a, strv ((bstr (a')))], AV.agg [sv b, strv ((bstr (b')))], AV.agg [sv c, strv ((bstr (c')))]] (sv r),
     CallsTo Tryz.prog (75 : Nat) [sv r] (iv (s))]) :
    CallsTo Tryz.prog 64 [AV.agg [sv a, strv ((bstr (a')))], AV.agg [sv b, strv ((bstr (b')))], AV.agg [sv c, strv ((bstr (c')))]] (iv (s)) :=
  fn_ok fits hmix Tryz.func64 (by kernel_rfl)
    [Orc.a (sv r), Orc.a (iv (s))] (by kernel_rfl) h
theorem minside_ok (a : List UInt8) (a' : List UInt8) (b : List UInt8) (b' : List UInt8) (c : List UInt8) (c' : List UInt8) (p : List UInt8) (p' : List UInt8) (s1 : Int) (s2 : Int) (s3 : Int) (h : AllP
    [(0 : Int) ≤ (0 : Int) ∧ (0 : Int) < (↑(3 : Nat) : Int),
     (0 : Int) ≤ (1 : Int) ∧ (1 : Int) < (↑(3 : Nat) : Int),
     CallsTo Tryz.prog (64 : Nat) [AV.agg [sv a, strv ((bstr (a')))], AV.agg [sv b, strv ((bstr (b')))], AV.agg [sv p, strv ((bstr (p')))]] (iv (s1)),
     decide (s1 ≥ (0 : Int)) = true,
     (0 : Int) ≤ (1 : Int) ∧ (1 : Int) < (↑(3 : Nat) : Int),
     decide (s1 ≥ (0 : Int)) = true,
     decide (s1 ≥ (0 : Int)) = true,
     (0 : Int) ≤ (2 : Int) ∧ (2 : Int) < (↑(3 : Nat) : Int),
     decide (s1 ≥ (0 : Int)) = true,
     decide (s1 ≥ (0 : Int)) = true,
     decide (s1 ≥ (0 : Int)) = true,
     CallsTo Tryz.prog (64 : Nat) [AV.agg [sv b, strv ((bstr (b')))], AV.agg [sv c, strv ((bstr (c')))], AV.agg [sv p, strv ((bstr (p')))]] (iv (s2)),
     decide (s1 ≥ (0 : Int)) = true,
     decide (s1 ≥ (0 : Int)) = true,
     decide (s2 ≥ (0 : Int)) = true,
     (0 : Int) ≤ (2 : Int) ∧ (2 : Int) < (↑(3 : Nat) : Int),
     decide (s2 ≥ (0 : Int)) = true,
     decide (s2 ≥ (0 : Int)) = true,
     (0 : Int) ≤ (0 : Int) ∧ (0 : Int) < (↑(3 : Nat) : Int),
     decide (s2 ≥ (0 : Int)) = true,
     decide (s2 ≥ (0 : Int)) = true,
     decide (s2 ≥ (0 : Int)) = true,
     CallsTo Tryz.prog (64 : Nat) [AV.agg [sv c, strv ((bstr (c')))], AV.agg [sv a, strv ((bstr (a')))], AV.agg [sv p, strv ((bstr (p')))]] (iv (s3)),
     decide (s2 ≥ (0 : Int)) = true,
     decide (s2 ≥ (0 : Int)) = true]) :
    CallsTo Tryz.prog 82 [AV.agg [sv a, strv ((bstr (a'))), sv b, strv ((bstr (b'))), sv c, strv ((bstr (c')))], AV.agg [sv p, strv ((bstr (p')))]] (bv ((decide (s3 ≥ (0 : Int))))) :=
  fn_ok fits hmix Tryz.func82 (by kernel_rfl)
    [Orc.a (iv (s1)), Orc.b true, Orc.b true, Orc.b true, Orc.b true, Orc.b true, Orc.b true, Orc.a (iv (s2)), Orc.b true, Orc.b true, Orc.b true, Orc.b true, Orc.b true, Orc.b true, Orc.b true, Orc.b true, Orc.a (iv (s3)), Orc.b true, Orc.b true] (by kernel_rfl) h
theorem minside_f1_ok (a : List UInt8) (a' : List UInt8) (b : List UInt8) (b' : List UInt8) (c : List UInt8) (c' : List UInt8) (p : List UInt8) (p' : List UInt8) (s1 : Int) (h : AllP
    [(0 : Int) ≤ (0 : Int) ∧ (0 : Int) < (↑(3 : Nat) : Int),
     (0 : Int) ≤ (1 : Int) ∧ (1 : Int) < (↑(3 : Nat) : Int),
     CallsTo Tryz.prog (64 : Nat) [AV.agg [sv a, strv ((bstr (a')))], AV.agg [sv b, strv ((bstr (b')))], AV.agg [sv p, strv ((bstr (p')))]] (iv (s1)),
     decide (s1 ≥ (0 : Int)) = false,
     decide (s1 ≥ (0 : Int)) = false,
     decide (s1 ≥ (0 : Int)) = false,
     decide (s1 ≥ (0 : Int)) = false,
     decide (s1 ≥ (0 : Int)) = false,
     decide (s1 ≥ (0 : Int)) = false,
     decide (s1 ≥ (0 : Int)) = false,
     decide (s1 ≥ (0 : Int)) = false,
     false = false,
     false = false,
     false = false,
     false = false,
     false = false,
     false = false,
     false = false,
     false = false]) :
    CallsTo Tryz.prog 82 [AV.agg [sv a, strv ((bstr (a'))), sv b, strv ((bstr (b'))), sv c, strv ((bstr (c')))], AV.agg [sv p, strv ((bstr (p')))]] (bv (false)) :=
  fn_ok fits hmix Tryz.func82 (by kernel_rfl)
    [Orc.a (iv (s1)), Orc.b false, Orc.b false, Orc.b false, Orc.b false, Orc.b false, Orc.b false, Orc.b false, Orc.b false, Orc.b false, Orc.b false, Orc.b false, Orc.b false, Orc.b false, Orc.b false, Orc.b false, Orc.b false] (by kernel_rfl) h
theorem minside_f2_ok (a : List UInt8) (a' : List UInt8) (b : List UInt8) (b' : List UInt8) (c : List UInt8) (c' : List UInt8) (p : List UInt8) (p' : List UInt8) (s1 : Int) (s2 : Int) (h : AllP
    [(0 : Int) ≤ (0 : Int) ∧ (0 : Int) < (↑(3 : Nat) : Int),
     (0 : Int) ≤ (1 : Int) ∧ (1 : Int) < (↑(3 : Nat) : Int),
     CallsTo Tryz.prog (64 : Nat) [AV.agg [sv a, strv ((bstr (a')))], AV.agg [sv b, strv ((bstr (b')))], AV.agg [sv p, strv ((bstr (p')))]] (iv (s1)),
     decide (s1 ≥ (0 : Int)) = true,
     (0 : Int) ≤ (1 : Int) ∧ (1 : Int) < (↑(3 : Nat) : Int),
     decide (s1 ≥ (0 : Int)) = true,
     decide (s1 ≥ (0 : Int)) = true,
     (0 : Int) ≤ (2 : Int) ∧ (2 : Int) < (↑(3 : Nat) : Int),
     decide (s1 ≥ (0 : Int)) = true,
     decide (s1 ≥ (0 : Int)) = true,
     decide (s1 ≥ (0 : Int)) = true,
     CallsTo Tryz.prog (64 : Nat) [AV.agg [sv b, strv ((bstr (b')))], AV.agg [sv c, strv ((bstr (c')))], AV.agg [sv p, strv ((bstr (p')))]] (iv (s2)),
     decide (s1 ≥ (0 : Int)) = true,
     decide (s1 ≥ (0 : Int)) = true,
     decide (s2 ≥ (0 : Int)) = false,
     decide (s2 ≥ (0 : Int)) = false,
     decide (s2 ≥ (0 : Int)) = false,
     decide (s2 ≥ (0 : Int)) = false,
     decide (s2 ≥ (0 : Int)) = false,
     decide (s2 ≥ (0 : Int)) = false,
     decide (s2 ≥ (0 : Int)) = false,
     decide (s2 ≥ (0 : Int)) = false]) :
    CallsTo Tryz.prog 82 [AV.agg [sv a, strv ((bstr (a'))), sv b, strv ((bstr (b'))), sv c, strv ((bstr (c')))], AV.agg [sv p, strv ((bstr (p')))]] (bv (false)) :=
  fn_ok fits hmix Tryz.func82 (by kernel_rfl)
    [Orc.a (iv (s1)), Orc.b true, Orc.b true, Orc.b true, Orc.b true, Orc.b true, Orc.b true, Orc.a (iv (s2)), Orc.b true, Orc.b true, Orc.b false, Orc.b false, Orc.b false, Orc.b false, Orc.b false, Orc.b false, Orc.b false, Orc.b false] (by kernel_rfl) h
end Go.Flow.Tryz
namespace Go.Flow.Tryz
open Go Go.Proofs Go.RowKit Go.Flow
set_option maxRecDepth 100000
theorem sign_zero_ok (s : List UInt8) (h : AllP
    [(ByteArray.toList (bstr s) == [(48 : UInt8)]) = true]) :
    CallsTo Tryz.prog 75 [sv s] (iv 0) :=
  fn_ok fits hmix Tryz.func75 (by kernel_rfl)
    [Orc.b true] (by kernel_rfl) h
theorem sign_neg_ok (s : List UInt8) (h : AllP
    [(ByteArray.toList (bstr s) == [(48 : UInt8)]) = false,
     decide ((↑(ByteArray.size (bstr s)) : Int) > (0 : Int)) = true,
     decide ((↑(ByteArray.size (bstr s)) : Int) > (0 : Int)) = true,
     (0 : Int) ≤ (0 : Int) ∧ (0 : Int) < (↑(ByteArray.size (bstr s)) : Int),
     decide ((↑(ByteArray.size (bstr s)) : Int) > (0 : Int)) = true,
     decide ((↑(ByteArray.size (bstr s)) : Int) > (0 : Int)) = true,
     ((↑(UInt8.toNat (List.getD (bstr s).data.toList (Int.toNat (0 : Int)) (0 : UInt8))) : Int) == (45 : Int)) = true]) :
    CallsTo Tryz.prog 75 [sv s] (iv ((-1 : Int))) :=
  fn_ok fits hmix Tryz.func75 (by kernel_rfl)
    [Orc.b false, Orc.b true, Orc.b true, Orc.b true, Orc.b true, Orc.b true] (by kernel_rfl) h
theorem sign_pos_ok (s : List UInt8) (h : AllP
    [(ByteArray.toList (bstr s) == [(48 : UInt8)]) = false,
     decide ((↑(ByteArray.size (bstr s)) : Int) > (0 : Int)) = true,
     decide ((↑(ByteArray.size (bstr s)) : Int) > (0 : Int)) = true,
     (0 : Int) ≤ (0 : Int) ∧ (0 : Int) < (↑(ByteArray.size (bstr s)) : Int),
     decide ((↑(ByteArray.size (bstr s)) : Int) > (0 : Int)) = true,
     decide ((↑(ByteArray.size (bstr s)) : Int) > (0 : Int)) = true,
     ((↑(UInt8.toNat (List.getD (bstr s).data.toList (Int.toNat (0 : Int)) (0 : UInt8))) : Int) == (45 : Int)) = false]) :
    CallsTo Tryz.prog 75 [sv s] (iv 1) :=
  fn_ok fits hmix Tryz.func75 (by kernel_rfl)
    [Orc.b false, Orc.b true, Orc.b true, Orc.b true, Orc.b true, Orc.b false] (by kernel_rfl) h
theorem neg_zero_ok (s : List UInt8) (h : AllP
    [(ByteArray.toList (bstr s) == [(48 : UInt8)]) = true]) :
    CallsTo Tryz.prog 63 [sv s] (sv s) :=
  fn_ok fits hmix Tryz.func63 (by kernel_rfl)
    [Orc.b true] (by kernel_rfl) h
theorem neg_neg_ok (s : List UInt8) (h : AllP
    [(ByteArray.toList (bstr s) == [(48 : UInt8)]) = false,
     (0 : Int) ≤ (0 : Int) ∧ (0 : Int) < (↑(ByteArray.size (bstr s)) : Int),
     ((↑(UInt8.toNat (List.getD (bstr s).data.toList (Int.toNat (0 : Int)) (0 : UInt8))) : Int) == (45 : Int)) = true,
     (0 : Int) ≤ (1 : Int) ∧ (1 : Int) ≤ (↑(ByteArray.size (bstr s)) : Int) ∧ (↑(ByteArray.size (bstr s)) : Int) ≤ (↑(ByteArray.size (bstr s)) : Int)]) :
    CallsTo Tryz.prog 63 [sv s] (strv ((ByteArray.extract (bstr s) (1 : Nat) (Int.toNat (↑(ByteArray.size (bstr s)) : Int))))) :=
  fn_ok fits hmix Tryz.func63 (by kernel_rfl)
    [Orc.b false, Orc.b true] (by kernel_rfl) h
theorem neg_pos_ok (s : List UInt8) (h : AllP
    [(ByteArray.toList (bstr s) == [(48 : UInt8)]) = false,
     (0 : Int) ≤ (0 : Int) ∧ (0 : Int) < (↑(ByteArray.size (bstr s)) : Int),
     ((↑(UInt8.toNat (List.getD (bstr s).data.toList (Int.toNat (0 : Int)) (0 : UInt8))) : Int) == (45 : Int)) = false,
     (↑(nat_lit 1 + ByteArray.size (bstr s)) : Int) ≤ IntKind.max IntKind.i64]) :
    CallsTo Tryz.prog 63 [sv s] (strv (({ data := #[(45 : UInt8)] } ++ (bstr s)))) :=
  fn_ok fits hmix Tryz.func63 (by kernel_rfl)
    [Orc.b false, Orc.b false] (by kernel_rfl) h
theorem add_lzero_ok (s : List UInt8) (u : List UInt8) (h : AllP
    [(ByteArray.toList (bstr s) == [(48 : UInt8)]) = true]) :
    CallsTo Tryz.prog 18 [sv s, sv u] (sv u) :=
  fn_ok fits hmix Tryz.func18 (by kernel_rfl)
    [Orc.b true] (by kernel_rfl) h
theorem add_rzero_ok (s : List UInt8) (u : List UInt8) (h : AllP
    [(ByteArray.toList (bstr s) == [(48 : UInt8)]) = false,
     (ByteArray.toList (bstr u) == [(48 : UInt8)]) = true]) :
    CallsTo Tryz.prog 18 [sv s, sv u] (sv s) :=
  fn_ok fits hmix Tryz.func18 (by kernel_rfl)
    [Orc.b false, Orc.b true] (by kernel_rfl) h
theorem add_quick_ok (s : List UInt8) (u : List UInt8) (r : List UInt8) (n : Int) (d : Int) (m : Int) (e : Int) (h : AllP
    [(ByteArray.toList (bstr s) == [(48 : UInt8)]) = false,
     (ByteArray.toList (bstr u) == [(48 : UInt8)]) = false,
     CallsTo Tryz.prog (53 : Nat) [sv s] (AV.tup [iv (n), iv (d), bv (true)]),
     true = true,
     CallsTo Tryz.prog (53 : Nat) [sv u] (AV.tup [iv (m), iv (e), bv (true)]),
     true = true,
     IntKind.wrap IntKind.i64 (n * e) = n * e,
     IntKind.wrap IntKind.i64 (m * d) = m * d,
     IntKind.wrap IntKind.i64 (n * e + m * d) = n * e + m * d,
     IntKind.wrap IntKind.i64 (d * e) = d * e,
     CallsTo Tryz.prog (60 : Nat) [iv ((n * e + m * d)), iv ((d * e))] (sv r)]) :
    CallsTo Tryz.prog 18 [sv s, sv u] (sv r) :=
  fn_ok fits hmix Tryz.func18 (by kernel_rfl)
    [Orc.b false, Orc.b false, Orc.a (AV.tup [iv (n), iv (d), bv (true)]), Orc.b true, Orc.a (AV.tup [iv (m), iv (e), bv (true)]), Orc.b true, Orc.a (sv r)] (by kernel_rfl) h
theorem mul_lzero_ok (s : List UInt8) (u : List UInt8) (h : AllP
    [(ByteArray.toList (bstr s) == [(48 : UInt8)]) = true,
     (ByteArray.toList (bstr s) == [(48 : UInt8)]) = true]) :
    CallsTo Tryz.prog 19 [sv s, sv u] (strv ({ data := #[(48 : UInt8)] })) :=
  fn_ok fits hmix Tryz.func19 (by kernel_rfl)
    [Orc.b true, Orc.b true] (by kernel_rfl) h
theorem mul_rzero_ok (s : List UInt8) (u : List UInt8) (h : AllP
    [(ByteArray.toList (bstr s) == [(48 : UInt8)]) = false,
     (ByteArray.toList (bstr u) == [(48 : UInt8)]) = true]) :
    CallsTo Tryz.prog 19 [sv s, sv u] (strv ({ data := #[(48 : UInt8)] })) :=
  fn_ok fits hmix Tryz.func19 (by kernel_rfl)
    [Orc.b false, Orc.b true] (by kernel_rfl) h
theorem mul_lone_ok (s : List UInt8) (u : List UInt8) (h : AllP
    [(ByteArray.toList (bstr s) == [(48 : UInt8)]) = false,
     (ByteArray.toList (bstr u) == [(48 : UInt8)]) = false,
     (ByteArray.toList (bstr s) == [(49 : UInt8)]) = true]) :
    CallsTo Tryz.prog 19 [sv s, sv u] (sv u) :=
  fn_ok fits hmix Tryz.func19 (by kernel_rfl)
    [Orc.b false, Orc.b false, Orc.b true] (by kernel_rfl) h
theorem mul_rone_ok (s : List UInt8) (u : List UInt8) (h : AllP
    [(ByteArray.toList (bstr s) == [(48 : UInt8)]) = false,
     (ByteArray.toList (bstr u) == [(48 : UInt8)]) = false,
     (ByteArray.toList (bstr s) == [(49 : UInt8)]) = false,
     (ByteArray.toList (bstr u) == [(49 : UInt8)]) = true]) :
    CallsTo Tryz.prog 19 [sv s, sv u] (sv s) :=
  fn_ok fits hmix Tryz.func19 (by kernel_rfl)
    [Orc.b false, Orc.b false, Orc.b false, Orc.b true] (by kernel_rfl) h
theorem mul_quick_ok (s : List UInt8) (u : List UInt8) (r : List UInt8) (n : Int) (d : Int) (m : Int) (e : Int) (h : AllP
    [(ByteArray.toList (bstr s) == [(48 : UInt8)]) = false,
     (ByteArray.toList (bstr u) == [(48 : UInt8)]) = false,
     (ByteArray.toList (bstr s) == [(49 : UInt8)]) = false,
     (ByteArray.toList (bstr u) == [(49 : UInt8)]) = false,
     CallsTo Tryz.prog (53 : Nat) [sv s] (AV.tup [iv (n), iv (d), bv (true)]),
     true = true,
     CallsTo Tryz.prog (53 : Nat) [sv u] (AV.tup [iv (m), iv (e), bv (true)]),
     true = true,
     IntKind.wrap IntKind.i64 (n * m) = n * m,
     IntKind.wrap IntKind.i64 (d * e) = d * e,
     CallsTo Tryz.prog (60 : Nat) [iv ((n * m)), iv ((d * e))] (sv r)]) :
    CallsTo Tryz.prog 19 [sv s, sv u] (sv r) :=
  fn_ok fits hmix Tryz.func19 (by kernel_rfl)
    [Orc.b false, Orc.b false, Orc.b false, Orc.b false, Orc.a (AV.tup [iv (n), iv (d), bv (true)]), Orc.b true, Orc.a (AV.tup [iv (m), iv (e), bv (true)]), Orc.b true, Orc.a (sv r)] (by kernel_rfl) h
theorem sub_any_ok (s : List UInt8) (u : List UInt8) (v : List UInt8) (r : List UInt8) (h : AllP
    [CallsTo Tryz.prog (63 : Nat) [sv u] (sv v),
     CallsTo Tryz.prog (18 : Nat) [sv s, sv v] (sv r)]) :
    CallsTo Tryz.prog 20 [sv s, sv u] (sv r) :=
  fn_ok fits hmix Tryz.func20 (by kernel_rfl)
    [Orc.a (sv v), Orc.a (sv r)] (by kernel_rfl) h
theorem cmp_same_ok (s : List UInt8) (u : List UInt8) (h : AllP
    [(ByteArray.toList (bstr s) == ByteArray.toList (bstr u)) = true]) :
    CallsTo Tryz.prog 14 [sv s, sv u] (iv 0) :=
  fn_ok fits hmix Tryz.func14 (by kernel_rfl)
    [Orc.b true] (by kernel_rfl) h
theorem cmp_less_ok (s : List UInt8) (u : List UInt8) (n : Int) (d : Int) (m : Int) (e : Int) (h : AllP
    [(ByteArray.toList (bstr s) == ByteArray.toList (bstr u)) = false,
     CallsTo Tryz.prog (53 : Nat) [sv s] (AV.tup [iv (n), iv (d), bv (true)]),
     true = true,
     CallsTo Tryz.prog (53 : Nat) [sv u] (AV.tup [iv (m), iv (e), bv (true)]),
     true = true,
     IntKind.wrap IntKind.i64 (n * e) = n * e,
     IntKind.wrap IntKind.i64 (m * d) = m * d,
     decide (n * e < m * d) = true]) :
    CallsTo Tryz.prog 14 [sv s, sv u] (iv ((-1 : Int))) :=
  fn_ok fits hmix Tryz.func14 (by kernel_rfl)
    [Orc.b false, Orc.a (AV.tup [iv (n), iv (d), bv (true)]), Orc.b true, Orc.a (AV.tup [iv (m), iv (e), bv (true)]), Orc.b true, Orc.b true] (by kernel_rfl) h
theorem cmp_more_ok (s : List UInt8) (u : List UInt8) (n : Int) (d : Int) (m : Int) (e : Int) (h : AllP
    [(ByteArray.toList (bstr s) == ByteArray.toList (bstr u)) = false,
     CallsTo Tryz.prog (53 : Nat) [sv s] (AV.tup [iv (n), iv (d), bv (true)]),
     true = true,
     CallsTo Tryz.prog (53 : Nat) [sv u] (AV.tup [iv (m), iv (e), bv (true)]),
     true = true,
     IntKind.wrap IntKind.i64 (n * e) = n * e,
     IntKind.wrap IntKind.i64 (m * d) = m * d,
     decide (n * e < m * d) = false,
     decide (n * e > m * d) = true]) :
    CallsTo Tryz.prog 14 [sv s, sv u] (iv 1) :=
  fn_ok fits hmix Tryz.func14 (by kernel_rfl)
    [Orc.b false, Orc.a (AV.tup [iv (n), iv (d), bv (true)]), Orc.b true, Orc.a (AV.tup [iv (m), iv (e), bv (true)]), Orc.b true, Orc.b false, Orc.b true] (by kernel_rfl) h
theorem cmp_eq_ok (s : List UInt8) (u : List UInt8) (n : Int) (d : Int) (m : Int) (e : Int) (h : AllP
    [(ByteArray.toList (bstr s) == ByteArray.toList (bstr u)) = false,
     CallsTo Tryz.prog (53 : Nat) [sv s] (AV.tup [iv (n), iv (d), bv (true)]),
     true = true,
     CallsTo Tryz.prog (53 : Nat) [sv u] (AV.tup [iv (m), iv (e), bv (true)]),
     true = true,
     IntKind.wrap IntKind.i64 (n * e) = n * e,
     IntKind.wrap IntKind.i64 (m * d) = m * d,
     decide (n * e < m * d) = false,
     decide (n * e > m * d) = false]) :
    CallsTo Tryz.prog 14 [sv s, sv u] (iv 0) :=
  fn_ok fits hmix Tryz.func14 (by kernel_rfl)
    [Orc.b false, Orc.a (AV.tup [iv (n), iv (d), bv (true)]), Orc.b true, Orc.a (AV.tup [iv (m), iv (e), bv (true)]), Orc.b true, Orc.b false, Orc.b false] (by kernel_rfl) h
theorem min_left_ok (s : List UInt8) (u : List UInt8) (c : Int) (h : AllP
    [CallsTo Tryz.prog (14 : Nat) [sv u, sv s] (iv (c)),
     decide (c < (0 : Int)) = false]) :
    CallsTo Tryz.prog 78 [sv s, sv u] (sv s) :=
  fn_ok fits hmix Tryz.func78 (by kernel_rfl)
    [Orc.a (iv (c)), Orc.b false] (by kernel_rfl) h
theorem min_right_ok (s : List UInt8) (u : List UInt8) (c : Int) (h : AllP
    [CallsTo Tryz.prog (14 : Nat) [sv u, sv s] (iv (c)),
     decide (c < (0 : Int)) = true]) :
    CallsTo Tryz.prog 78 [sv s, sv u] (sv u) :=
  fn_ok fits hmix Tryz.func78 (by kernel_rfl)
    [Orc.a (iv (c)), Orc.b true] (by kernel_rfl) h
theorem max_left_ok (s : List UInt8) (u : List UInt8) (c : Int) (h : AllP
    [CallsTo Tryz.prog (14 : Nat) [sv u, sv s] (iv (c)),
     decide (c > (0 : Int)) = false]) :
    CallsTo Tryz.prog 77 [sv s, sv u] (sv s) :=
  fn_ok fits hmix Tryz.func77 (by kernel_rfl)
    [Orc.a (iv (c)), Orc.b false] (by kernel_rfl) h
theorem max_right_ok (s : List UInt8) (u : List UInt8) (c : Int) (h : AllP
    [CallsTo Tryz.prog (14 : Nat) [sv u, sv s] (iv (c)),
     decide (c > (0 : Int)) = true]) :
    CallsTo Tryz.prog 77 [sv s, sv u] (sv u) :=
  fn_ok fits hmix Tryz.func77 (by kernel_rfl)
    [Orc.a (iv (c)), Orc.b true] (by kernel_rfl) h
end Go.Flow.Tryz
namespace Go.Flow.Tryz
open Go Go.Proofs Go.RowKit Go.Flow
set_option maxRecDepth 100000
theorem small_step_step (num : Int) (den : Int) (a : Int) (b : Int) {ex : Ex} {T2 : List AV} {H2 : Heap} (m : Nat) (h : AllP
    [(b != (0 : Int)) = true,
     b ≠ (0 : Int)])
    (h2 : Rounds Tryz.prog (bodyOf (loopAt Tryz.f60 (0 : Nat))) m (st 35 [iv (num), iv (den), uu, uu, strv ((bstr ([]))), iv (b), iv ((Int.tmod a b))]) [] ex T2 H2) :
    Rounds Tryz.prog (bodyOf (loopAt Tryz.f60 (0 : Nat))) (m + 1) (st 35 [iv (num), iv (den), uu, uu, strv ((bstr ([]))), iv (a), iv (b)]) [] ex T2 H2 :=
  Rounds.step_of fits hmix [Orc.b true] (7 : Nat) [] (by kernel_rfl) h h2
theorem small_end_out (num : Int) (den : Int) (a : Int) (b : Int) (m : Nat) (h : AllP
    [(b != (0 : Int)) = false]) :
    Rounds Tryz.prog (bodyOf (loopAt Tryz.f60 (0 : Nat))) (m + 1) (st 35 [iv (num), iv (den), uu, uu, strv ((bstr ([]))), iv (a), iv (b)]) [] (Ex.exit (0 : Nat)) (st 35 [iv (num), iv (den), uu, uu, strv ((bstr ([]))), iv (a), iv (b)]) [] :=
  Rounds.out_of fits hmix [Orc.b false] (7 : Nat) [] m (by simp) (by kernel_rfl) h
theorem small_whole_ok (num : Int) (den : Int) (g : Int) (h : AllP
    [Goes Tryz.prog (loopAt Tryz.f60 (0 : Nat)) (st 35 [iv (num), iv (den), uu, uu, strv ({ data := #[] }), iv (num), iv (den)]) [] (Ex.exit (0 : Nat)) (st 35 [iv (num), iv (den), uu, uu, strv ((bstr ([]))), iv (g), iv 0]) [],
     decide (g < (0 : Int)) = false,
     g ≠ (0 : Int),
     IntKind.wrap IntKind.i64 (Int.tdiv num g) = Int.tdiv num g,
     g ≠ (0 : Int),
     IntKind.wrap IntKind.i64 (Int.tdiv den g) = Int.tdiv den g,
     (Int.tdiv den g == (1 : Int)) = true,
     CallsTo Tryz.prog (107 : Nat) [iv ((Int.tdiv num g))] (strv ((bstr (zT (Int.tdiv num g)))))]) :
    CallsTo Tryz.prog 60 [iv (num), iv (den)] (strv ((bstr (zT (Int.tdiv num g))))) :=
  fn_ok fits hmix Tryz.func60 (by kernel_rfl)
    [.s (7 : Nat) (Ex.exit (0 : Nat)) (st 35 [iv (num), iv (den), uu, uu, strv ((bstr ([]))), iv (g), iv 0]) [], Orc.b false, Orc.b true, Orc.a (strv ((bstr (zT (Int.tdiv num g)))))] (by kernel_rfl) h
theorem small_whole_neg_ok (num : Int) (den : Int) (g : Int) (h : AllP
    [Goes Tryz.prog (loopAt Tryz.f60 (0 : Nat)) (st 35 [iv (num), iv (den), uu, uu, strv ({ data := #[] }), iv (num), iv (den)]) [] (Ex.exit (0 : Nat)) (st 35 [iv (num), iv (den), uu, uu, strv ((bstr ([]))), iv (g), iv 0]) [],
     decide (g < (0 : Int)) = true,
     IntKind.wrap IntKind.i64 ((0 : Int) - g) = -g,
     -g ≠ (0 : Int),
     IntKind.wrap IntKind.i64 (Int.tdiv num (-g)) = Int.tdiv num (-g),
     -g ≠ (0 : Int),
     IntKind.wrap IntKind.i64 (Int.tdiv den (-g)) = Int.tdiv den (-g),
     (Int.tdiv den (-g) == (1 : Int)) = true,
     CallsTo Tryz.prog (107 : Nat) [iv ((Int.tdiv num (-g)))] (strv ((bstr (zT (Int.tdiv num (-g))))))]) :
    CallsTo Tryz.prog 60 [iv (num), iv (den)] (strv ((bstr (zT (Int.tdiv num (-g)))))) :=
  fn_ok fits hmix Tryz.func60 (by kernel_rfl)
    [.s (7 : Nat) (Ex.exit (0 : Nat)) (st 35 [iv (num), iv (den), uu, uu, strv ((bstr ([]))), iv (g), iv 0]) [], Orc.b true, Orc.b true, Orc.a (strv ((bstr (zT (Int.tdiv num (-g))))))] (by kernel_rfl) h
theorem small_frac_ok (num : Int) (den : Int) (g : Int) (h : AllP
    [Goes Tryz.prog (loopAt Tryz.f60 (0 : Nat)) (st 35 [iv (num), iv (den), uu, uu, strv ({ data := #[] }), iv (num), iv (den)]) [] (Ex.exit (0 : Nat)) (st 35 [iv (num), iv (den), uu, uu, strv ((bstr ([]))), iv (g), iv 0]) [],
     decide (g < (0 : Int)) = false,
     g ≠ (0 : Int),
     IntKind.wrap IntKind.i64 (Int.tdiv num g) = Int.tdiv num g,
     g ≠ (0 : Int),
     IntKind.wrap IntKind.i64 (Int.tdiv den g) = Int.tdiv den g,
     (Int.tdiv den g == (1 : Int)) = false,
     CallsTo Tryz.prog (107 : Nat) [iv ((Int.tdiv num g))] (strv ((bstr (zT (Int.tdiv num g))))),
     (↑(ByteArray.size (bstr (zT (Int.tdiv num g))) + nat_lit 1) : Int) ≤ IntKind.max IntKind.i64,
     CallsTo Tryz.prog (107 : Nat) [iv ((Int.tdiv den g))] (strv ((bstr (zT (Int.tdiv den g))))),
     (↑(ByteArray.size ((bstr (zT (Int.tdiv num g))) ++ { data := #[(47 : UInt8)] }) + ByteArray.size (bstr (zT (Int.tdiv den g)))) : Int) ≤ IntKind.max IntKind.i64]) :
    CallsTo Tryz.prog 60 [iv (num), iv (den)] (strv (((bstr (zT (Int.tdiv num g))) ++ { data := #[(47 : UInt8)] } ++ (bstr (zT (Int.tdiv den g)))))) :=
  fn_ok fits hmix Tryz.func60 (by kernel_rfl)
    [.s (7 : Nat) (Ex.exit (0 : Nat)) (st 35 [iv (num), iv (den), uu, uu, strv ((bstr ([]))), iv (g), iv 0]) [], Orc.b false, Orc.b false, Orc.a (strv ((bstr (zT (Int.tdiv num g))))), Orc.a (strv ((bstr (zT (Int.tdiv den g)))))] (by kernel_rfl) h
theorem small_frac_neg_ok (num : Int) (den : Int) (g : Int) (h : AllP
    [Goes Tryz.prog (loopAt Tryz.f60 (0 : Nat)) (st 35 [iv (num), iv (den), uu, uu, strv ({ data := #[] }), iv (num), iv (den)]) [] (Ex.exit (0 : Nat)) (st 35 [iv (num), iv (den), uu, uu, strv ((bstr ([]))), iv (g), iv 0]) [],
     decide (g < (0 : Int)) = true,
     IntKind.wrap IntKind.i64 ((0 : Int) - g) = -g,
     -g ≠ (0 : Int),
     IntKind.wrap IntKind.i64 (Int.tdiv num (-g)) = Int.tdiv num (-g),
     -g ≠ (0 : Int),
     IntKind.wrap IntKind.i64 (Int.tdiv den (-g)) = Int.tdiv den (-g),
     (Int.tdiv den (-g) == (1 : Int)) = false,
     CallsTo Tryz.prog (107 : Nat) [iv ((Int.tdiv num (-g)))] (strv ((bstr (zT (Int.tdiv num (-g)))))),
     (↑(ByteArray.size (bstr (zT (Int.tdiv num (-g)))) + nat_lit 1) : Int) ≤ IntKind.max IntKind.i64,
     CallsTo Tryz.prog (107 : Nat) [iv ((Int.tdiv den (-g)))] (strv ((bstr (zT (Int.tdiv den (-g)))))),
     (↑(ByteArray.size ((bstr (zT (Int.tdiv num (-g)))) ++ { data := #[(47 : UInt8)] }) + ByteArray.size (bstr (zT (Int.tdiv den (-g))))) : Int) ≤ IntKind.max IntKind.i64]) :
    CallsTo Tryz.prog 60 [iv (num), iv (den)] (strv (((bstr (zT (Int.tdiv num (-g)))) ++ { data := #[(47 : UInt8)] } ++ (bstr (zT (Int.tdiv den (-g))))))) :=
  fn_ok fits hmix Tryz.func60 (by kernel_rfl)
    [.s (7 : Nat) (Ex.exit (0 : Nat)) (st 35 [iv (num), iv (den), uu, uu, strv ((bstr ([]))), iv (g), iv 0]) [], Orc.b true, Orc.b false, Orc.a (strv ((bstr (zT (Int.tdiv num (-g)))))), Orc.a (strv ((bstr (zT (Int.tdiv den (-g))))))] (by kernel_rfl) h
end Go.Flow.Tryz
namespace Go.Proofs
open Go.Shelf
def Tryz.lays169_ren : Go.Shelf.Ren := ⟨fun | 169 => 137 | n => n, fun | 70 => 187 | 9 => 9 | 0 => 0 | 72 => 190 | 37 => 188 | 127 => 217 | 3 => 3 | 5 => 5 | n => n, fun | n => n⟩
theorem Tryz.lays169 : Go.Proofs.Lays.n169 Tryz.prog Tryz.lays169_ren := {
  mixed := by kernel_rfl
  f169 := Tryz.func137.trans (congrArg some (by kernel_rfl))
  t0 := Tryz.underlying0
  a0 := Tryz.isAgg0
  z0 := Tryz.sizeOf0
  v0 := Tryz.zeroValue0
  t3 := Tryz.underlying3
  a3 := Tryz.isAgg3
  z3 := Tryz.sizeOf3
  v3 := Tryz.zeroValue3
  t9 := Tryz.underlying9
  a9 := Tryz.isAgg9
  z9 := Tryz.sizeOf9
  v9 := Tryz.zeroValue9
  t37 := Tryz.underlying188
  a37 := Tryz.isAgg188
  z37 := Tryz.sizeOf188
  v37 := Tryz.zeroValue188
  t70 := Tryz.underlying187
  a70 := Tryz.isAgg187
  z70 := Tryz.sizeOf187
  v70 := Tryz.zeroValue187
  t72 := Tryz.underlying190
  a72 := Tryz.isAgg190
  z72 := Tryz.sizeOf190
  v72 := Tryz.zeroValue190
  t127 := Tryz.underlying217
  a127 := Tryz.isAgg217
  z127 := Tryz.sizeOf217
  v127 := Tryz.zeroValue217 }
theorem Tryz.Builder_Extra_169 : Builder.Extra Tryz.prog Tryz.lays169_ren := {
  sizeBuilder := by kernel_rfl
  liesBuilder := by kernel_rfl
  t5 := Tryz.underlying5
  a5 := Tryz.isAgg5
  z5 := Tryz.sizeOf5
  v5 := Tryz.zeroValue5
  infoByte := by kernel_rfl
  cellsByte := by kernel_rfl
  sizeByte := by kernel_rfl
  neB5 := by decide }
def Tryz.lays125_ren : Go.Shelf.Ren := ⟨fun | 125 => 118 | 128 => 151 | 129 => 152 | n => n, fun | 46 => 167 | 3 => 3 | 51 => 206 | 53 => 179 | 4 => 4 | 5 => 5 | 9 => 9 | n => n, fun | n => n⟩
theorem Tryz.lays125 : Go.Proofs.Lays.n125 Tryz.prog Tryz.lays125_ren := {
  mixed := by kernel_rfl
  f125 := Tryz.func118.trans (congrArg some (by kernel_rfl))
  f128 := Tryz.func151.trans (congrArg some (by kernel_rfl))
  f129 := Tryz.func152.trans (congrArg some (by kernel_rfl))
  t3 := Tryz.underlying3
  a3 := Tryz.isAgg3
  z3 := Tryz.sizeOf3
  v3 := Tryz.zeroValue3
  t4 := Tryz.underlying4
  a4 := Tryz.isAgg4
  z4 := Tryz.sizeOf4
  v4 := Tryz.zeroValue4
  t5 := Tryz.underlying5
  a5 := Tryz.isAgg5
  z5 := Tryz.sizeOf5
  v5 := Tryz.zeroValue5
  t9 := Tryz.underlying9
  a9 := Tryz.isAgg9
  z9 := Tryz.sizeOf9
  v9 := Tryz.zeroValue9
  t46 := Tryz.underlying167
  a46 := Tryz.isAgg167
  z46 := Tryz.sizeOf167
  v46 := Tryz.zeroValue167
  t51 := Tryz.underlying206
  a51 := Tryz.isAgg206
  z51 := Tryz.sizeOf206
  v51 := Tryz.zeroValue206
  t53 := Tryz.underlying179
  a53 := Tryz.isAgg179
  z53 := Tryz.sizeOf179
  v53 := Tryz.zeroValue179 }
theorem Tryz.bits_Len (x : Int) (w : World) (h0 : 0 ≤ x) (h1 : x ≤ 18446744073709551615) :
    Calls Tryz.prog 118 #[.int .u64 x] w fun e w' => e = .returned (.int .i64 (Lib.bitLen x.toNat)) ∧ w' = w := Any.bits_Len Tryz.lays125 x w h0 h1
def Tryz.lays106_ren : Go.Shelf.Ren := ⟨fun | 106 => 100 | 213 => 128 | 265 => 167 | n => n, fun | 9 => 9 | 3 => 3 | n => n, fun | n => n⟩
theorem Tryz.lays106 : Go.Proofs.Lays.n106 Tryz.prog Tryz.lays106_ren := {
  mixed := by kernel_rfl
  f106 := Tryz.func100.trans (congrArg some (by kernel_rfl))
  f213 := Tryz.func128.trans (congrArg some (by kernel_rfl))
  f265 := Tryz.func167.trans (congrArg some (by kernel_rfl))
  t3 := Tryz.underlying3
  a3 := Tryz.isAgg3
  z3 := Tryz.sizeOf3
  v3 := Tryz.zeroValue3
  t9 := Tryz.underlying9
  a9 := Tryz.isAgg9
  z9 := Tryz.sizeOf9
  v9 := Tryz.zeroValue9 }
open Go.RowKit in
theorem Tryz.strings_Compare (a b : ByteArray) (w : World) :
    Calls Tryz.prog 100 #[.string a, .string b] w fun e w' => e = .returned (.int .i64 (Lib.compareBytes a.data.toList b.data.toList)) ∧ w' = w := Any.strings_Compare Tryz.lays106 a b w
def Tryz.lays103_ren : Go.Shelf.Ren := ⟨fun | 103 => 97 | 210 => 125 | 206 => 166 | n => n, fun | 9 => 9 | 4 => 4 | 24 => 141 | 3 => 3 | n => n, fun | n => n⟩
theorem Tryz.lays103 : Go.Proofs.Lays.n103 Tryz.prog Tryz.lays103_ren := {
  mixed := by kernel_rfl
  f103 := Tryz.func97.trans (congrArg some (by kernel_rfl))
  f206 := Tryz.func166.trans (congrArg some (by kernel_rfl))
  f210 := Tryz.func125.trans (congrArg some (by kernel_rfl))
  t3 := Tryz.underlying3
  a3 := Tryz.isAgg3
  z3 := Tryz.sizeOf3
  v3 := Tryz.zeroValue3
  t4 := Tryz.underlying4
  a4 := Tryz.isAgg4
  z4 := Tryz.sizeOf4
  v4 := Tryz.zeroValue4
  t9 := Tryz.underlying9
  a9 := Tryz.isAgg9
  z9 := Tryz.sizeOf9
  v9 := Tryz.zeroValue9
  t24 := Tryz.underlying141
  a24 := Tryz.isAgg141
  z24 := Tryz.sizeOf141
  v24 := Tryz.zeroValue141 }
open Go.RowKit in
theorem Tryz.strings_CutPrefix (s p : ByteArray) (w : World) :
    Calls Tryz.prog 97 #[.string s, .string p] w fun e w' => e = .returned (.tuple #[.string ⟨(Lib.trimPrefix s.data.toList p.data.toList).toArray⟩, .bool (Lib.hasPrefix s.data.toList p.data.toList)]) ∧ w' = w := Any.strings_CutPrefix Tryz.lays103 s p w
def Tryz.lays172_ren : Go.Shelf.Ren := ⟨fun | 172 => 129 | 244 => 168 | 245 => 169 | 247 => 185 | 279 => 186 | 280 => 187 | 281 => 188 | 282 => 189 | 287 => 170 | 316 => 199 | 171 => 107 | 205 => 200 | 321 => 190 | 322 => 191 | 243 => 138 | 246 => 174 | 283 => 193 | 284 => 194 | 285 => 195 | 286 => 196 | 129 => 152 | 317 => 201 | 318 => 202 | 319 => 203 | 320 => 204 | 337 => 205 | 338 => 206 | n => n, fun | 9 => 9 | 3 => 3 | 75 => 176 | 76 => 177 | 4 => 4 | 5 => 5 | 167 => 229 | 37 => 188 | 0 => 0 | 85 => 230 | 2 => 2 | 168 => 232 | 53 => 179 | 175 => 180 | 46 => 167 | 210 => 249 | 127 => 217 | 145 => 256 | 143 => 254 | 21 => 21 | 171 => 239 | 173 => 241 | 212 => 252 | 51 => 206 | 20 => 20 | 213 => 253 | 232 => 257 | 233 => 258 | 80 => 193 | n => n, fun | 15 => 1 | 16 => 2 | 17 => 3 | 18 => 4 | 19 => 5 | n => n⟩
theorem Tryz.lays172 : Go.Proofs.Lays.n172 Tryz.prog Tryz.lays172_ren := {
  mixed := by kernel_rfl
  f129 := Tryz.func152.trans (congrArg some (by kernel_rfl))
  f171 := Tryz.func107.trans (congrArg some (by kernel_rfl))
  f172 := Tryz.func129.trans (congrArg some (by kernel_rfl))
  f205 := Tryz.func200.trans (congrArg some (by kernel_rfl))
  f243 := Tryz.func138.trans (congrArg some (by kernel_rfl))
  f244 := Tryz.func168.trans (congrArg some (by kernel_rfl))
  f245 := Tryz.func169.trans (congrArg some (by kernel_rfl))
  f246 := Tryz.func174.trans (congrArg some (by kernel_rfl))
  f247 := Tryz.func185.trans (congrArg some (by kernel_rfl))
  f279 := Tryz.func186.trans (congrArg some (by kernel_rfl))
  f280 := Tryz.func187.trans (congrArg some (by kernel_rfl))
  f281 := Tryz.func188.trans (congrArg some (by kernel_rfl))
  f282 := Tryz.func189.trans (congrArg some (by kernel_rfl))
  f283 := Tryz.func193.trans (congrArg some (by kernel_rfl))
  f284 := Tryz.func194.trans (congrArg some (by kernel_rfl))
  f285 := Tryz.func195.trans (congrArg some (by kernel_rfl))
  f286 := Tryz.func196.trans (congrArg some (by kernel_rfl))
  f287 := Tryz.func170.trans (congrArg some (by kernel_rfl))
  f316 := Tryz.func199.trans (congrArg some (by kernel_rfl))
  f317 := Tryz.func201.trans (congrArg some (by kernel_rfl))
  f318 := Tryz.func202.trans (congrArg some (by kernel_rfl))
  f319 := Tryz.func203.trans (congrArg some (by kernel_rfl))
  f320 := Tryz.func204.trans (congrArg some (by kernel_rfl))
  f321 := Tryz.func190.trans (congrArg some (by kernel_rfl))
  f322 := Tryz.func191.trans (congrArg some (by kernel_rfl))
  f337 := Tryz.func205.trans (congrArg some (by kernel_rfl))
  f338 := Tryz.func206.trans (congrArg some (by kernel_rfl))
  t0 := Tryz.underlying0
  a0 := Tryz.isAgg0
  z0 := Tryz.sizeOf0
  v0 := Tryz.zeroValue0
  t2 := Tryz.underlying2
  a2 := Tryz.isAgg2
  z2 := Tryz.sizeOf2
  v2 := Tryz.zeroValue2
  t3 := Tryz.underlying3
  a3 := Tryz.isAgg3
  z3 := Tryz.sizeOf3
  v3 := Tryz.zeroValue3
  t4 := Tryz.underlying4
  a4 := Tryz.isAgg4
  z4 := Tryz.sizeOf4
  v4 := Tryz.zeroValue4
  t5 := Tryz.underlying5
  a5 := Tryz.isAgg5
  z5 := Tryz.sizeOf5
  v5 := Tryz.zeroValue5
  t9 := Tryz.underlying9
  a9 := Tryz.isAgg9
  z9 := Tryz.sizeOf9
  v9 := Tryz.zeroValue9
  t20 := Tryz.underlying20
  a20 := Tryz.isAgg20
  z20 := Tryz.sizeOf20
  v20 := Tryz.zeroValue20
  t21 := Tryz.underlying21
  a21 := Tryz.isAgg21
  z21 := Tryz.sizeOf21
  v21 := Tryz.zeroValue21
  t37 := Tryz.underlying188
  a37 := Tryz.isAgg188
  z37 := Tryz.sizeOf188
  v37 := Tryz.zeroValue188
  t46 := Tryz.underlying167
  a46 := Tryz.isAgg167
  z46 := Tryz.sizeOf167
  v46 := Tryz.zeroValue167
  t51 := Tryz.underlying206
  a51 := Tryz.isAgg206
  z51 := Tryz.sizeOf206
  v51 := Tryz.zeroValue206
  t53 := Tryz.underlying179
  a53 := Tryz.isAgg179
  z53 := Tryz.sizeOf179
  v53 := Tryz.zeroValue179
  t75 := Tryz.underlying176
  a75 := Tryz.isAgg176
  z75 := Tryz.sizeOf176
  v75 := Tryz.zeroValue176
  t76 := Tryz.underlying177
  a76 := Tryz.isAgg177
  z76 := Tryz.sizeOf177
  v76 := Tryz.zeroValue177
  t85 := Tryz.underlying230
  a85 := Tryz.isAgg230
  z85 := Tryz.sizeOf230
  v85 := Tryz.zeroValue230
  t127 := Tryz.underlying217
  a127 := Tryz.isAgg217
  z127 := Tryz.sizeOf217
  v127 := Tryz.zeroValue217
  t143 := Tryz.underlying254
  a143 := Tryz.isAgg254
  z143 := Tryz.sizeOf254
  v143 := Tryz.zeroValue254
  t145 := Tryz.underlying256
  a145 := Tryz.isAgg256
  z145 := Tryz.sizeOf256
  v145 := Tryz.zeroValue256
  t167 := Tryz.underlying229
  a167 := Tryz.isAgg229
  z167 := Tryz.sizeOf229
  v167 := Tryz.zeroValue229
  t168 := Tryz.underlying232
  a168 := Tryz.isAgg232
  z168 := Tryz.sizeOf232
  v168 := Tryz.zeroValue232
  t171 := Tryz.underlying239
  a171 := Tryz.isAgg239
  z171 := Tryz.sizeOf239
  v171 := Tryz.zeroValue239
  t173 := Tryz.underlying241
  a173 := Tryz.isAgg241
  z173 := Tryz.sizeOf241
  v173 := Tryz.zeroValue241
  t175 := Tryz.underlying180
  a175 := Tryz.isAgg180
  z175 := Tryz.sizeOf180
  v175 := Tryz.zeroValue180
  t210 := Tryz.underlying249
  a210 := Tryz.isAgg249
  z210 := Tryz.sizeOf249
  v210 := Tryz.zeroValue249
  t212 := Tryz.underlying252
  a212 := Tryz.isAgg252
  z212 := Tryz.sizeOf252
  v212 := Tryz.zeroValue252
  t213 := Tryz.underlying253
  a213 := Tryz.isAgg253
  z213 := Tryz.sizeOf253
  t232 := Tryz.underlying257
  a232 := Tryz.isAgg257
  z232 := Tryz.sizeOf257
  v232 := Tryz.zeroValue257
  t233 := Tryz.underlying258
  a233 := Tryz.isAgg258
  z233 := Tryz.sizeOf258
  v233 := Tryz.zeroValue258
  g15 := by kernel_rfl
  g16 := by kernel_rfl
  g17 := by kernel_rfl
  g18 := by kernel_rfl
  g19 := by kernel_rfl }
open Go.RowKit in
theorem Tryz.strconv_Atoi (s : ByteArray) (n : Int) (hl : s.size ≤ 18) (h : Lib.atoi s.data.toList = some n) (w : World) :
    Calls Tryz.prog 129 #[.string s] w fun e w' => e = .returned (.tuple #[.int .i64 n, .nilIface]) ∧ ∃ t, w' = Lib.bytesWorld w 5 t := Any.strconv_Atoi Tryz.lays172 s n hl h w
def Tryz.lays283_ren : Go.Shelf.Ren := ⟨fun | 283 => 193 | n => n, fun | 3 => 3 | 9 => 9 | 4 => 4 | n => n, fun | n => n⟩
theorem Tryz.lays283 : Go.Proofs.Lays.n283 Tryz.prog Tryz.lays283_ren := {
  mixed := by kernel_rfl
  f283 := Tryz.func193.trans (congrArg some (by kernel_rfl))
  t3 := Tryz.underlying3
  a3 := Tryz.isAgg3
  z3 := Tryz.sizeOf3
  v3 := Tryz.zeroValue3
  t4 := Tryz.underlying4
  a4 := Tryz.isAgg4
  z4 := Tryz.sizeOf4
  v4 := Tryz.zeroValue4
  t9 := Tryz.underlying9
  a9 := Tryz.isAgg9
  z9 := Tryz.sizeOf9
  v9 := Tryz.zeroValue9 }
open Go.Lib in
theorem Tryz.internal_strconv_small (i : Nat) (h : i < 100) (w : World) :
    Calls Tryz.prog 193 #[.int .i64 i] w fun e w' => e = .returned (.string ⟨(Lib.decDigits i).toArray⟩) ∧ w' = w := Any.internal_strconv_small Tryz.lays283 i h w
def Tryz.laysM284_ren : Go.Shelf.Ren := ⟨fun | 284 => 194 | 129 => 152 | 317 => 201 | 318 => 202 | n => n, fun | 53 => 179 | 3 => 3 | 212 => 252 | 0 => 0 | 4 => 4 | 46 => 167 | 5 => 5 | 9 => 9 | n => n, fun | 17 => 3 | n => n⟩
theorem Tryz.laysM284 : Go.Proofs.LaysM.n284 Tryz.prog Tryz.laysM284_ren := {
  mixed := by kernel_rfl
  f129 := Tryz.func152.trans (congrArg some (by kernel_rfl))
  f284 := Tryz.func194.trans (congrArg some (by kernel_rfl))
  f317 := Tryz.func201.trans (congrArg some (by kernel_rfl))
  f318 := Tryz.func202.trans (congrArg some (by kernel_rfl))
  t0 := Tryz.underlying0
  a0 := Tryz.isAgg0
  z0 := Tryz.sizeOf0
  v0 := Tryz.zeroValue0
  t3 := Tryz.underlying3
  a3 := Tryz.isAgg3
  z3 := Tryz.sizeOf3
  v3 := Tryz.zeroValue3
  t4 := Tryz.underlying4
  a4 := Tryz.isAgg4
  z4 := Tryz.sizeOf4
  v4 := Tryz.zeroValue4
  t5 := Tryz.underlying5
  a5 := Tryz.isAgg5
  z5 := Tryz.sizeOf5
  v5 := Tryz.zeroValue5
  t9 := Tryz.underlying9
  a9 := Tryz.isAgg9
  z9 := Tryz.sizeOf9
  v9 := Tryz.zeroValue9
  t46 := Tryz.underlying167
  a46 := Tryz.isAgg167
  z46 := Tryz.sizeOf167
  v46 := Tryz.zeroValue167
  t53 := Tryz.underlying179
  a53 := Tryz.isAgg179
  z53 := Tryz.sizeOf179
  v53 := Tryz.zeroValue179
  t212 := Tryz.underlying252
  a212 := Tryz.isAgg252
  z212 := Tryz.sizeOf252
  v212 := Tryz.zeroValue252
  g17 := by kernel_rfl
  i0 := by kernel_rfl
  i3 := by kernel_rfl
  i4 := by kernel_rfl
  i5 := by kernel_rfl
  i9 := by kernel_rfl
  i46 := by kernel_rfl
  i53 := by kernel_rfl
  i212 := by kernel_rfl
  m17 := by kernel_rfl }
open Go.Lib in
theorem Tryz.internal_strconv_numDigits (u : Nat) (h1 : 1 ≤ u) (h2 : u < 18446744073709551616) (w : World) (htab : Lib.TabIs Tryz.prog w "internal/strconv.uint64pow10" .u64 Lib.pow10Tab) :
    Calls Tryz.prog 194 #[.int .u64 u] w fun e w' => e = .returned (.int .i64 (Lib.nDigits u)) ∧ w' = w := Any.internal_strconv_numDigits Tryz.laysM284 u h1 h2 w htab
def Tryz.lays285_ren : Go.Shelf.Ren := ⟨fun | 285 => 195 | n => n, fun | 37 => 188 | 53 => 179 | 3 => 3 | 4 => 4 | 51 => 206 | 9 => 9 | 5 => 5 | 0 => 0 | n => n, fun | n => n⟩
theorem Tryz.lays285 : Go.Proofs.Lays.n285 Tryz.prog Tryz.lays285_ren := {
  mixed := by kernel_rfl
  f285 := Tryz.func195.trans (congrArg some (by kernel_rfl))
  t0 := Tryz.underlying0
  a0 := Tryz.isAgg0
  z0 := Tryz.sizeOf0
  v0 := Tryz.zeroValue0
  t3 := Tryz.underlying3
  a3 := Tryz.isAgg3
  z3 := Tryz.sizeOf3
  v3 := Tryz.zeroValue3
  t4 := Tryz.underlying4
  a4 := Tryz.isAgg4
  z4 := Tryz.sizeOf4
  v4 := Tryz.zeroValue4
  t5 := Tryz.underlying5
  a5 := Tryz.isAgg5
  z5 := Tryz.sizeOf5
  v5 := Tryz.zeroValue5
  t9 := Tryz.underlying9
  a9 := Tryz.isAgg9
  z9 := Tryz.sizeOf9
  v9 := Tryz.zeroValue9
  t37 := Tryz.underlying188
  a37 := Tryz.isAgg188
  z37 := Tryz.sizeOf188
  v37 := Tryz.zeroValue188
  t51 := Tryz.underlying206
  a51 := Tryz.isAgg206
  z51 := Tryz.sizeOf206
  v51 := Tryz.zeroValue206
  t53 := Tryz.underlying179
  a53 := Tryz.isAgg179
  z53 := Tryz.sizeOf179
  v53 := Tryz.zeroValue179 }
open Go.RowKit Go.Sort Go.Lib in
theorem Tryz.internal_strconv_formatBase10 (blk off cap : Nat) (u : Nat) (d : Array UInt8) (w : World) (hH : Holds (fun (b : UInt8) => Value.int .u8 (b.toNat : Int)) w blk off d) (hu : u < 10 ^ d.size) (hu64 : u < 18446744073709551616) (hsz : d.size < 4611686018427387904) :
    Calls Tryz.prog 195 #[.slice (some ⟨blk, off, none⟩) d.size cap, .int .u64 u] w fun e w' =>
      e = .returned (.tuple #[]) ∧ ∃ (n v' : Nat) (dk : Array UInt8), w' = (putRow (fun (b : UInt8) => Value.int .u8 (b.toNat : Int)) w blk off dk).drewN n ∧ FmtInv d.size u 0 v' dk := Any.internal_strconv_formatBase10 Tryz.lays285 blk off cap u d w hH hu hu64 hsz
def Tryz.laysM171_ren : Go.Shelf.Ren := ⟨fun | 171 => 107 | 243 => 138 | 246 => 174 | 283 => 193 | 284 => 194 | 285 => 195 | 286 => 196 | 129 => 152 | 317 => 201 | 318 => 202 | 319 => 203 | 320 => 204 | 337 => 205 | 338 => 206 | n => n, fun | 3 => 3 | 9 => 9 | 2 => 2 | 4 => 4 | 171 => 239 | 0 => 0 | 53 => 179 | 37 => 188 | 5 => 5 | 173 => 241 | 212 => 252 | 51 => 206 | 20 => 20 | 213 => 253 | 46 => 167 | 232 => 257 | 233 => 258 | n => n, fun | 17 => 3 | 18 => 4 | 19 => 5 | n => n⟩
theorem Tryz.laysM171 : Go.Proofs.LaysM.n171 Tryz.prog Tryz.laysM171_ren := {
  mixed := by kernel_rfl
  f129 := Tryz.func152.trans (congrArg some (by kernel_rfl))
  f171 := Tryz.func107.trans (congrArg some (by kernel_rfl))
  f243 := Tryz.func138.trans (congrArg some (by kernel_rfl))
  f246 := Tryz.func174.trans (congrArg some (by kernel_rfl))
  f283 := Tryz.func193.trans (congrArg some (by kernel_rfl))
  f284 := Tryz.func194.trans (congrArg some (by kernel_rfl))
  f285 := Tryz.func195.trans (congrArg some (by kernel_rfl))
  f286 := Tryz.func196.trans (congrArg some (by kernel_rfl))
  f317 := Tryz.func201.trans (congrArg some (by kernel_rfl))
  f318 := Tryz.func202.trans (congrArg some (by kernel_rfl))
  f319 := Tryz.func203.trans (congrArg some (by kernel_rfl))
  f320 := Tryz.func204.trans (congrArg some (by kernel_rfl))
  f337 := Tryz.func205.trans (congrArg some (by kernel_rfl))
  f338 := Tryz.func206.trans (congrArg some (by kernel_rfl))
  t0 := Tryz.underlying0
  a0 := Tryz.isAgg0
  z0 := Tryz.sizeOf0
  v0 := Tryz.zeroValue0
  t2 := Tryz.underlying2
  a2 := Tryz.isAgg2
  z2 := Tryz.sizeOf2
  v2 := Tryz.zeroValue2
  t3 := Tryz.underlying3
  a3 := Tryz.isAgg3
  z3 := Tryz.sizeOf3
  v3 := Tryz.zeroValue3
  t4 := Tryz.underlying4
  a4 := Tryz.isAgg4
  z4 := Tryz.sizeOf4
  v4 := Tryz.zeroValue4
  t5 := Tryz.underlying5
  a5 := Tryz.isAgg5
  z5 := Tryz.sizeOf5
  v5 := Tryz.zeroValue5
  t9 := Tryz.underlying9
  a9 := Tryz.isAgg9
  z9 := Tryz.sizeOf9
  v9 := Tryz.zeroValue9
  t20 := Tryz.underlying20
  a20 := Tryz.isAgg20
  z20 := Tryz.sizeOf20
  v20 := Tryz.zeroValue20
  t37 := Tryz.underlying188
  a37 := Tryz.isAgg188
  z37 := Tryz.sizeOf188
  v37 := Tryz.zeroValue188
  t46 := Tryz.underlying167
  a46 := Tryz.isAgg167
  z46 := Tryz.sizeOf167
  v46 := Tryz.zeroValue167
  t51 := Tryz.underlying206
  a51 := Tryz.isAgg206
  z51 := Tryz.sizeOf206
  v51 := Tryz.zeroValue206
  t53 := Tryz.underlying179
  a53 := Tryz.isAgg179
  z53 := Tryz.sizeOf179
  v53 := Tryz.zeroValue179
  t171 := Tryz.underlying239
  a171 := Tryz.isAgg239
  z171 := Tryz.sizeOf239
  v171 := Tryz.zeroValue239
  t173 := Tryz.underlying241
  a173 := Tryz.isAgg241
  z173 := Tryz.sizeOf241
  v173 := Tryz.zeroValue241
  t212 := Tryz.underlying252
  a212 := Tryz.isAgg252
  z212 := Tryz.sizeOf252
  v212 := Tryz.zeroValue252
  t213 := Tryz.underlying253
  a213 := Tryz.isAgg253
  z213 := Tryz.sizeOf253
  t232 := Tryz.underlying257
  a232 := Tryz.isAgg257
  z232 := Tryz.sizeOf257
  v232 := Tryz.zeroValue257
  t233 := Tryz.underlying258
  a233 := Tryz.isAgg258
  z233 := Tryz.sizeOf258
  v233 := Tryz.zeroValue258
  g17 := by kernel_rfl
  g18 := by kernel_rfl
  g19 := by kernel_rfl
  i0 := by kernel_rfl
  i2 := by kernel_rfl
  i3 := by kernel_rfl
  i4 := by kernel_rfl
  i5 := by kernel_rfl
  i9 := by kernel_rfl
  i20 := by kernel_rfl
  i37 := by kernel_rfl
  i46 := by kernel_rfl
  i51 := by kernel_rfl
  i53 := by kernel_rfl
  i171 := by kernel_rfl
  i173 := by kernel_rfl
  i212 := by kernel_rfl
  i232 := by kernel_rfl
  i233 := by kernel_rfl
  m17 := by kernel_rfl
  m18 := by kernel_rfl
  m19 := by kernel_rfl }
open Go.RowKit Go.Sort Go.Lib in
theorem Tryz.strconv_Itoa (n : Int) (h0 : -9223372036854775808 ≤ n) (h1 : n ≤ 9223372036854775807) (w : World) (htab : Lib.TabIs Tryz.prog w "internal/strconv.uint64pow10" .u64 Lib.pow10Tab) :
    Calls Tryz.prog 107 #[.int .i64 n] w fun e w' => e = .returned (.string ⟨(Lib.itoa n).toArray⟩) ∧ ∃ k os, w' = grow (w.drewN k) os := Any.strconv_Itoa Tryz.laysM171 n h0 h1 w htab
def Tryz.laysPu14_ren : Go.Shelf.Ren := ⟨fun | 14 => 130 | 16 => 170 | 17 => 169 | 19 => 190 | 20 => 191 | 21 => 186 | 22 => 187 | 23 => 188 | 24 => 189 | 25 => 199 | 27 => 107 | 26 => 200 | 28 => 138 | 29 => 174 | 30 => 193 | 31 => 194 | 32 => 195 | 33 => 196 | 35 => 152 | 34 => 201 | 36 => 202 | 37 => 203 | 38 => 204 | 39 => 205 | 40 => 206 | n => n, fun | 9 => 9 | 3 => 3 | 22 => 179 | 24 => 176 | 25 => 180 | 4 => 4 | 34 => 229 | 5 => 5 | 36 => 167 | 37 => 188 | 0 => 0 | 39 => 232 | 21 => 21 | 44 => 249 | 47 => 217 | 50 => 256 | 48 => 254 | 2 => 2 | 52 => 239 | 55 => 241 | 59 => 252 | 60 => 206 | 20 => 20 | 61 => 253 | 65 => 257 | 66 => 258 | 67 => 193 | n => n, fun | 0 => 1 | 1 => 2 | 2 => 3 | 3 => 4 | 4 => 5 | n => n⟩
theorem Tryz.laysPu14 : Go.Proofs.LaysPu.n14 Tryz.prog Tryz.laysPu14_ren := {
  mixed := by kernel_rfl
  f14 := Tryz.func130.trans (congrArg some (by kernel_rfl))
  f16 := Tryz.func170.trans (congrArg some (by kernel_rfl))
  f17 := Tryz.func169.trans (congrArg some (by kernel_rfl))
  f19 := Tryz.func190.trans (congrArg some (by kernel_rfl))
  f20 := Tryz.func191.trans (congrArg some (by kernel_rfl))
  f21 := Tryz.func186.trans (congrArg some (by kernel_rfl))
  f22 := Tryz.func187.trans (congrArg some (by kernel_rfl))
  f23 := Tryz.func188.trans (congrArg some (by kernel_rfl))
  f24 := Tryz.func189.trans (congrArg some (by kernel_rfl))
  f25 := Tryz.func199.trans (congrArg some (by kernel_rfl))
  f26 := Tryz.func200.trans (congrArg some (by kernel_rfl))
  f27 := Tryz.func107.trans (congrArg some (by kernel_rfl))
  f28 := Tryz.func138.trans (congrArg some (by kernel_rfl))
  f29 := Tryz.func174.trans (congrArg some (by kernel_rfl))
  f30 := Tryz.func193.trans (congrArg some (by kernel_rfl))
  f31 := Tryz.func194.trans (congrArg some (by kernel_rfl))
  f32 := Tryz.func195.trans (congrArg some (by kernel_rfl))
  f33 := Tryz.func196.trans (congrArg some (by kernel_rfl))
  f34 := Tryz.func201.trans (congrArg some (by kernel_rfl))
  f35 := Tryz.func152.trans (congrArg some (by kernel_rfl))
  f36 := Tryz.func202.trans (congrArg some (by kernel_rfl))
  f37 := Tryz.func203.trans (congrArg some (by kernel_rfl))
  f38 := Tryz.func204.trans (congrArg some (by kernel_rfl))
  f39 := Tryz.func205.trans (congrArg some (by kernel_rfl))
  f40 := Tryz.func206.trans (congrArg some (by kernel_rfl))
  t0 := Tryz.underlying0
  a0 := Tryz.isAgg0
  z0 := Tryz.sizeOf0
  v0 := Tryz.zeroValue0
  i0 := by kernel_rfl
  t2 := Tryz.underlying2
  a2 := Tryz.isAgg2
  z2 := Tryz.sizeOf2
  v2 := Tryz.zeroValue2
  i2 := by kernel_rfl
  t3 := Tryz.underlying3
  a3 := Tryz.isAgg3
  z3 := Tryz.sizeOf3
  v3 := Tryz.zeroValue3
  i3 := by kernel_rfl
  t4 := Tryz.underlying4
  a4 := Tryz.isAgg4
  z4 := Tryz.sizeOf4
  v4 := Tryz.zeroValue4
  i4 := by kernel_rfl
  t5 := Tryz.underlying5
  a5 := Tryz.isAgg5
  z5 := Tryz.sizeOf5
  v5 := Tryz.zeroValue5
  i5 := by kernel_rfl
  t9 := Tryz.underlying9
  a9 := Tryz.isAgg9
  z9 := Tryz.sizeOf9
  v9 := Tryz.zeroValue9
  i9 := by kernel_rfl
  t20 := Tryz.underlying20
  a20 := Tryz.isAgg20
  z20 := Tryz.sizeOf20
  v20 := Tryz.zeroValue20
  i20 := by kernel_rfl
  t21 := Tryz.underlying21
  a21 := Tryz.isAgg21
  z21 := Tryz.sizeOf21
  v21 := Tryz.zeroValue21
  i21 := by kernel_rfl
  t22 := Tryz.underlying179
  a22 := Tryz.isAgg179
  z22 := Tryz.sizeOf179
  v22 := Tryz.zeroValue179
  i22 := by kernel_rfl
  t24 := Tryz.underlying176
  a24 := Tryz.isAgg176
  z24 := Tryz.sizeOf176
  v24 := Tryz.zeroValue176
  i24 := by kernel_rfl
  t25 := Tryz.underlying180
  a25 := Tryz.isAgg180
  z25 := Tryz.sizeOf180
  v25 := Tryz.zeroValue180
  i25 := by kernel_rfl
  t34 := Tryz.underlying229
  a34 := Tryz.isAgg229
  z34 := Tryz.sizeOf229
  v34 := Tryz.zeroValue229
  i34 := by kernel_rfl
  c34 := by kernel_rfl
  t36 := Tryz.underlying167
  a36 := Tryz.isAgg167
  z36 := Tryz.sizeOf167
  v36 := Tryz.zeroValue167
  i36 := by kernel_rfl
  t37 := Tryz.underlying188
  a37 := Tryz.isAgg188
  z37 := Tryz.sizeOf188
  v37 := Tryz.zeroValue188
  i37 := by kernel_rfl
  t39 := Tryz.underlying232
  a39 := Tryz.isAgg232
  z39 := Tryz.sizeOf232
  v39 := Tryz.zeroValue232
  i39 := by kernel_rfl
  t44 := Tryz.underlying249
  a44 := Tryz.isAgg249
  z44 := Tryz.sizeOf249
  v44 := Tryz.zeroValue249
  i44 := by kernel_rfl
  t47 := Tryz.underlying217
  a47 := Tryz.isAgg217
  z47 := Tryz.sizeOf217
  v47 := Tryz.zeroValue217
  i47 := by kernel_rfl
  t48 := Tryz.underlying254
  a48 := Tryz.isAgg254
  z48 := Tryz.sizeOf254
  v48 := Tryz.zeroValue254
  i48 := by kernel_rfl
  t50 := Tryz.underlying256
  a50 := Tryz.isAgg256
  z50 := Tryz.sizeOf256
  v50 := Tryz.zeroValue256
  i50 := by kernel_rfl
  t52 := Tryz.underlying239
  a52 := Tryz.isAgg239
  z52 := Tryz.sizeOf239
  v52 := Tryz.zeroValue239
  i52 := by kernel_rfl
  t55 := Tryz.underlying241
  a55 := Tryz.isAgg241
  z55 := Tryz.sizeOf241
  v55 := Tryz.zeroValue241
  i55 := by kernel_rfl
  t59 := Tryz.underlying252
  a59 := Tryz.isAgg252
  z59 := Tryz.sizeOf252
  v59 := Tryz.zeroValue252
  i59 := by kernel_rfl
  t60 := Tryz.underlying206
  a60 := Tryz.isAgg206
  z60 := Tryz.sizeOf206
  v60 := Tryz.zeroValue206
  i60 := by kernel_rfl
  t61 := Tryz.underlying253
  a61 := Tryz.isAgg253
  z61 := Tryz.sizeOf253
  t65 := Tryz.underlying257
  a65 := Tryz.isAgg257
  z65 := Tryz.sizeOf257
  v65 := Tryz.zeroValue257
  i65 := by kernel_rfl
  t66 := Tryz.underlying258
  a66 := Tryz.isAgg258
  z66 := Tryz.sizeOf258
  v66 := Tryz.zeroValue258
  i66 := by kernel_rfl
  t67 := Tryz.underlying193
  a67 := Tryz.isAgg193
  z67 := Tryz.sizeOf193
  v67 := Tryz.zeroValue193
  i67 := by kernel_rfl
  g0 := by kernel_rfl
  m0 := by kernel_rfl
  g1 := by kernel_rfl
  m1 := by kernel_rfl
  g2 := by kernel_rfl
  m2 := by kernel_rfl
  g3 := by kernel_rfl
  m3 := by kernel_rfl
  g4 := by kernel_rfl
  m4 := by kernel_rfl }
open Go.RowKit in
theorem Tryz.strconv_ParseUint_10_at64_ok (s : ByteArray) (hmax : s.size ≤ 9223372036854775806) (u : Nat) (h : Lib.parseUintB 64 s.data.toList = .ok u) (w : World) :
    Calls Tryz.prog 130 #[.string s, .int .i64 10, .int .i64 64] w fun e w' => e = .returned (.tuple #[.int .u64 u, .nilIface]) ∧ (w' = w ∨ w' = Lib.bytesWorld w 5 s) := Any.strconv_ParseUint_10_at64_ok Tryz.laysPu14 s hmax u h w
def Tryz.lays145_ren : Go.Shelf.Ren := ⟨fun | 145 => 49 | 220 => 96 | 219 => 124 | 217 => 162 | 225 => 163 | 224 => 164 | 267 => 165 | 266 => 183 | 314 => 184 | n => n, fun | 9 => 9 | 4 => 4 | 59 => 93 | 3 => 3 | 5 => 5 | 46 => 167 | 146 => 227 | 51 => 206 | n => n, fun | 1 => 0 | n => n⟩
theorem Tryz.lays145 : Go.Proofs.Lays.n145 Tryz.prog Tryz.lays145_ren := {
  mixed := by kernel_rfl
  f145 := Tryz.func49.trans (congrArg some (by kernel_rfl))
  f217 := Tryz.func162.trans (congrArg some (by kernel_rfl))
  f219 := Tryz.func124.trans (congrArg some (by kernel_rfl))
  f220 := Tryz.func96.trans (congrArg some (by kernel_rfl))
  f224 := Tryz.func164.trans (congrArg some (by kernel_rfl))
  f225 := Tryz.func163.trans (congrArg some (by kernel_rfl))
  f266 := Tryz.func183.trans (congrArg some (by kernel_rfl))
  f267 := Tryz.func165.trans (congrArg some (by kernel_rfl))
  f314 := Tryz.func184.trans (congrArg some (by kernel_rfl))
  t3 := Tryz.underlying3
  a3 := Tryz.isAgg3
  z3 := Tryz.sizeOf3
  v3 := Tryz.zeroValue3
  t4 := Tryz.underlying4
  a4 := Tryz.isAgg4
  z4 := Tryz.sizeOf4
  v4 := Tryz.zeroValue4
  t5 := Tryz.underlying5
  a5 := Tryz.isAgg5
  z5 := Tryz.sizeOf5
  v5 := Tryz.zeroValue5
  t9 := Tryz.underlying9
  a9 := Tryz.isAgg9
  z9 := Tryz.sizeOf9
  v9 := Tryz.zeroValue9
  t46 := Tryz.underlying167
  a46 := Tryz.isAgg167
  z46 := Tryz.sizeOf167
  v46 := Tryz.zeroValue167
  t51 := Tryz.underlying206
  a51 := Tryz.isAgg206
  z51 := Tryz.sizeOf206
  v51 := Tryz.zeroValue206
  t59 := Tryz.underlying93
  a59 := Tryz.isAgg93
  z59 := Tryz.sizeOf93
  v59 := Tryz.zeroValue93
  t146 := Tryz.underlying227
  a146 := Tryz.isAgg227
  z146 := Tryz.sizeOf227
  v146 := Tryz.zeroValue227
  g1 := by kernel_rfl }
open Go.RowKit Go.Lib in
theorem Tryz.strings_Cut (s sep : ByteArray) (m : Int) (w : World) (hs : s.size < 4294967281) (hm : w.cell? ⟨0, 0, none⟩ = some (.int .i64 m)) :
    Calls Tryz.prog 49 #[.string s, .string sep] w fun e w' => e = .returned (.tuple #[.string ⟨(Lib.cut s.data.toList sep.data.toList).1.toArray⟩, .string ⟨(Lib.cut s.data.toList sep.data.toList).2.1.toArray⟩, .bool (Lib.cut s.data.toList sep.data.toList).2.2]) ∧ ∃ n, w' = w.drewN n := Any.strings_Cut Tryz.lays145 s sep m w hs hm
def Tryz.lays99_ren : Go.Shelf.Ren := ⟨fun | 99 => 126 | 206 => 166 | n => n, fun | 9 => 9 | 4 => 4 | 3 => 3 | n => n, fun | n => n⟩
theorem Tryz.lays99 : Go.Proofs.Lays.n99 Tryz.prog Tryz.lays99_ren := {
  mixed := by kernel_rfl
  f99 := Tryz.func126.trans (congrArg some (by kernel_rfl))
  f206 := Tryz.func166.trans (congrArg some (by kernel_rfl))
  t3 := Tryz.underlying3
  a3 := Tryz.isAgg3
  z3 := Tryz.sizeOf3
  v3 := Tryz.zeroValue3
  t4 := Tryz.underlying4
  a4 := Tryz.isAgg4
  z4 := Tryz.sizeOf4
  v4 := Tryz.zeroValue4
  t9 := Tryz.underlying9
  a9 := Tryz.isAgg9
  z9 := Tryz.sizeOf9
  v9 := Tryz.zeroValue9 }
open Go.RowKit Go.Lib in
theorem Tryz.strings_HasPrefix (s p : ByteArray) (w : World) :
    Calls Tryz.prog 126 #[.string s, .string p] w fun e w' => e = .returned (.bool (Lib.hasPrefix s.data.toList p.data.toList)) ∧ w' = w := Any.strings_HasPrefix Tryz.lays99 s p w
def Tryz.lays101_ren : Go.Shelf.Ren := ⟨fun | 101 => 99 | 208 => 127 | 206 => 166 | n => n, fun | 9 => 9 | 4 => 4 | 3 => 3 | n => n, fun | n => n⟩
theorem Tryz.lays101 : Go.Proofs.Lays.n101 Tryz.prog Tryz.lays101_ren := {
  mixed := by kernel_rfl
  f101 := Tryz.func99.trans (congrArg some (by kernel_rfl))
  f206 := Tryz.func166.trans (congrArg some (by kernel_rfl))
  f208 := Tryz.func127.trans (congrArg some (by kernel_rfl))
  t3 := Tryz.underlying3
  a3 := Tryz.isAgg3
  z3 := Tryz.sizeOf3
  v3 := Tryz.zeroValue3
  t4 := Tryz.underlying4
  a4 := Tryz.isAgg4
  z4 := Tryz.sizeOf4
  v4 := Tryz.zeroValue4
  t9 := Tryz.underlying9
  a9 := Tryz.isAgg9
  z9 := Tryz.sizeOf9
  v9 := Tryz.zeroValue9 }
open Go.RowKit Go.Lib in
theorem Tryz.strings_TrimPrefix (s p : ByteArray) (w : World) :
    Calls Tryz.prog 99 #[.string s, .string p] w fun e w' => e = .returned (.string ⟨(Lib.trimPrefix s.data.toList p.data.toList).toArray⟩) ∧ w' = w := Any.strings_TrimPrefix Tryz.lays101 s p w
end Go.Proofs
namespace Go.Flow
open Go Go.RowKit
theorem body_of {P : Program} {f : FuncId} {fn : Func} (h : P.funcs[f]? = some fn) (hb : fn.body.isSome = true) (hn : (fn.name == "runtime.NumGoroutine") = false) : Body P f := by
  cases e : fn.body with
  | none => rw [e] at hb; cases hb
  | some c => exact ⟨fn, c, h, e, hn⟩
theorem repL_v {E : Env} : ∀ {xs us : List Value}, RepL E (xs.map .v) us → us = xs
  | [], us, h => by cases h; rfl
  | x :: xs, us, h => by
    cases h with
    | cons _ u _ us hx hxs => rw [repL_v hxs, hx.inv_v]
theorem callsTo_v {P : Program} {f : FuncId} (hb : Body P f) (xs : List Value) {r : AV}
    (h : ∀ w : World, Ground0 w → Calls P f xs.toArray w fun e w' => ∃ v, e = .returned v ∧ Below w.heap.size w w' ∧ ∀ E : Env, Rep E r v) : CallsTo P f (xs.map .v) r :=
  ⟨hb, fun w S us hG hS hr => by
    rw [repL_v hr]
    exact (h w hG.here).mono fun e w' ⟨v, h1, h2, h3⟩ => ⟨v, h1, h2, h3 _⟩⟩
theorem below_drewN' (w : World) (n : Nat) : Below w.heap.size w (w.drewN n) := ⟨rfl, rfl, rfl, Nat.le_refl _, fun _ _ => rfl⟩
theorem rep_tup2 (E : Env) (a b : Value) : Rep E (.tup [.v a, .v b]) (.tuple #[a, b]) := .tup [.v a, .v b] [a, b] (.cons _ _ _ _ (.v _) (.cons _ _ _ _ (.v _) .nil))
theorem rep_tup3 (E : Env) (a b c : Value) : Rep E (.tup [.v a, .v b, .v c]) (.tuple #[a, b, c]) := .tup [.v a, .v b, .v c] [a, b, c] (.cons _ _ _ _ (.v _) (.cons _ _ _ _ (.v _) (.cons _ _ _ _ (.v _) .nil)))
end Go.Flow
namespace Go.Flow.Tryz
open Go Go.Proofs Go.RowKit Go.Flow
set_option maxRecDepth 100000
theorem itoa_ok (n : Int) (h0 : -9223372036854775808 ≤ n) (h1 : n ≤ 9223372036854775807) : CallsTo Tryz.prog 107 [iv n] (sv (zT n)) :=
  callsTo_v (body_of Tryz.func107 (by kernel_rfl) (by kernel_rfl)) [.int .i64 n] fun w hG => (Tryz.strconv_Itoa n h0 h1 w hG.pow).mono fun e w' ⟨h1, k, os, h2⟩ =>
    ⟨_, h1, by subst h2; exact Lib.below_grow _ _ (Nat.le_refl _) _ _, fun E => .v _⟩
theorem atoi_ok (l : List UInt8) (n : Int) (hl : l.length ≤ 18) (h : Lib.atoi l = some n) : CallsTo Tryz.prog 129 [sv l] (.tup [iv n, .v .nilIface]) :=
  callsTo_v (body_of Tryz.func129 (by kernel_rfl) (by kernel_rfl)) [.string (bstr l)] fun w hG => (Tryz.strconv_Atoi (bstr l) n hl h w).mono fun e w' ⟨h1, t, h2⟩ =>
    ⟨_, h1, by subst h2; exact Lib.bytesWorld_below _ _ _, fun E => rep_tup2 E _ _⟩
theorem cut_ok (l sep : List UInt8) (hl : l.length < 4294967281) : CallsTo Tryz.prog 49 [sv l, sv sep] (.tup [sv (Lib.cut l sep).1, sv (Lib.cut l sep).2.1, bv (Lib.cut l sep).2.2]) :=
  callsTo_v (body_of Tryz.func49 (by kernel_rfl) (by kernel_rfl)) [.string (bstr l), .string (bstr sep)] fun w hG => by
    obtain ⟨m, hm⟩ := hG.most
    exact (Tryz.strings_Cut (bstr l) (bstr sep) m w hl hm).mono fun e w' ⟨h1, n, h2⟩ => ⟨_, h1, by subst h2; exact below_drewN' _ _, fun E => rep_tup3 E _ _ _⟩
theorem cutPrefix_ok (l p : List UInt8) : CallsTo Tryz.prog 97 [sv l, sv p] (.tup [sv (Lib.trimPrefix l p), bv (Lib.hasPrefix l p)]) :=
  callsTo_v (body_of Tryz.func97 (by kernel_rfl) (by kernel_rfl)) [.string (bstr l), .string (bstr p)] fun w hG => (Tryz.strings_CutPrefix (bstr l) (bstr p) w).mono fun e w' ⟨h1, h2⟩ =>
    ⟨_, h1, by subst h2; exact Below.refl _ _, fun E => rep_tup2 E _ _⟩
theorem trimPrefix_ok (l p : List UInt8) : CallsTo Tryz.prog 99 [sv l, sv p] (sv (Lib.trimPrefix l p)) :=
  callsTo_v (body_of Tryz.func99 (by kernel_rfl) (by kernel_rfl)) [.string (bstr l), .string (bstr p)] fun w hG => (Tryz.strings_TrimPrefix (bstr l) (bstr p) w).mono fun e w' ⟨h1, h2⟩ =>
    ⟨_, h1, by subst h2; exact Below.refl _ _, fun E => .v _⟩
theorem hasPrefix_ok (l p : List UInt8) : CallsTo Tryz.prog 126 [sv l, sv p] (bv (Lib.hasPrefix l p)) :=
  callsTo_v (body_of Tryz.func126 (by kernel_rfl) (by kernel_rfl)) [.string (bstr l), .string (bstr p)] fun w hG => (Tryz.strings_HasPrefix (bstr l) (bstr p) w).mono fun e w' ⟨h1, h2⟩ =>
    ⟨_, h1, by subst h2; exact Below.refl _ _, fun E => .v _⟩
theorem compare_ok (l p : List UInt8) : CallsTo Tryz.prog 100 [sv l, sv p] (iv (Lib.compareBytes l p)) :=
  callsTo_v (body_of Tryz.func100 (by kernel_rfl) (by kernel_rfl)) [.string (bstr l), .string (bstr p)] fun w hG => (Tryz.strings_Compare (bstr l) (bstr p) w).mono fun e w' ⟨h1, h2⟩ =>
    ⟨_, h1, by subst h2; exact Below.refl _ _, fun E => .v _⟩
end Go.Flow.Tryz
namespace Go.Flow.Tryz
open Go Go.Proofs Go.RowKit Go.Flow
set_option maxRecDepth 100000
abbrev sS (num den a b : Int) : List AV := st 35 [iv num, iv den, uu, uu, sv [], iv a, iv b]
theorem small_rounds (num den : Int) : ∀ (m : Nat) (a b : Int), b.natAbs < m → ∃ g : Int, g.natAbs = Nat.gcd a.natAbs b.natAbs ∧
    Rounds Tryz.prog (bodyOf (loopAt Tryz.f60 0)) m (sS num den a b) [] (.exit 0) (sS num den g 0) []
  | 0, _, _, h => absurd h (by omega)
  | m + 1, a, b, h => by
    by_cases hb : b = 0
    · subst hb
      exact ⟨a, by simp, small_end_out num den a 0 m ⟨by decide, trivial⟩⟩
    · have hlt : (a.tmod b).natAbs < b.natAbs := by
        rw [Int.natAbs_tmod]
        exact Nat.mod_lt _ (by omega)
      obtain ⟨g, hg, hr⟩ := small_rounds num den m b (a.tmod b) (by omega)
      refine ⟨g, ?_, small_step_step num den a b m ⟨by simpa using hb, hb, trivial⟩ hr⟩
      rw [hg, Int.natAbs_tmod, Nat.gcd_comm b.natAbs, Nat.gcd_comm a.natAbs, ← Nat.gcd_rec]
def fT (k : Int) (n : Nat) : List UInt8 := rT (k.tdiv (Nat.gcd k.natAbs n)) (n / Nat.gcd k.natAbs n)
theorem tdiv_bound {k : Int} {g M : Nat} (hg : 0 < g) (hk : k.natAbs ≤ M) : (k.tdiv g).natAbs ≤ M := by
  rw [Int.natAbs_tdiv]
  exact Nat.le_trans (Nat.div_le_self _ _) hk
theorem zT_length (n : Int) : (zT n).length ≤ 1 + (nT n.natAbs).length := by
  rcases zT_cases n with ⟨_, h⟩ | ⟨_, h⟩ <;> rw [h] <;> simp <;> omega
theorem max64 : IntKind.i64.max = 9223372036854775807 := by decide
theorem small_ok (num : Int) (den : Nat) (hd : 0 < den) (hn : num.natAbs ≤ 9223372036854775807) (hdm : den ≤ 9223372036854775807) :
    CallsTo Tryz.prog 60 [iv num, iv den] (sv (fT num den)) := by
  obtain ⟨g, hg, hr⟩ := small_rounds num den (den + 1) num den (by simp)
  have hgo : Goes Tryz.prog (loopAt Tryz.f60 0) (sS num den num den) [] (.exit 0) (sS num den g 0) [] := Goes.loop hr
  rw [Int.natAbs_natCast] at hg
  have hG : 0 < Nat.gcd num.natAbs den := Nat.gcd_pos_of_pos_right _ hd
  have hGd : Nat.gcd num.natAbs den ≤ den := Nat.gcd_le_right _ hd
  unfold fT
  generalize Nat.gcd num.natAbs den = G at *
  have htn := tdiv_bound (k := num) hG hn
  have htd : (den : Int).tdiv G = ((den / G : Nat) : Int) := by rw [Int.ofNat_tdiv]
  have hdg : den / G ≤ 9223372036854775807 := Nat.le_trans (Nat.div_le_self _ _) hdm
  generalize den / G = D at *
  generalize hN : num.tdiv G = N at *
  have i1 := itoa_ok N (by omega) (by omega)
  have i2 := itoa_ok D (by omega) (by omega)
  have hl1 := zT_length N
  have hb1 := nT_le (n := N.natAbs) (k := 19) (by omega) (by decide)
  have hb2 := nT_le (n := D) (k := 19) (by omega) (by decide)
  have hz2 : zT (D : Int) = nT D := zT_nat D
  have hjoin : bstr (zT N) ++ { data := #[47] } ++ bstr (zT (D : Int)) = bstr (zT N ++ 47 :: nT D) := by
    show bstr (zT N) ++ bstr [47] ++ bstr (zT (D : Int)) = _
    rw [bstr_append, bstr_append, hz2]
    simp
  have hs2 : ((bstr (zT N) ++ { data := #[47] }).size : Nat) = (zT N).length + 1 := by
    show (bstr (zT N) ++ bstr [47]).size = _
    rw [bstr_append]
    simp
  rcases Int.lt_or_le g 0 with h0 | h0
  · have hgG : -g = (G : Int) := by omega
    by_cases h1 : D = 1
    · have := small_whole_neg_ok num den g (by
        repeat' first | exact AllP.nil | refine AllP.cons ?_ ?_
        all_goals first | exact hgo | (rw [w64n]; omega) | (exact decide_eq_true h0) | (exact decide_eq_false (by omega)) | (rw [hgG, hN]; exact i1) | (rw [hgG, hN, w64]; omega) | (rw [hgG, htd, w64]; omega) | (rw [hgG, htd, h1]; rfl) | omega)
      rw [hgG, hN] at this
      unfold rT
      rw [if_pos h1]
      exact this
    · have := small_frac_neg_ok num den g (by
        repeat' first | exact AllP.nil | refine AllP.cons ?_ ?_
        all_goals first | exact hgo | (rw [w64n]; omega) | (exact decide_eq_true h0) | (exact decide_eq_false (by omega)) | (rw [hgG, hN]; exact i1) | (rw [hgG, htd]; exact i2) | (rw [hgG, hN, w64]; omega) | (rw [hgG, htd, w64]; omega) | omega |
          (rw [hgG, htd]; exact beq_eq_false_iff_ne.2 (by omega)) | (rw [hgG, hN, htd, hs2, max64, hz2, bstr_size]; omega) | (rw [hgG, hN, max64]; show ((((zT N).length + 1 : Nat)) : Int) ≤ _; omega))
      rw [hgG, hN, htd, hjoin] at this
      unfold rT
      rw [if_neg h1]
      exact this
  · have hgG : g = (G : Int) := by omega
    by_cases h1 : D = 1
    · have := small_whole_ok num den g (by
        repeat' first | exact AllP.nil | refine AllP.cons ?_ ?_
        all_goals first | exact hgo | (exact decide_eq_true h0) | (exact decide_eq_false (by omega)) | (rw [hgG, hN]; exact i1) | (rw [hgG, hN, w64]; omega) | (rw [hgG, htd, w64]; omega) | (rw [hgG, htd, h1]; rfl) | omega)
      rw [hgG, hN] at this
      unfold rT
      rw [if_pos h1]
      exact this
    · have := small_frac_ok num den g (by
        repeat' first | exact AllP.nil | refine AllP.cons ?_ ?_
        all_goals first | exact hgo | (exact decide_eq_true h0) | (exact decide_eq_false (by omega)) | (rw [hgG, hN]; exact i1) | (rw [hgG, htd]; exact i2) | (rw [hgG, hN, w64]; omega) | (rw [hgG, htd, w64]; omega) | omega |
          (rw [hgG, htd]; exact beq_eq_false_iff_ne.2 (by omega)) | (rw [hgG, hN, htd, hs2, max64, hz2, bstr_size]; omega) | (rw [hgG, hN, max64]; show ((((zT N).length + 1 : Nat)) : Int) ≤ _; omega))
      rw [hgG, hN, htd, hjoin] at this
      unfold rT
      rw [if_neg h1]
      exact this
end Go.Flow.Tryz
namespace Go.Flow.Tryz
open Go Go.Proofs Go.RowKit Go.Flow
set_option maxRecDepth 100000
theorem quick_plus_whole_ok (s : List UInt8) (num : Int) (i : Int) (h : AllP
    [decide ((↑(ByteArray.size (bstr s)) : Int) > (0 : Int)) = true,
     decide ((↑(ByteArray.size (bstr s)) : Int) > (0 : Int)) = true,
     (0 : Int) ≤ (0 : Int) ∧ (0 : Int) < (↑(ByteArray.size (bstr s)) : Int),
     decide ((↑(ByteArray.size (bstr s)) : Int) > (0 : Int)) = true,
     decide ((↑(ByteArray.size (bstr s)) : Int) > (0 : Int)) = true,
     ((↑(UInt8.toNat (List.getD (bstr s).data.toList (Int.toNat (0 : Int)) (0 : UInt8))) : Int) == (45 : Int)) = false,
     Goes Tryz.prog (loopAt Tryz.f53 (0 : Nat)) (st 73 [sv s, uu, iv 0, iv 0, bv (false), iv 0, bv (false), iv 0]) [] (Ex.exit (0 : Nat)) (st 73 [sv s, uu, iv (num), iv 0, bv (false), iv (i), bv (false), iv 0]) [],
     false = false,
     (i == (↑(ByteArray.size (bstr s)) : Int)) = true]) :
    CallsTo Tryz.prog 53 [sv s] (AV.tup [iv (num), iv 1, bv (true)]) :=
  fn_ok fits hmix Tryz.func53 (by kernel_rfl)
    [Orc.b true, Orc.b true, Orc.b true, Orc.b true, Orc.b false, .s (8 : Nat) (Ex.exit (0 : Nat)) (st 73 [sv s, uu, iv (num), iv 0, bv (false), iv (i), bv (false), iv 0]) [], Orc.b false, Orc.b true] (by kernel_rfl) h
theorem quick_minus_whole_ok (s : List UInt8) (num : Int) (i : Int) (h : AllP
    [decide ((↑(ByteArray.size (bstr s)) : Int) > (0 : Int)) = true,
     decide ((↑(ByteArray.size (bstr s)) : Int) > (0 : Int)) = true,
     (0 : Int) ≤ (0 : Int) ∧ (0 : Int) < (↑(ByteArray.size (bstr s)) : Int),
     decide ((↑(ByteArray.size (bstr s)) : Int) > (0 : Int)) = true,
     decide ((↑(ByteArray.size (bstr s)) : Int) > (0 : Int)) = true,
     ((↑(UInt8.toNat (List.getD (bstr s).data.toList (Int.toNat (0 : Int)) (0 : UInt8))) : Int) == (45 : Int)) = true,
     Goes Tryz.prog (loopAt Tryz.f53 (0 : Nat)) (st 73 [sv s, uu, iv 0, iv 0, bv (false), iv 1, bv (true), iv 1]) [] (Ex.exit (0 : Nat)) (st 73 [sv s, uu, iv (num), iv 0, bv (false), iv (i), bv (true), iv 1]) [],
     true = true,
     IntKind.wrap IntKind.i64 ((0 : Int) - num) = -num,
     (i == (↑(ByteArray.size (bstr s)) : Int)) = true]) :
    CallsTo Tryz.prog 53 [sv s] (AV.tup [iv ((-num)), iv 1, bv (true)]) :=
  fn_ok fits hmix Tryz.func53 (by kernel_rfl)
    [Orc.b true, Orc.b true, Orc.b true, Orc.b true, Orc.b true, .s (8 : Nat) (Ex.exit (0 : Nat)) (st 73 [sv s, uu, iv (num), iv 0, bv (false), iv (i), bv (true), iv 1]) [], Orc.b true, Orc.b true] (by kernel_rfl) h
theorem quick_plus_ok (s : List UInt8) (num : Int) (den : Int) (i : Int) (k : Int) (h : AllP
    [decide ((↑(ByteArray.size (bstr s)) : Int) > (0 : Int)) = true,
     decide ((↑(ByteArray.size (bstr s)) : Int) > (0 : Int)) = true,
     (0 : Int) ≤ (0 : Int) ∧ (0 : Int) < (↑(ByteArray.size (bstr s)) : Int),
     decide ((↑(ByteArray.size (bstr s)) : Int) > (0 : Int)) = true,
     decide ((↑(ByteArray.size (bstr s)) : Int) > (0 : Int)) = true,
     ((↑(UInt8.toNat (List.getD (bstr s).data.toList (Int.toNat (0 : Int)) (0 : UInt8))) : Int) == (45 : Int)) = false,
     Goes Tryz.prog (loopAt Tryz.f53 (0 : Nat)) (st 73 [sv s, uu, iv 0, iv 0, bv (false), iv 0, bv (false), iv 0]) [] (Ex.exit (0 : Nat)) (st 73 [sv s, uu, iv (num), iv 0, bv (false), iv (i), bv (false), iv 0]) [],
     false = false,
     (i == (↑(ByteArray.size (bstr s)) : Int)) = false,
     IntKind.wrap IntKind.i64 (i + (1 : Int)) = i + (1 : Int),
     IntKind.wrap IntKind.i64 (i + (1 : Int)) = i + (1 : Int),
     Goes Tryz.prog (loopAt Tryz.f53 (1 : Nat)) (st 73 [sv s, uu, iv (num), iv 0, bv (false), iv ((i + (1 : Int))), bv (false), iv ((i + (1 : Int)))]) [] (Ex.exit (2 : Nat)) (st 73 [sv s, uu, iv (num), iv (den), bv (false), iv (k), bv (false), iv ((i + (1 : Int)))]) []]) :
    CallsTo Tryz.prog 53 [sv s] (AV.tup [iv (num), iv (den), bv (true)]) :=
  fn_ok fits hmix Tryz.func53 (by kernel_rfl)
    [Orc.b true, Orc.b true, Orc.b true, Orc.b true, Orc.b false, .s (8 : Nat) (Ex.exit (0 : Nat)) (st 73 [sv s, uu, iv (num), iv 0, bv (false), iv (i), bv (false), iv 0]) [], Orc.b false, Orc.b false, .s (8 : Nat) (Ex.exit (2 : Nat)) (st 73 [sv s, uu, iv (num), iv (den), bv (false), iv (k), bv (false), iv ((i + (1 : Int)))]) []] (by kernel_rfl) h
theorem quick_minus_ok (s : List UInt8) (num : Int) (den : Int) (i : Int) (k : Int) (h : AllP
    [decide ((↑(ByteArray.size (bstr s)) : Int) > (0 : Int)) = true,
     decide ((↑(ByteArray.size (bstr s)) : Int) > (0 : Int)) = true,
     (0 : Int) ≤ (0 : Int) ∧ (0 : Int) < (↑(ByteArray.size (bstr s)) : Int),
     decide ((↑(ByteArray.size (bstr s)) : Int) > (0 : Int)) = true,
     decide ((↑(ByteArray.size (bstr s)) : Int) > (0 : Int)) = true,
     ((↑(UInt8.toNat (List.getD (bstr s).data.toList (Int.toNat (0 : Int)) (0 : UInt8))) : Int) == (45 : Int)) = true,
     Goes Tryz.prog (loopAt Tryz.f53 (0 : Nat)) (st 73 [sv s, uu, iv 0, iv 0, bv (false), iv 1, bv (true), iv 1]) [] (Ex.exit (0 : Nat)) (st 73 [sv s, uu, iv (num), iv 0, bv (false), iv (i), bv (true), iv 1]) [],
     true = true,
     IntKind.wrap IntKind.i64 ((0 : Int) - num) = -num,
     (i == (↑(ByteArray.size (bstr s)) : Int)) = false,
     IntKind.wrap IntKind.i64 (i + (1 : Int)) = i + (1 : Int),
     IntKind.wrap IntKind.i64 (i + (1 : Int)) = i + (1 : Int),
     Goes Tryz.prog (loopAt Tryz.f53 (1 : Nat)) (st 73 [sv s, uu, iv ((-num)), iv 0, bv (false), iv ((i + (1 : Int))), bv (true), iv ((i + (1 : Int)))]) [] (Ex.exit (2 : Nat)) (st 73 [sv s, uu, iv ((-num)), iv (den), bv (false), iv (k), bv (true), iv ((i + (1 : Int)))]) []]) :
    CallsTo Tryz.prog 53 [sv s] (AV.tup [iv ((-num)), iv (den), bv (true)]) :=
  fn_ok fits hmix Tryz.func53 (by kernel_rfl)
    [Orc.b true, Orc.b true, Orc.b true, Orc.b true, Orc.b true, .s (8 : Nat) (Ex.exit (0 : Nat)) (st 73 [sv s, uu, iv (num), iv 0, bv (false), iv (i), bv (true), iv 1]) [], Orc.b true, Orc.b false, .s (8 : Nat) (Ex.exit (2 : Nat)) (st 73 [sv s, uu, iv ((-num)), iv (den), bv (false), iv (k), bv (true), iv ((i + (1 : Int)))]) []] (by kernel_rfl) h
theorem quick_step_step (s : List UInt8) (num : Int) (i : Int) (b : Int) (mi : Bool) {ex : Ex} {T2 : List AV} {H2 : Heap} (m : Nat) (h : AllP
    [decide (i < (↑(ByteArray.size (bstr s)) : Int)) = true,
     decide (i < (↑(ByteArray.size (bstr s)) : Int)) = true,
     decide (i < (↑(ByteArray.size (bstr s)) : Int)) = true,
     (0 : Int) ≤ i ∧ i < (↑(ByteArray.size (bstr s)) : Int),
     decide (i < (↑(ByteArray.size (bstr s)) : Int)) = true,
     decide (i < (↑(ByteArray.size (bstr s)) : Int)) = true,
     ((↑(UInt8.toNat (List.getD (bstr s).data.toList (Int.toNat i) (0 : UInt8))) : Int) != (47 : Int)) = true,
     IntKind.wrap IntKind.i64 (i - b) = i - b,
     (i - b == (9 : Int)) = false,
     IntKind.wrap IntKind.i64 ((10 : Int) * num) = (10 : Int) * num,
     (0 : Int) ≤ i ∧ i < (↑(ByteArray.size (bstr s)) : Int),
     IntKind.wrap IntKind.u8 ((↑(UInt8.toNat (List.getD (bstr s).data.toList (Int.toNat i) (0 : UInt8))) : Int) - (48 : Int)) = (↑(UInt8.toNat (List.getD (bstr s).data.toList (Int.toNat i) (0 : UInt8))) : Int) - (48 : Int),
     IntKind.wrap IntKind.i64 ((↑(UInt8.toNat (List.getD (bstr s).data.toList (Int.toNat i) (0 : UInt8))) : Int) - (48 : Int)) = (↑(UInt8.toNat (List.getD (bstr s).data.toList (Int.toNat i) (0 : UInt8))) : Int) - (48 : Int),
     IntKind.wrap IntKind.i64 ((10 : Int) * num + ((↑(UInt8.toNat (List.getD (bstr s).data.toList (Int.toNat i) (0 : UInt8))) : Int) - (48 : Int))) = (10 : Int) * num + ((↑(UInt8.toNat (List.getD (bstr s).data.toList (Int.toNat i) (0 : UInt8))) : Int) - (48 : Int)),
     IntKind.wrap IntKind.i64 (i + (1 : Int)) = i + (1 : Int)])
    (h2 : Rounds Tryz.prog (bodyOf (loopAt Tryz.f53 (0 : Nat))) m (st 73 [sv s, uu, iv (((10 : Int) * num + ((↑(UInt8.toNat (List.getD (bstr s).data.toList (Int.toNat i) (0 : UInt8))) : Int) - (48 : Int)))), iv 0, bv (false), iv ((i + (1 : Int))), bv (mi), iv (b)]) [] ex T2 H2) :
    Rounds Tryz.prog (bodyOf (loopAt Tryz.f53 (0 : Nat))) (m + 1) (st 73 [sv s, uu, iv (num), iv 0, bv (false), iv (i), bv (mi), iv (b)]) [] ex T2 H2 :=
  Rounds.step_of fits hmix [Orc.b true, Orc.b true, Orc.b true, Orc.b true, Orc.b true, Orc.b true, Orc.b false] (8 : Nat) [] (by kernel_rfl) h h2
theorem quick_slash_out (s : List UInt8) (num : Int) (i : Int) (b : Int) (mi : Bool) (m : Nat) (h : AllP
    [decide (i < (↑(ByteArray.size (bstr s)) : Int)) = true,
     decide (i < (↑(ByteArray.size (bstr s)) : Int)) = true,
     decide (i < (↑(ByteArray.size (bstr s)) : Int)) = true,
     (0 : Int) ≤ i ∧ i < (↑(ByteArray.size (bstr s)) : Int),
     decide (i < (↑(ByteArray.size (bstr s)) : Int)) = true,
     decide (i < (↑(ByteArray.size (bstr s)) : Int)) = true,
     ((↑(UInt8.toNat (List.getD (bstr s).data.toList (Int.toNat i) (0 : UInt8))) : Int) != (47 : Int)) = false]) :
    Rounds Tryz.prog (bodyOf (loopAt Tryz.f53 (0 : Nat))) (m + 1) (st 73 [sv s, uu, iv (num), iv 0, bv (false), iv (i), bv (mi), iv (b)]) [] (Ex.exit (0 : Nat)) (st 73 [sv s, uu, iv (num), iv 0, bv (false), iv (i), bv (mi), iv (b)]) [] :=
  Rounds.out_of fits hmix [Orc.b true, Orc.b true, Orc.b true, Orc.b true, Orc.b true, Orc.b false] (8 : Nat) [] m (by simp) (by kernel_rfl) h
theorem quick_end_out (s : List UInt8) (num : Int) (i : Int) (b : Int) (mi : Bool) (m : Nat) (h : AllP
    [decide (i < (↑(ByteArray.size (bstr s)) : Int)) = false,
     decide (i < (↑(ByteArray.size (bstr s)) : Int)) = false,
     decide (i < (↑(ByteArray.size (bstr s)) : Int)) = false,
     decide (i < (↑(ByteArray.size (bstr s)) : Int)) = false,
     decide (i < (↑(ByteArray.size (bstr s)) : Int)) = false,
     false = false]) :
    Rounds Tryz.prog (bodyOf (loopAt Tryz.f53 (0 : Nat))) (m + 1) (st 73 [sv s, uu, iv (num), iv 0, bv (false), iv (i), bv (mi), iv (b)]) [] (Ex.exit (0 : Nat)) (st 73 [sv s, uu, iv (num), iv 0, bv (false), iv (i), bv (mi), iv (b)]) [] :=
  Rounds.out_of fits hmix [Orc.b false, Orc.b false, Orc.b false, Orc.b false, Orc.b false, Orc.b false] (8 : Nat) [] m (by simp) (by kernel_rfl) h
theorem quick_step2_step (s : List UInt8) (num : Int) (den : Int) (i : Int) (b : Int) (mi : Bool) {ex : Ex} {T2 : List AV} {H2 : Heap} (m : Nat) (h : AllP
    [decide (i < (↑(ByteArray.size (bstr s)) : Int)) = true,
     IntKind.wrap IntKind.i64 (i - b) = i - b,
     (i - b == (9 : Int)) = false,
     IntKind.wrap IntKind.i64 ((10 : Int) * den) = (10 : Int) * den,
     (0 : Int) ≤ i ∧ i < (↑(ByteArray.size (bstr s)) : Int),
     IntKind.wrap IntKind.u8 ((↑(UInt8.toNat (List.getD (bstr s).data.toList (Int.toNat i) (0 : UInt8))) : Int) - (48 : Int)) = (↑(UInt8.toNat (List.getD (bstr s).data.toList (Int.toNat i) (0 : UInt8))) : Int) - (48 : Int),
     IntKind.wrap IntKind.i64 ((↑(UInt8.toNat (List.getD (bstr s).data.toList (Int.toNat i) (0 : UInt8))) : Int) - (48 : Int)) = (↑(UInt8.toNat (List.getD (bstr s).data.toList (Int.toNat i) (0 : UInt8))) : Int) - (48 : Int),
     IntKind.wrap IntKind.i64 ((10 : Int) * den + ((↑(UInt8.toNat (List.getD (bstr s).data.toList (Int.toNat i) (0 : UInt8))) : Int) - (48 : Int))) = (10 : Int) * den + ((↑(UInt8.toNat (List.getD (bstr s).data.toList (Int.toNat i) (0 : UInt8))) : Int) - (48 : Int)),
     IntKind.wrap IntKind.i64 (i + (1 : Int)) = i + (1 : Int)])
    (h2 : Rounds Tryz.prog (bodyOf (loopAt Tryz.f53 (1 : Nat))) m (st 73 [sv s, uu, iv (num), iv (((10 : Int) * den + ((↑(UInt8.toNat (List.getD (bstr s).data.toList (Int.toNat i) (0 : UInt8))) : Int) - (48 : Int)))), bv (false), iv ((i + (1 : Int))), bv (mi), iv (b)]) [] ex T2 H2) :
    Rounds Tryz.prog (bodyOf (loopAt Tryz.f53 (1 : Nat))) (m + 1) (st 73 [sv s, uu, iv (num), iv (den), bv (false), iv (i), bv (mi), iv (b)]) [] ex T2 H2 :=
  Rounds.step_of fits hmix [Orc.b true, Orc.b false] (8 : Nat) [] (by kernel_rfl) h h2
theorem quick_end2_out (s : List UInt8) (num : Int) (den : Int) (i : Int) (b : Int) (mi : Bool) (m : Nat) (h : AllP
    [decide (i < (↑(ByteArray.size (bstr s)) : Int)) = false]) :
    Rounds Tryz.prog (bodyOf (loopAt Tryz.f53 (1 : Nat))) (m + 1) (st 73 [sv s, uu, iv (num), iv (den), bv (false), iv (i), bv (mi), iv (b)]) [] (Ex.exit (2 : Nat)) (st 73 [sv s, uu, iv (num), iv (den), bv (false), iv (i), bv (mi), iv (b)]) [] :=
  Rounds.out_of fits hmix [Orc.b false] (8 : Nat) [] m (by simp) (by kernel_rfl) h
end Go.Flow.Tryz
namespace Go.Flow.Tryz
open Go Go.Proofs Go.RowKit Go.Flow
set_option maxRecDepth 100000
abbrev qS (s : List UInt8) (num den : Int) (i : Int) (mi : Bool) (b : Int) : List AV := st 73 [sv s, uu, iv num, iv den, bv false, iv i, bv mi, iv b]
theorem quick_rounds (s rest : List UInt8) (b : Int) (mi : Bool) (h0 : 0 ≤ b) (hr : rest = [] ∨ ∃ r, rest = 47 :: r) : ∀ (ds pre : List UInt8) (num : Int) (m : Nat), s = pre ++ ds ++ rest → (∀ c ∈ ds, Dig c) → b + m = pre.length → m + ds.length ≤ 9 → 0 ≤ num → num < 10 ^ m → s.length < 1000000000000 →
    Rounds Tryz.prog (bodyOf (loopAt Tryz.f53 0)) (ds.length + 1) (qS s num 0 pre.length mi b) [] (.exit 0) (qS s (dv num ds) 0 (pre.length + ds.length : Nat) mi b) []
  | [], pre, num, m, hs, _, hb, hm, hn, hn9, hl => by
    rcases hr with rfl | ⟨r, rfl⟩
    · refine quick_end_out s num pre.length b mi _ ?_
      have : s.length = pre.length := by simp [hs]
      simp [AllP, bstr_size]
      omega
    · refine quick_slash_out s num pre.length b mi _ ?_
      have h1 : s.length = pre.length + (r.length + 1) := by simp [hs]
      have h2 : s.getD pre.length 0 = 47 := by rw [hs]; simp
      simp only [AllP, decide_eq_true_eq, bstr_size, Int.toNat_natCast, h2]
      simp
      omega
  | c :: ds, pre, num, m, hs, hd, hb, hm, hn, hn9, hl => by
    have hc := hd c (by simp)
    unfold Dig at hc
    have h1 : s.length = pre.length + (ds.length + 1) + rest.length := by simp [hs]; omega
    have h2 : s.getD pre.length 0 = c := by rw [hs]; simp
    have hp : (10 : Int) ^ (m + 1) = 10 * 10 ^ m := by rw [Int.pow_succ]; omega
    have hm8 : m ≤ 8 := by simp at hm; omega
    have hpm : (10 : Int) ^ m ≤ 10 ^ 8 := by exact_mod_cast Nat.pow_le_pow_right (by decide) hm8
    have := quick_rounds s rest b mi h0 hr ds (pre ++ [c]) (10 * num + ((c.toNat : Int) - 48)) (m + 1) (by simp [hs]) (fun x hx => hd x (by simp [hx])) (by simp; omega) (by simp at hm; omega) (by omega) (by omega) hl
    refine quick_step_step s num pre.length b mi _ ?_ ?_
    · simp only [AllP, decide_eq_true_eq, decide_eq_false_iff_not, bstr_size, Int.toNat_natCast, h2, w64, wu8]
      simp
      omega
    · simp only [Int.toNat_natCast, h2]
      have e : ((pre ++ [c]).length : Int) = (pre.length : Int) + 1 := by simp
      rw [e] at this
      have e2 : (pre ++ [c]).length + ds.length = pre.length + (c :: ds).length := by simp; omega
      rw [e2] at this
      exact this
theorem quick_rounds2 (s : List UInt8) (num b : Int) (mi : Bool) (h0 : 0 ≤ b) : ∀ (ds pre : List UInt8) (den : Int) (m : Nat), s = pre ++ ds → (∀ c ∈ ds, Dig c) → b + m = pre.length → m + ds.length ≤ 9 → 0 ≤ den → den < 10 ^ m → s.length < 1000000000000 →
    Rounds Tryz.prog (bodyOf (loopAt Tryz.f53 1)) (ds.length + 1) (qS s num den pre.length mi b) [] (.exit 2) (qS s num (dv den ds) (pre.length + ds.length : Nat) mi b) []
  | [], pre, den, m, hs, _, hb, hm, hn, hn9, hl => by
    refine quick_end2_out s num den pre.length b mi _ ?_
    have : s.length = pre.length := by simp [hs]
    simp [AllP, bstr_size]
    omega
  | c :: ds, pre, den, m, hs, hd, hb, hm, hn, hn9, hl => by
    have hc := hd c (by simp)
    unfold Dig at hc
    have h1 : s.length = pre.length + (ds.length + 1) := by simp [hs]
    have h2 : s.getD pre.length 0 = c := by rw [hs]; simp
    have hp : (10 : Int) ^ (m + 1) = 10 * 10 ^ m := by rw [Int.pow_succ]; omega
    have hm8 : m ≤ 8 := by simp at hm; omega
    have hpm : (10 : Int) ^ m ≤ 10 ^ 8 := by exact_mod_cast Nat.pow_le_pow_right (by decide) hm8
    have := quick_rounds2 s num b mi h0 ds (pre ++ [c]) (10 * den + ((c.toNat : Int) - 48)) (m + 1) (by simp [hs]) (fun x hx => hd x (by simp [hx])) (by simp; omega) (by simp at hm; omega) (by omega) (by omega) hl
    refine quick_step2_step s num den pre.length b mi _ ?_ ?_
    · simp only [AllP, decide_eq_true_eq, bstr_size, Int.toNat_natCast, h2, w64, wu8]
      simp
      omega
    · simp only [Int.toNat_natCast, h2]
      have e : ((pre ++ [c]).length : Int) = (pre.length : Int) + 1 := by simp
      rw [e] at this
      have e2 : (pre ++ [c]).length + ds.length = pre.length + (c :: ds).length := by simp; omega
      rw [e2] at this
      exact this
theorem quick_goes (s rest pre ds : List UInt8) (mi : Bool) (hr : rest = [] ∨ ∃ r, rest = 47 :: r) (hs : s = pre ++ ds ++ rest) (hd : ∀ c ∈ ds, Dig c) (h9 : ds.length ≤ 9) (hl : s.length < 1000000000000) :
    Goes Tryz.prog (loopAt Tryz.f53 0) (qS s 0 0 pre.length mi pre.length) [] (.exit 0) (qS s (dv 0 ds) 0 (pre.length + ds.length : Nat) mi pre.length) [] :=
  Goes.loop (quick_rounds s rest pre.length mi (by omega) hr ds pre 0 0 hs hd (by simp) (by omega) (by omega) (by simp) hl)
theorem quick_goes2 (s pre ds : List UInt8) (num : Int) (mi : Bool) (hs : s = pre ++ ds) (hd : ∀ c ∈ ds, Dig c) (h9 : ds.length ≤ 9) (hl : s.length < 1000000000000) :
    Goes Tryz.prog (loopAt Tryz.f53 1) (qS s num 0 pre.length mi pre.length) [] (.exit 2) (qS s num (dv 0 ds) (pre.length + ds.length : Nat) mi pre.length) [] :=
  Goes.loop (quick_rounds2 s num pre.length mi (by omega) ds pre 0 0 hs hd (by simp) (by omega) (by omega) (by simp) hl)
theorem quick_ok (p : Int) (q : Nat) (hp : p.natAbs < 1000000000) (hq : q < 1000000000) : CallsTo Tryz.prog 53 [sv (rT p q)] (.tup [iv p, iv q, bv true]) := by
  have hlp : (nT p.natAbs).length ≤ 9 := nT_le (k := 9) (by omega) (by decide)
  have hlq : (nT q).length ≤ 9 := nT_le (k := 9) (by omega) (by decide)
  have hdp := nT_dig p.natAbs
  have hdq := nT_dig q
  have hvp := nT_dv p.natAbs
  have hvq := nT_dv q
  obtain ⟨c, r, hc, hcd⟩ := nT_cons p.natAbs
  unfold rT
  rcases zT_cases p with ⟨h0, hz⟩ | ⟨h0, hz⟩ <;> rw [hz]
  · split
    · rename_i h1
      have hg := quick_goes (nT p.natAbs) [] [] (nT p.natAbs) false (.inl rfl) (by simp) hdp hlp (by omega)
      have hk := quick_plus_whole_ok (nT p.natAbs) (dv 0 (nT p.natAbs)) ((nT p.natAbs).length : Nat) (by
        unfold Dig at hcd
        simp only [AllP]
        repeat' apply And.intro
        all_goals first | trivial | (simp; done) | (simpa using hg) | (simp [hc]; done) | (simp [hc]; omega))
      rw [hvp, show ((p.natAbs : Nat) : Int) = p by omega] at hk
      rw [h1]
      exact hk
    · have hg := quick_goes (nT p.natAbs ++ 47 :: nT q) (47 :: nT q) [] (nT p.natAbs) false (.inr ⟨_, rfl⟩) (by simp) hdp hlp (by simp; omega)
      have hg2 := quick_goes2 (nT p.natAbs ++ 47 :: nT q) (nT p.natAbs ++ [47]) (nT q) (dv 0 (nT p.natAbs)) false (by simp) hdq hlq (by simp; omega)
      have hk := quick_plus_ok (nT p.natAbs ++ 47 :: nT q) (dv 0 (nT p.natAbs)) (dv 0 (nT q)) ((nT p.natAbs).length : Nat) (((nT p.natAbs ++ [47]).length + (nT q).length : Nat)) (by
        unfold Dig at hcd
        simp only [AllP]
        repeat' apply And.intro
        all_goals first | trivial | (simp; done) | (simpa using hg) | (simpa using hg2) | (simp [hc]; done) | (simp [hc]; omega) | (simp only [w64]; (try simp); omega))
      rw [hvp, hvq, show ((p.natAbs : Nat) : Int) = p by omega] at hk
      exact hk
  · split
    · rename_i h1
      have hg := quick_goes (45 :: nT p.natAbs) [] [45] (nT p.natAbs) true (.inl rfl) (by simp) hdp hlp (by simp; omega)
      have hk := quick_minus_whole_ok (45 :: nT p.natAbs) (dv 0 (nT p.natAbs)) ((nT p.natAbs).length + 1 : Nat) (by
        simp only [AllP]
        repeat' apply And.intro
        all_goals first | trivial | (simp; done) | (simpa [Nat.add_comm] using hg) | (simp; done) | (simp; omega) | (rw [hvp, w64n]; omega))
      rw [hvp, show -((p.natAbs : Nat) : Int) = p by omega] at hk
      rw [h1]
      exact hk
    · have hg := quick_goes (45 :: nT p.natAbs ++ 47 :: nT q) (47 :: nT q) [45] (nT p.natAbs) true (.inr ⟨_, rfl⟩) (by simp) hdp hlp (by simp; omega)
      have hg2 := quick_goes2 (45 :: nT p.natAbs ++ 47 :: nT q) (45 :: nT p.natAbs ++ [47]) (nT q) (-(dv 0 (nT p.natAbs))) true (by simp) hdq hlq (by simp; omega)
      have hk := quick_minus_ok (45 :: nT p.natAbs ++ 47 :: nT q) (dv 0 (nT p.natAbs)) (dv 0 (nT q)) ((nT p.natAbs).length + 1 : Nat) (((45 :: nT p.natAbs ++ [47]).length + (nT q).length : Nat)) (by
        simp only [AllP]
        repeat' apply And.intro
        all_goals first | trivial | (simp; done) | (simpa [Nat.add_comm] using hg) | (simpa using hg2) | (simp; done) | (simp; omega) | (simp only [w64]; (try simp); omega) | (rw [hvp, w64n]; omega))
      rw [hvp, hvq, show -((p.natAbs : Nat) : Int) = p by omega] at hk
      exact hk
end Go.Flow.Tryz
namespace Go.Flow.Tryz
open Go Go.Proofs Go.RowKit Go.Flow
set_option maxRecDepth 100000
theorem bstr_toList (l : List UInt8) : (bstr l).toList = l := ByteArray.toList_eq _
theorem zT_zero_iff (p : Int) : zT p = [48] ↔ p = 0 := by
  constructor
  · intro h
    rcases zT_cases p with ⟨h0, hz⟩ | ⟨h0, hz⟩
    · rw [hz] at h
      have := nT_dv p.natAbs
      rw [h] at this
      simp [dv] at this
      omega
    · rw [hz] at h
      simp at h
  · rintro rfl
    decide +kernel
theorem zT_pos (p : Int) : 1 ≤ (zT p).length := by
  have := nT_pos p.natAbs
  rcases zT_cases p with ⟨_, hz⟩ | ⟨_, hz⟩ <;> rw [hz] <;> simp <;> omega
theorem rT_zero_iff (p : Int) (q : Nat) : rT p q = [48] ↔ p = 0 ∧ q = 1 := by
  unfold rT
  split
  · rename_i h
    rw [zT_zero_iff]
    simp [h]
  · rename_i h
    constructor
    · intro e
      have h1 := congrArg List.length e
      have h2 := zT_pos p
      have h3 := nT_pos q
      simp at h1
      omega
    · rintro ⟨_, e⟩
      exact absurd e h
theorem fT_zero_iff (k : Int) (n : Nat) (hn : 0 < n) : fT k n = [48] ↔ k = 0 := by
  unfold fT
  have hg : 0 < Nat.gcd k.natAbs n := Nat.gcd_pos_of_pos_right _ hn
  rw [rT_zero_iff]
  constructor
  · rintro ⟨h, _⟩
    have hd : ((Nat.gcd k.natAbs n : Nat) : Int) ∣ k := Int.ofNat_dvd_left.2 (Nat.gcd_dvd_left _ _)
    have := Int.tdiv_mul_cancel hd
    rw [h] at this
    omega
  · rintro rfl
    simp
    exact Nat.div_self hn
theorem rT_cases (p : Int) (q : Nat) : (0 ≤ p ∧ ∃ c r, rT p q = c :: r ∧ Dig c) ∨ (p < 0 ∧ rT p q = 45 :: rT (-p) q) := by
  unfold rT
  rcases zT_cases p with ⟨h0, hz⟩ | ⟨h0, hz⟩
  · left
    obtain ⟨c, r, hc, hd⟩ := nT_cons p.natAbs
    refine ⟨h0, ?_⟩
    rw [hz, hc]
    split
    · exact ⟨c, r, rfl, hd⟩
    · exact ⟨c, r ++ 47 :: nT q, rfl, hd⟩
  · right
    refine ⟨h0, ?_⟩
    have h1 : zT (-p) = nT p.natAbs := by
      have := zT_nat p.natAbs
      rwa [show ((p.natAbs : Nat) : Int) = -p by omega] at this
    rw [hz, h1]
    split <;> rfl
theorem fT_neg (k : Int) (n : Nat) : fT (-k) n = rT (-(k.tdiv (Nat.gcd k.natAbs n))) (n / Nat.gcd k.natAbs n) := by
  unfold fT
  rw [Int.natAbs_neg, Int.neg_tdiv]
theorem eq48 (l : List UInt8) : ((bstr l).toList == [(48 : UInt8)]) = decide (l = [48]) := by
  rw [bstr_toList]
  by_cases h : l = [48]
  · subst h; rfl
  · rw [decide_eq_false h]
    exact beq_eq_false_iff_ne.2 h
theorem neg_rT (p : Int) (q : Nat) (hz : p ≠ 0) (hl : (rT p q).length < 1000000000000) : CallsTo Tryz.prog 63 [sv (rT p q)] (sv (rT (-p) q)) := by
  have hne : rT p q ≠ [48] := fun e => hz ((rT_zero_iff p q).1 e).1
  rcases rT_cases p q with ⟨h0, c, r, hc, hd⟩ | ⟨h0, hc⟩
  · have := neg_pos_ok (rT p q) (by
      unfold Dig at hd
      refine AllP.cons ?_ (AllP.cons ?_ (AllP.cons ?_ (AllP.cons ?_ AllP.nil)))
      · rw [eq48]; exact decide_eq_false hne
      · rw [hc]; simp
      · rw [hc]; simp; omega
      · rw [max64]; show ((1 + (rT p q).length : Nat) : Int) ≤ _; omega)
    have e : rT (-p) q = 45 :: rT p q := by
      rcases rT_cases (-p) q with ⟨h1, _⟩ | ⟨h1, h2⟩
      · exact absurd (show p = 0 by omega) hz
      · rw [h2, Int.neg_neg]
    rw [e]
    have e2 : ({ data := #[(45 : UInt8)] } ++ bstr (rT p q) : ByteArray) = bstr (45 :: rT p q) := by
      show bstr [45] ++ bstr (rT p q) = _
      rw [bstr_append]; rfl
    rw [e2] at this
    exact this
  · have := neg_neg_ok (rT p q) (by
      refine AllP.cons ?_ (AllP.cons ?_ (AllP.cons ?_ (AllP.cons ?_ AllP.nil)))
      · rw [eq48]; exact decide_eq_false hne
      · rw [hc]; simp
      · rw [hc]; simp
      · rw [hc]; simp; omega)
    rw [hc, bstr_extract] at this
    rw [hc]
    simpa using this
theorem rT_length (p : Int) (q : Nat) : (rT p q).length ≤ 2 + (nT p.natAbs).length + (nT q).length := by
  have := zT_length p
  unfold rT
  split <;> simp <;> omega
theorem fT_length (k : Int) (n : Nat) (hk : k.natAbs < 10 ^ 18) (hn : n < 10 ^ 18) : (fT k n).length ≤ 38 := by
  unfold fT
  refine Nat.le_trans (rT_length _ _) ?_
  have h1 : (k.tdiv (Nat.gcd k.natAbs n)).natAbs < 10 ^ 18 := by
    rw [Int.natAbs_tdiv]
    exact Nat.lt_of_le_of_lt (Nat.div_le_self _ _) hk
  have h2 : n / Nat.gcd k.natAbs n < 10 ^ 18 := Nat.lt_of_le_of_lt (Nat.div_le_self _ _) hn
  have := nT_le h1 (by decide)
  have := nT_le h2 (by decide)
  omega
theorem tdiv_ne {k : Int} {n : Nat} (hn : 0 < n) (hk : k ≠ 0) : k.tdiv (Nat.gcd k.natAbs n) ≠ 0 := fun h => by
  have hd : ((Nat.gcd k.natAbs n : Nat) : Int) ∣ k := Int.ofNat_dvd_left.2 (Nat.gcd_dvd_left _ _)
  have := Int.tdiv_mul_cancel hd
  rw [h] at this
  omega
theorem fT_zero (n : Nat) (hn : 0 < n) : fT 0 n = [48] := (fT_zero_iff 0 n hn).2 rfl
theorem neg_ok (k : Int) (n : Nat) (hn : 0 < n) (hk : k.natAbs < 10 ^ 18) (hn2 : n < 10 ^ 18) : CallsTo Tryz.prog 63 [sv (fT k n)] (sv (fT (-k) n)) := by
  by_cases h : k = 0
  · subst h
    have := neg_zero_ok (fT 0 n) (AllP.cons (by rw [eq48]; exact decide_eq_true (fT_zero n hn)) AllP.nil)
    simpa using this
  · rw [fT_neg]
    exact neg_rT _ _ (tdiv_ne hn h) (by have := fT_length k n hk hn2; unfold fT at this; omega)
theorem sign_ok (k : Int) (n : Nat) (hn : 0 < n) : CallsTo Tryz.prog 75 [sv (fT k n)] (iv k.sign) := by
  by_cases h : k = 0
  · subst h
    exact sign_zero_ok (fT 0 n) (AllP.cons (by rw [eq48]; exact decide_eq_true (fT_zero n hn)) AllP.nil)
  · have hne : fT k n ≠ [48] := fun e => h ((fT_zero_iff k n hn).1 e)
    have ht := tdiv_ne hn h
    have hg : 0 < Nat.gcd k.natAbs n := Nat.gcd_pos_of_pos_right _ hn
    have hd' : ((Nat.gcd k.natAbs n : Nat) : Int) ∣ k := Int.ofNat_dvd_left.2 (Nat.gcd_dvd_left _ _)
    have hmul := Int.tdiv_mul_cancel hd'
    unfold fT at hne ⊢
    generalize k.tdiv (Nat.gcd k.natAbs n) = p at *
    generalize n / Nat.gcd k.natAbs n = q at *
    generalize Nat.gcd k.natAbs n = G at *
    rcases rT_cases p q with ⟨h0, c, r, hc, hd⟩ | ⟨h0, hc⟩
    · have hk : k.sign = 1 := Int.sign_eq_one_of_pos (by
        have := Int.mul_pos (show 0 < p by omega) (show (0 : Int) < G by omega)
        omega)
      rw [hk]
      refine sign_pos_ok (rT p q) ?_
      unfold Dig at hd
      refine AllP.cons ?_ (AllP.cons ?_ (AllP.cons ?_ (AllP.cons ?_ (AllP.cons ?_ (AllP.cons ?_ (AllP.cons ?_ AllP.nil))))))
      · rw [eq48]; exact decide_eq_false hne
      all_goals rw [hc]; simp
      omega
    · have hk : k.sign = -1 := Int.sign_eq_neg_one_of_neg (by
        have := Int.mul_neg_of_neg_of_pos (show p < 0 by omega) (show (0 : Int) < G by omega)
        omega)
      rw [hk]
      refine sign_neg_ok (rT p q) ?_
      refine AllP.cons ?_ (AllP.cons ?_ (AllP.cons ?_ (AllP.cons ?_ (AllP.cons ?_ (AllP.cons ?_ (AllP.cons ?_ AllP.nil))))))
      · rw [eq48]; exact decide_eq_false hne
      all_goals rw [hc]; simp
end Go.Flow.Tryz
namespace Go.Flow.Tryz
open Go Go.Proofs Go.RowKit Go.Flow
set_option maxRecDepth 100000
theorem fT_mul (k : Int) (n c : Nat) (hc : 0 < c) : fT (k * c) (n * c) = fT k n := by
  unfold fT
  have h1 : Nat.gcd (k * c).natAbs (n * c) = Nat.gcd k.natAbs n * c := by
    rw [Int.natAbs_mul, Int.natAbs_natCast, Nat.gcd_mul_right]
  rw [h1]
  have h2 : (k * (c : Int)).tdiv ((Nat.gcd k.natAbs n * c : Nat) : Int) = k.tdiv (Nat.gcd k.natAbs n) := by
    rw [Int.natCast_mul]
    exact Int.mul_tdiv_mul_of_pos_left _ _ (by omega)
  have h3 : n * c / (Nat.gcd k.natAbs n * c) = n / Nat.gcd k.natAbs n := Nat.mul_div_mul_right _ _ hc
  rw [h2, h3]
theorem fT_parts (k : Int) (n : Nat) (hn : 0 < n) : ∃ (p : Int) (q g : Nat), 0 < g ∧ 0 < q ∧ k = p * g ∧ n = q * g ∧ fT k n = rT p q ∧ p.natAbs ≤ k.natAbs ∧ q ≤ n := by
  have hg : 0 < Nat.gcd k.natAbs n := Nat.gcd_pos_of_pos_right _ hn
  have hd : ((Nat.gcd k.natAbs n : Nat) : Int) ∣ k := Int.ofNat_dvd_left.2 (Nat.gcd_dvd_left _ _)
  have hk := Int.tdiv_mul_cancel hd
  have hn2 := Nat.div_mul_cancel (Nat.gcd_dvd_right k.natAbs n)
  refine ⟨k.tdiv (Nat.gcd k.natAbs n), n / Nat.gcd k.natAbs n, Nat.gcd k.natAbs n, hg, ?_, hk.symm, hn2.symm, rfl, ?_, Nat.div_le_self _ _⟩
  · exact Nat.div_pos (Nat.gcd_le_right _ hn) hg
  · rw [Int.natAbs_tdiv]
    exact Nat.div_le_self _ _
theorem prod_bound {a b : Int} {M N : Nat} (ha : a.natAbs < M) (hb : b.natAbs < N) (hM : 0 < M) : (a * b).natAbs < M * N := by
  rw [Int.natAbs_mul]
  exact Nat.mul_lt_mul'' ha hb
theorem add_ok (k l : Int) (n m : Nat) (hn : 0 < n) (hm : 0 < m) (hk : k.natAbs < 1000000000) (hl : l.natAbs < 1000000000) (hn9 : n < 1000000000) (hm9 : m < 1000000000) :
    CallsTo Tryz.prog 18 [sv (fT k n), sv (fT l m)] (sv (fT (k * m + l * n) (n * m))) := by
  by_cases hk0 : k = 0
  · subst hk0
    have := add_lzero_ok (fT 0 n) (fT l m) (AllP.cons (by rw [eq48]; exact decide_eq_true (fT_zero n hn)) AllP.nil)
    rw [Int.zero_mul, Int.zero_add, Nat.mul_comm n m, fT_mul l m n hn]
    exact this
  by_cases hl0 : l = 0
  · subst hl0
    have := add_rzero_ok (fT k n) (fT 0 m) (AllP.cons (by rw [eq48]; exact decide_eq_false fun e => hk0 ((fT_zero_iff k n hn).1 e)) (AllP.cons (by rw [eq48]; exact decide_eq_true (fT_zero m hm)) AllP.nil))
    rw [Int.zero_mul, Int.add_zero, fT_mul k n m hm]
    exact this
  have hs0 : fT k n ≠ [48] := fun e => hk0 ((fT_zero_iff k n hn).1 e)
  have hu0 : fT l m ≠ [48] := fun e => hl0 ((fT_zero_iff l m hm).1 e)
  obtain ⟨p, q, g, hg, hq, hkp, hnq, hf, hp9, hq9⟩ := fT_parts k n hn
  obtain ⟨p', q', g', hg', hq', hlp, hmq, hf', hp9', hq9'⟩ := fT_parts l m hm
  have e : fT (k * m + l * n) (n * m) = fT (p * q' + p' * q) (q * q') := by
    rw [← fT_mul (p * q' + p' * q) (q * q') (g * g') (Nat.mul_pos hg hg')]
    congr 1
    · subst hkp hlp hnq hmq
      push_cast
      grind
    · subst hnq hmq
      grind
  have b1 := prod_bound (a := p) (b := (q' : Int)) (M := 1000000000) (N := 1000000000) (by omega) (by omega) (by decide)
  have b2 := prod_bound (a := p') (b := (q : Int)) (M := 1000000000) (N := 1000000000) (by omega) (by omega) (by decide)
  have b3 := prod_bound (a := (q : Int)) (b := (q' : Int)) (M := 1000000000) (N := 1000000000) (by omega) (by omega) (by decide)
  have hqq : ((q : Int) * (q' : Int)) = ((q * q' : Nat) : Int) := by push_cast; rfl
  have hqp : 0 < q * q' := Nat.mul_pos hq hq'
  have hsm := small_ok (p * q' + p' * q) (q * q') hqp (by omega) (by rw [hqq] at b3; omega)
  rw [e]
  refine add_quick_ok (fT k n) (fT l m) _ p q p' q' ?_
  refine AllP.cons ?_ (AllP.cons ?_ (AllP.cons ?_ (AllP.cons rfl (AllP.cons ?_ (AllP.cons rfl (AllP.cons ?_ (AllP.cons ?_ (AllP.cons ?_ (AllP.cons ?_ (AllP.cons ?_ AllP.nil))))))))))
  · rw [eq48]; exact decide_eq_false hs0
  · rw [eq48]; exact decide_eq_false hu0
  · rw [hf]; exact quick_ok p q (by omega) (by omega)
  · rw [hf']; exact quick_ok p' q' (by omega) (by omega)
  · rw [w64]; omega
  · rw [w64]; omega
  · rw [w64]; omega
  · rw [w64]; omega
  · rw [hqq]; exact hsm
theorem sub_ok (k l : Int) (n m : Nat) (hn : 0 < n) (hm : 0 < m) (hk : k.natAbs < 1000000000) (hl : l.natAbs < 1000000000) (hn9 : n < 1000000000) (hm9 : m < 1000000000) :
    CallsTo Tryz.prog 20 [sv (fT k n), sv (fT l m)] (sv (fT (k * m - l * n) (n * m))) := by
  have h1 := neg_ok l m hm (by omega) (by omega)
  have h2 := add_ok k (-l) n m hn hm hk (by omega) hn9 hm9
  rw [Int.neg_mul, ← Int.sub_eq_add_neg] at h2
  exact sub_any_ok _ _ _ _ (AllP.cons h1 (AllP.cons h2 AllP.nil))
theorem rT_one_iff (p : Int) (q : Nat) : rT p q = [49] ↔ p = 1 ∧ q = 1 := by
  unfold rT
  split
  · rename_i h
    subst h
    simp only [and_true]
    constructor
    · intro h
      rcases zT_cases p with ⟨h0, hz⟩ | ⟨h0, hz⟩
      · rw [hz] at h
        have := nT_dv p.natAbs
        rw [h] at this
        simp [dv] at this
        omega
      · rw [hz] at h
        simp at h
    · rintro rfl
      decide +kernel
  · rename_i h
    constructor
    · intro e
      have h1 := congrArg List.length e
      have h2 := zT_pos p
      have h3 := nT_pos q
      simp at h1
      omega
    · rintro ⟨_, e⟩
      exact absurd e h
theorem fT_one {k : Int} {n : Nat} (hn : 0 < n) (h : fT k n = [49]) : k = n := by
  obtain ⟨p, q, g, hg, hq, hk, hn2, hf, _, _⟩ := fT_parts k n hn
  rw [hf] at h
  obtain ⟨h1, h2⟩ := (rT_one_iff p q).1 h
  subst h1 h2
  rw [hk, hn2]
  push_cast
  rfl
theorem mul_ok (k l : Int) (n m : Nat) (hn : 0 < n) (hm : 0 < m) (hk : k.natAbs < 1000000000) (hl : l.natAbs < 1000000000) (hn9 : n < 1000000000) (hm9 : m < 1000000000) :
    CallsTo Tryz.prog 19 [sv (fT k n), sv (fT l m)] (sv (fT (k * l) (n * m))) := by
  have hnm := Nat.mul_pos hn hm
  by_cases hk0 : k = 0
  · subst hk0
    have := mul_lzero_ok (fT 0 n) (fT l m) (AllP.cons (by rw [eq48]; exact decide_eq_true (fT_zero n hn)) (AllP.cons (by rw [eq48]; exact decide_eq_true (fT_zero n hn)) AllP.nil))
    rw [Int.zero_mul, fT_zero _ hnm]
    exact this
  have hs0 : fT k n ≠ [48] := fun e => hk0 ((fT_zero_iff k n hn).1 e)
  by_cases hl0 : l = 0
  · subst hl0
    have := mul_rzero_ok (fT k n) (fT 0 m) (AllP.cons (by rw [eq48]; exact decide_eq_false hs0) (AllP.cons (by rw [eq48]; exact decide_eq_true (fT_zero m hm)) AllP.nil))
    rw [Int.mul_zero, fT_zero _ hnm]
    exact this
  have hu0 : fT l m ≠ [48] := fun e => hl0 ((fT_zero_iff l m hm).1 e)
  have eq49 : ∀ l : List UInt8, ((bstr l).toList == [(49 : UInt8)]) = decide (l = [49]) := fun l => by
    rw [bstr_toList]
    by_cases h : l = [49]
    · subst h; rfl
    · rw [decide_eq_false h]
      exact beq_eq_false_iff_ne.2 h
  by_cases hs1 : fT k n = [49]
  · have := mul_lone_ok (fT k n) (fT l m) (AllP.cons (by rw [eq48]; exact decide_eq_false hs0) (AllP.cons (by rw [eq48]; exact decide_eq_false hu0) (AllP.cons (by rw [eq49]; exact decide_eq_true hs1) AllP.nil)))
    have e := fT_one hn hs1
    rw [e, Int.mul_comm, Nat.mul_comm n m, fT_mul l m n hn]
    rw [e] at this
    exact this
  by_cases hu1 : fT l m = [49]
  · have := mul_rone_ok (fT k n) (fT l m) (AllP.cons (by rw [eq48]; exact decide_eq_false hs0) (AllP.cons (by rw [eq48]; exact decide_eq_false hu0) (AllP.cons (by rw [eq49]; exact decide_eq_false hs1) (AllP.cons (by rw [eq49]; exact decide_eq_true hu1) AllP.nil))))
    have e := fT_one hm hu1
    rw [e, fT_mul k n m hm]
    rw [e] at this
    exact this
  obtain ⟨p, q, g, hg, hq, hkp, hnq, hf, hp9, hq9⟩ := fT_parts k n hn
  obtain ⟨p', q', g', hg', hq', hlp, hmq, hf', hp9', hq9'⟩ := fT_parts l m hm
  have e : fT (k * l) (n * m) = fT (p * p') (q * q') := by
    rw [← fT_mul (p * p') (q * q') (g * g') (Nat.mul_pos hg hg')]
    congr 1
    · subst hkp hlp hnq hmq
      push_cast
      grind
    · subst hnq hmq
      grind
  have b1 := prod_bound (a := p) (b := p') (M := 1000000000) (N := 1000000000) (by omega) (by omega) (by decide)
  have b3 := prod_bound (a := (q : Int)) (b := (q' : Int)) (M := 1000000000) (N := 1000000000) (by omega) (by omega) (by decide)
  have hqq : ((q : Int) * (q' : Int)) = ((q * q' : Nat) : Int) := by push_cast; rfl
  have hqp : 0 < q * q' := Nat.mul_pos hq hq'
  have hsm := small_ok (p * p') (q * q') hqp (by omega) (by rw [hqq] at b3; omega)
  rw [e]
  refine mul_quick_ok (fT k n) (fT l m) _ p q p' q' ?_
  refine AllP.cons ?_ (AllP.cons ?_ (AllP.cons ?_ (AllP.cons ?_ (AllP.cons ?_ (AllP.cons rfl (AllP.cons ?_ (AllP.cons rfl (AllP.cons ?_ (AllP.cons ?_ (AllP.cons ?_ AllP.nil))))))))))
  · rw [eq48]; exact decide_eq_false hs0
  · rw [eq48]; exact decide_eq_false hu0
  · rw [eq49]; exact decide_eq_false hs1
  · rw [eq49]; exact decide_eq_false hu1
  · rw [hf]; exact quick_ok p q (by omega) (by omega)
  · rw [hf']; exact quick_ok p' q' (by omega) (by omega)
  · rw [w64]; omega
  · rw [w64]; omega
  · rw [hqq]; exact hsm
end Go.Flow.Tryz
namespace Go.Flow.Tryz
open Go Go.Proofs Go.RowKit Go.Flow
set_option maxRecDepth 100000
theorem eqs (l r : List UInt8) : ((bstr l).toList == (bstr r).toList) = decide (l = r) := by
  rw [bstr_toList, bstr_toList]
  by_cases h : l = r
  · subst h; simp
  · rw [decide_eq_false h]
    exact beq_eq_false_iff_ne.2 h
def cmpZ (a b : Int) : Int := if a < b then -1 else if a > b then 1 else 0
theorem nT_inj {a b : Nat} (h : nT a = nT b) : a = b := by
  have h1 := nT_dv a
  have h2 := nT_dv b
  rw [h] at h1
  omega
theorem zT_inj {a b : Int} (h : zT a = zT b) : a = b := by
  obtain ⟨ca, ra, ha, da⟩ := nT_cons a.natAbs
  obtain ⟨cb, rb, hb, db⟩ := nT_cons b.natAbs
  unfold Dig at da db
  rcases zT_cases a with ⟨h0, hz⟩ | ⟨h0, hz⟩ <;> rcases zT_cases b with ⟨h0', hz'⟩ | ⟨h0', hz'⟩ <;> rw [hz, hz'] at h
  · have := nT_inj h; omega
  · rw [ha] at h; injection h with h1 h2; subst h1; simp at da
  · rw [hb] at h; injection h with h1 h2; subst h1; simp at db
  · injection h with h1 h2; have := nT_inj h2; omega
theorem zT_not47 (p : Int) : ∀ c ∈ zT p, c ≠ 47 := by
  intro c hc e
  subst e
  rcases zT_cases p with ⟨h0, hz⟩ | ⟨h0, hz⟩ <;> rw [hz] at hc
  · have := nT_dig _ _ hc; unfold Dig at this; simp at this
  · rcases List.mem_cons.1 hc with h | h
    · exact absurd h (by decide)
    · have := nT_dig _ _ h; unfold Dig at this; simp at this
theorem rT_take (p : Int) (q : Nat) : (rT p q).takeWhile (· ≠ 47) = zT p := by
  have h : ∀ l : List UInt8, (zT p ++ 47 :: l).takeWhile (· ≠ 47) = zT p := fun l => by
    rw [List.takeWhile_append_of_pos (by simpa using zT_not47 p)]
    simp
  unfold rT
  split
  · have := List.takeWhile_append_of_pos (p := (· ≠ 47)) (l₁ := zT p) (l₂ := []) (by simpa using zT_not47 p)
    simpa using this
  · exact h _
theorem rT_inj {p p' : Int} {q q' : Nat} (h : rT p q = rT p' q') : p = p' ∧ q = q' := by
  have h1 : zT p = zT p' := by rw [← rT_take p q, h, rT_take]
  have hp := zT_inj h1
  subst hp
  refine ⟨rfl, ?_⟩
  unfold rT at h
  split at h <;> split at h
  · omega
  · simp at h
  · simp at h
  · have := List.append_cancel_left h
    injection this with _ h2
    exact nT_inj h2
theorem cmp_ok (k l : Int) (n m : Nat) (hn : 0 < n) (hm : 0 < m) (hk : k.natAbs < 1000000000) (hl : l.natAbs < 1000000000) (hn9 : n < 1000000000) (hm9 : m < 1000000000) :
    CallsTo Tryz.prog 14 [sv (fT k n), sv (fT l m)] (iv (cmpZ (k * m) (l * n))) := by
  obtain ⟨p, q, g, hg, hq, hkp, hnq, hf, hp9, hq9⟩ := fT_parts k n hn
  obtain ⟨p', q', g', hg', hq', hlp, hmq, hf', hp9', hq9'⟩ := fT_parts l m hm
  have hgg : (0 : Int) < (g * g' : Nat) := by exact_mod_cast Nat.mul_pos hg hg'
  have e1 : k * m = (p * q') * (g * g' : Nat) := by subst hkp hmq; push_cast; grind
  have e2 : l * n = (p' * q) * (g * g' : Nat) := by subst hlp hnq; push_cast; grind
  have hlt : ∀ a b : Int, a * (g * g' : Nat) < b * (g * g' : Nat) ↔ a < b := fun a b => ⟨fun h => Int.lt_of_mul_lt_mul_right h (Int.le_of_lt hgg), fun h => Int.mul_lt_mul_of_pos_right h hgg⟩
  have hc : cmpZ (k * m) (l * n) = cmpZ (p * q') (p' * q) := by
    unfold cmpZ
    rw [e1, e2]
    simp only [hlt, gt_iff_lt]
  rw [hc, hf, hf']
  by_cases hs : rT p q = rT p' q'
  · obtain ⟨h1, h2⟩ := rT_inj hs
    subst h1 h2
    have : cmpZ (p * q) (p * q) = 0 := by simp [cmpZ]
    rw [this]
    exact cmp_same_ok _ _ (AllP.cons (by rw [eqs]; simp) AllP.nil)
  have b1 := prod_bound (a := p) (b := (q' : Int)) (M := 1000000000) (N := 1000000000) (by omega) (by omega) (by decide)
  have b2 := prod_bound (a := p') (b := (q : Int)) (M := 1000000000) (N := 1000000000) (by omega) (by omega) (by decide)
  have hq1 := quick_ok p q (by omega) (by omega)
  have hq2 := quick_ok p' q' (by omega) (by omega)
  have h0 : ((bstr (rT p q)).toList == (bstr (rT p' q')).toList) = false := by rw [eqs]; exact decide_eq_false hs
  have w1 : IntKind.i64.wrap (p * q') = p * q' := by rw [w64]; omega
  have w2 : IntKind.i64.wrap (p' * q) = p' * q := by rw [w64]; omega
  unfold cmpZ
  split
  · rename_i h
    exact cmp_less_ok _ _ p q p' q' (AllP.cons h0 (AllP.cons hq1 (AllP.cons rfl (AllP.cons hq2 (AllP.cons rfl (AllP.cons w1 (AllP.cons w2 (AllP.cons (decide_eq_true h) AllP.nil))))))))
  · rename_i h
    split
    · rename_i h2
      exact cmp_more_ok _ _ p q p' q' (AllP.cons h0 (AllP.cons hq1 (AllP.cons rfl (AllP.cons hq2 (AllP.cons rfl (AllP.cons w1 (AllP.cons w2 (AllP.cons (decide_eq_false h) (AllP.cons (decide_eq_true h2) AllP.nil)))))))))
    · rename_i h2
      exact cmp_eq_ok _ _ p q p' q' (AllP.cons h0 (AllP.cons hq1 (AllP.cons rfl (AllP.cons hq2 (AllP.cons rfl (AllP.cons w1 (AllP.cons w2 (AllP.cons (decide_eq_false h) (AllP.cons (decide_eq_false h2) AllP.nil)))))))))
end Go.Flow.Tryz
namespace Go.Flow.Tryz
open Go Go.Proofs Go.RowKit Go.Flow
set_option maxRecDepth 100000
theorem cmpZ_lt (a b : Int) : cmpZ a b < 0 ↔ a < b := by unfold cmpZ; split <;> (try split) <;> omega
theorem cmpZ_gt (a b : Int) : cmpZ a b > 0 ↔ a > b := by unfold cmpZ; split <;> (try split) <;> omega
theorem min_ok (k l : Int) (n m : Nat) (hn : 0 < n) (hm : 0 < m) (hk : k.natAbs < 1000000000) (hl : l.natAbs < 1000000000) (hn9 : n < 1000000000) (hm9 : m < 1000000000) :
    CallsTo Tryz.prog 78 [sv (fT k n), sv (fT l m)] (if l * n < k * m then sv (fT l m) else sv (fT k n)) := by
  have hc := cmp_ok l k m n hm hn hl hk hm9 hn9
  split
  · rename_i h
    exact min_right_ok _ _ _ (AllP.cons hc (AllP.cons (decide_eq_true ((cmpZ_lt _ _).2 h)) AllP.nil))
  · rename_i h
    exact min_left_ok _ _ _ (AllP.cons hc (AllP.cons (decide_eq_false fun e => h ((cmpZ_lt _ _).1 e)) AllP.nil))
theorem max_ok (k l : Int) (n m : Nat) (hn : 0 < n) (hm : 0 < m) (hk : k.natAbs < 1000000000) (hl : l.natAbs < 1000000000) (hn9 : n < 1000000000) (hm9 : m < 1000000000) :
    CallsTo Tryz.prog 77 [sv (fT k n), sv (fT l m)] (if l * n > k * m then sv (fT l m) else sv (fT k n)) := by
  have hc := cmp_ok l k m n hm hn hl hk hm9 hn9
  split
  · rename_i h
    exact max_right_ok _ _ _ (AllP.cons hc (AllP.cons (decide_eq_true ((cmpZ_gt _ _).2 h)) AllP.nil))
  · rename_i h
    exact max_left_ok _ _ _ (AllP.cons hc (AllP.cons (decide_eq_false fun e => h ((cmpZ_gt _ _).1 e)) AllP.nil))
end Go.Flow.Tryz
namespace Go.Flow.Tryz
open Go Go.Proofs Go.RowKit Go.Flow
set_option maxRecDepth 100000
theorem iof_ok (n : Int) (r : List UInt8) (h : AllP
    [CallsTo Tryz.prog (107 : Nat) [iv (n)] (sv r)]) :
    CallsTo Tryz.prog 59 [iv (n)] (sv r) :=
  fn_ok fits hmix Tryz.func59 (by kernel_rfl)
    [Orc.a (sv r)] (by kernel_rfl) h
theorem isign_zero_ok (s : List UInt8) (h : AllP
    [(ByteArray.toList (bstr s) == [(48 : UInt8)]) = true]) :
    CallsTo Tryz.prog 98 [sv s] (iv 0) :=
  fn_ok fits hmix Tryz.func98 (by kernel_rfl)
    [Orc.b true] (by kernel_rfl) h
theorem isign_neg_ok (s : List UInt8) (h : AllP
    [(ByteArray.toList (bstr s) == [(48 : UInt8)]) = false,
     CallsTo Tryz.prog (126 : Nat) [sv s, strv ({ data := #[(45 : UInt8)] })] (bv (true)),
     true = true]) :
    CallsTo Tryz.prog 98 [sv s] (iv ((-1 : Int))) :=
  fn_ok fits hmix Tryz.func98 (by kernel_rfl)
    [Orc.b false, Orc.a (bv (true)), Orc.b true] (by kernel_rfl) h
theorem isign_pos_ok (s : List UInt8) (h : AllP
    [(ByteArray.toList (bstr s) == [(48 : UInt8)]) = false,
     CallsTo Tryz.prog (126 : Nat) [sv s, strv ({ data := #[(45 : UInt8)] })] (bv (false)),
     false = false]) :
    CallsTo Tryz.prog 98 [sv s] (iv 1) :=
  fn_ok fits hmix Tryz.func98 (by kernel_rfl)
    [Orc.b false, Orc.a (bv (false)), Orc.b false] (by kernel_rfl) h
theorem whole_any_ok (n : Int) (r : List UInt8) (h : AllP
    [CallsTo Tryz.prog (59 : Nat) [iv (n)] (sv r)]) :
    CallsTo Tryz.prog 95 [iv (n)] (sv r) :=
  fn_ok fits hmix Tryz.func95 (by kernel_rfl)
    [Orc.a (sv r)] (by kernel_rfl) h
theorem of_any_ok (n : Int) (m : Int) (c : Int) (a : List UInt8) (b : List UInt8) (r : List UInt8) (h : AllP
    [CallsTo Tryz.prog (59 : Nat) [iv (n)] (sv a),
     CallsTo Tryz.prog (59 : Nat) [iv (m)] (sv b),
     CallsTo Tryz.prog (58 : Nat) [sv a, sv b] (AV.tup [sv r, iv (c)])]) :
    CallsTo Tryz.prog 17 [iv (n), iv (m)] (AV.tup [sv r, iv (c)]) :=
  fn_ok fits hmix Tryz.func17 (by kernel_rfl)
    [Orc.a (sv a), Orc.a (sv b), Orc.a (AV.tup [sv r, iv (c)])] (by kernel_rfl) h
theorem new_any_ok (a : List UInt8) (b : List UInt8) (r : List UInt8) (s : Int) (h : AllP
    [CallsTo Tryz.prog (98 : Nat) [sv b] (iv (s)),
     (s == (0 : Int)) = false,
     CallsTo Tryz.prog (61 : Nat) [sv a, sv b] (sv r)]) :
    CallsTo Tryz.prog 58 [sv a, sv b] (AV.tup [sv r, iv 0]) :=
  fn_ok fits hmix Tryz.func58 (by kernel_rfl)
    [Orc.a (iv (s)), Orc.b false, Orc.a (sv r)] (by kernel_rfl) h
theorem join_one_ok (a : List UInt8) (b : List UInt8) (h : AllP
    [(ByteArray.toList (bstr b) == [(49 : UInt8)]) = true]) :
    CallsTo Tryz.prog 110 [sv a, sv b] (sv a) :=
  fn_ok fits hmix Tryz.func110 (by kernel_rfl)
    [Orc.b true] (by kernel_rfl) h
theorem join_any_ok (a : List UInt8) (b : List UInt8) (h : AllP
    [(ByteArray.toList (bstr b) == [(49 : UInt8)]) = false,
     (↑(ByteArray.size (bstr a) + nat_lit 1) : Int) ≤ IntKind.max IntKind.i64,
     (↑(ByteArray.size ((bstr a) ++ { data := #[(47 : UInt8)] }) + ByteArray.size (bstr b)) : Int) ≤ IntKind.max IntKind.i64]) :
    CallsTo Tryz.prog 110 [sv a, sv b] (strv (((bstr a) ++ { data := #[(47 : UInt8)] } ++ (bstr b)))) :=
  fn_ok fits hmix Tryz.func110 (by kernel_rfl)
    [Orc.b false] (by kernel_rfl) h
theorem ineg_pos_ok (s : List UInt8) (h : AllP
    [CallsTo Tryz.prog (98 : Nat) [sv s] (iv 1),
     true = true,
     (↑(nat_lit 1 + ByteArray.size (bstr s)) : Int) ≤ IntKind.max IntKind.i64]) :
    CallsTo Tryz.prog 108 [sv s] (strv (({ data := #[(45 : UInt8)] } ++ (bstr s)))) :=
  fn_ok fits hmix Tryz.func108 (by kernel_rfl)
    [Orc.a (iv 1), Orc.b true] (by kernel_rfl) h
theorem ineg_neg_ok (s : List UInt8) (h : AllP
    [CallsTo Tryz.prog (98 : Nat) [sv s] (iv ((-1 : Int))),
     false = false,
     true = true,
     (0 : Int) ≤ (1 : Int) ∧ (1 : Int) ≤ (↑(ByteArray.size (bstr s)) : Int) ∧ (↑(ByteArray.size (bstr s)) : Int) ≤ (↑(ByteArray.size (bstr s)) : Int)]) :
    CallsTo Tryz.prog 108 [sv s] (strv ((ByteArray.extract (bstr s) (1 : Nat) (Int.toNat (↑(ByteArray.size (bstr s)) : Int))))) :=
  fn_ok fits hmix Tryz.func108 (by kernel_rfl)
    [Orc.a (iv ((-1 : Int))), Orc.b false, Orc.b true] (by kernel_rfl) h
theorem iquick_ok_ok (s : List UInt8) (k : Int) (n : Int) (h : AllP
    [decide ((↑(ByteArray.size (bstr s)) : Int) > k) = false,
     CallsTo Tryz.prog (129 : Nat) [sv s] (AV.tup [iv (n), AV.v Value.nilIface]),
     PureOp Tryz.prog { dst := some (19 : Nat), op := Op.binOp BinOp.eql (176 : Nat) (Operand.tmp (18 : Nat)) (Operand.const Value.nilIface) (176 : Nat), type := nat_lit 4, pos := "integer.go:189", after := { toList := [{ on := nat_lit 1, ground := Ground.data }, { on := nat_lit 3, ground := Ground.gcOnly Departure.lateStores }] }, guard := none } [sv s, iv (k), uu, uu, iv 0, bv (false), iv (n), AV.v Value.nilIface, sv s, iv ((↑(ByteArray.size (bstr s)) : Int)), iv (k), bv ((decide ((↑(ByteArray.size (bstr s)) : Int) > k))), AV.tup [iv (n), AV.v Value.nilIface], sv s, AV.tup [iv (n), AV.v Value.nilIface], iv (n), AV.v Value.nilIface, iv (n), AV.v Value.nilIface, uu] (bv (true))]) :
    CallsTo Tryz.prog 101 [sv s, iv (k)] (AV.tup [iv (n), bv (true)]) :=
  fn_ok fits hmix Tryz.func101 (by kernel_rfl)
    [Orc.b false, Orc.a (AV.tup [iv (n), AV.v Value.nilIface]), Orc.x (bv (true))] (by kernel_rfl) h
theorem parts_whole_ok (s : List UInt8) (a : List UInt8) (b : List UInt8) (h : AllP
    [CallsTo Tryz.prog (49 : Nat) [sv s, strv ({ data := #[(47 : UInt8)] })] (AV.tup [sv a, sv b, bv (false)]),
     true = true]) :
    CallsTo Tryz.prog 54 [sv s] (AV.tup [sv a, strv ({ data := #[(49 : UInt8)] })]) :=
  fn_ok fits hmix Tryz.func54 (by kernel_rfl)
    [Orc.a (AV.tup [sv a, sv b, bv (false)]), Orc.b true] (by kernel_rfl) h
theorem parts_frac_ok (s : List UInt8) (a : List UInt8) (b : List UInt8) (h : AllP
    [CallsTo Tryz.prog (49 : Nat) [sv s, strv ({ data := #[(47 : UInt8)] })] (AV.tup [sv a, sv b, bv (true)]),
     false = false]) :
    CallsTo Tryz.prog 54 [sv s] (AV.tup [sv a, sv b]) :=
  fn_ok fits hmix Tryz.func54 (by kernel_rfl)
    [Orc.a (AV.tup [sv a, sv b, bv (true)]), Orc.b false] (by kernel_rfl) h
end Go.Flow.Tryz
namespace Go.Flow.Tryz
open Go Go.Proofs Go.RowKit Go.Flow
set_option maxRecDepth 100000
theorem open_one_ok (s : List UInt8) (u : List UInt8) (m : Bool) (x : Int) (L : List Value) (h : AllP
    [CallsTo Tryz.prog (97 : Nat) [sv s, strv ({ data := #[(45 : UInt8)] })] (AV.tup [sv u, bv (m)]),
     (9 : Int) ≠ (0 : Int),
     IntKind.wrap IntKind.i64 (Int.tdiv (↑(ByteArray.size (bstr u)) : Int) (9 : Int)) = Int.tdiv (↑(ByteArray.size (bstr u)) : Int) (9 : Int),
     IntKind.wrap IntKind.i64 (Int.tdiv (↑(ByteArray.size (bstr u)) : Int) (9 : Int) + (1 : Int)) = Int.tdiv (↑(ByteArray.size (bstr u)) : Int) (9 : Int) + (1 : Int),
     (0 : Int) ≤ (0 : Int) ∧ (0 : Int) ≤ Int.tdiv (↑(ByteArray.size (bstr u)) : Int) (9 : Int) + (1 : Int) ∧ Int.tdiv (↑(ByteArray.size (bstr u)) : Int) (9 : Int) + (1 : Int) ≤ (9223372036854775807 : Int) ∧ (Int.tdiv (↑(ByteArray.size (bstr u)) : Int) (9 : Int) + (1 : Int)) * (↑(8 : Nat) : Int) ≤ (281474976710656 : Int),
     decide ((↑(ByteArray.size (bstr u)) : Int) > (0 : Int)) = true,
     IntKind.wrap IntKind.i64 ((↑(ByteArray.size (bstr u)) : Int) - (9 : Int)) = (↑(ByteArray.size (bstr u)) : Int) - (9 : Int),
     ((0 : Int) ≤ if (0 : Int) > (↑(ByteArray.size (bstr u)) : Int) - (9 : Int) then (0 : Int) else (↑(ByteArray.size (bstr u)) : Int) - (9 : Int)) ∧ (if (0 : Int) > (↑(ByteArray.size (bstr u)) : Int) - (9 : Int) then (0 : Int) else (↑(ByteArray.size (bstr u)) : Int) - (9 : Int)) ≤ (↑(ByteArray.size (bstr u)) : Int) ∧ (↑(ByteArray.size (bstr u)) : Int) ≤ (↑(ByteArray.size (bstr u)) : Int),
     CallsTo Tryz.prog (130 : Nat) [strv ((ByteArray.extract (bstr u) (Int.toNat (if (0 : Int) > (↑(ByteArray.size (bstr u)) : Int) - (9 : Int) then (0 : Int) else (↑(ByteArray.size (bstr u)) : Int) - (9 : Int))) (Int.toNat (↑(ByteArray.size (bstr u)) : Int)))), iv 10, iv 64] (AV.tup [uv (x), AV.v Value.nilIface]),
     nat_lit 1 ≤ nat_lit 9223372036854775807 ∧ nat_lit 8 ≤ nat_lit 140737488355328,
     (0 : Int) ≤ (0 : Int) ∧ ((0 : Int) ≤ if (0 : Int) > (↑(ByteArray.size (bstr u)) : Int) - (9 : Int) then (0 : Int) else (↑(ByteArray.size (bstr u)) : Int) - (9 : Int)) ∧ (if (0 : Int) > (↑(ByteArray.size (bstr u)) : Int) - (9 : Int) then (0 : Int) else (↑(ByteArray.size (bstr u)) : Int) - (9 : Int)) ≤ (↑(ByteArray.size (bstr u)) : Int),
     decide ((↑(ByteArray.size (ByteArray.extract (bstr u) (Int.toNat (0 : Int)) (Int.toNat (if (0 : Int) > (↑(ByteArray.size (bstr u)) : Int) - (9 : Int) then (0 : Int) else (↑(ByteArray.size (bstr u)) : Int) - (9 : Int))))) : Int) > (0 : Int)) = false,
     CallsTo Tryz.prog (131 : Nat) [AV.lst 1 [uv (x)]] (AV.ls L)]) :
    CallsTo Tryz.prog 102 [sv s] (AV.agg [bv (m), AV.ls L]) :=
  fn_ok fits hmix Tryz.func102 (by kernel_rfl)
    [Orc.a (AV.tup [sv u, bv (m)]), Orc.u (2 : Nat), Orc.b true, Orc.a (AV.tup [uv (x), AV.v Value.nilIface]), Orc.b false, Orc.a (AV.ls L)] (by kernel_rfl) h
theorem dm_pos_ok (s : List UInt8) (u : List UInt8) (a : List UInt8) (b : List UInt8) (x : Int) (y : Int) (q : Int) (h : AllP
    [(ByteArray.toList (bstr u) == [(48 : UInt8)]) = false,
     CallsTo Tryz.prog (102 : Nat) [sv s] (AV.agg [bv (false), AV.lst 1 [uv (x)]]),
     CallsTo Tryz.prog (102 : Nat) [sv u] (AV.agg [bv (false), AV.lst 1 [uv (y)]]),
     CallsTo Tryz.prog (103 : Nat) [AV.lst 1 [uv (x)], AV.lst 1 [uv (y)]] (AV.tup [AV.lst 1 [uv (q)], AV.lst 1 []]),
     false = false,
     false = false,
     false = false,
     false = false,
     false = false,
     PureOp Tryz.prog { dst := some (43 : Nat), op := Op.binOp BinOp.neq (4 : Nat) (Operand.tmp (40 : Nat)) (Operand.tmp (42 : Nat)) (4 : Nat), type := nat_lit 4, pos := "integer.go:347", after := { toList := [{ on := nat_lit 1, ground := Ground.data }, { on := nat_lit 3, ground := Ground.data }] }, guard := none } [sv s, sv u, uu, uu, strv ({ data := #[] }), strv ({ data := #[] }), iv 0, AV.op 0 0, AV.op 1 0, AV.lst 1 [uv (q)], AV.lst 1 [], sv u, bv ((ByteArray.toList (bstr u) == [(48 : UInt8)])), sv s, AV.agg [bv (false), AV.lst 1 [uv (x)]], sv u, AV.agg [bv (false), AV.lst 1 [uv (y)]], AV.tup [AV.lst 1 [uv (q)], AV.lst 1 []], AV.op 0 1, AV.lst 1 [uv (x)], AV.op 1 1, AV.lst 1 [uv (y)], AV.tup [AV.lst 1 [uv (q)], AV.lst 1 []], AV.lst 1 [uv (q)], AV.lst 1 [], AV.op 0 0, bv (false), bv (false), uu, uu, uu, bv (false), uu, uu, uu, uu, uu, uu, uu, AV.op 0 0, bv (false), AV.op 1 0, bv (false), uu, uu, uu, uu, uu, uu, uu] (bv (false)),
     CallsTo Tryz.prog (104 : Nat) [AV.agg [bv (false), AV.lst 1 [uv (q)]]] (sv a),
     CallsTo Tryz.prog (104 : Nat) [AV.agg [bv (false), AV.lst 1 []]] (sv b)]) :
    CallsTo Tryz.prog 109 [sv s, sv u] (AV.tup [sv a, sv b, iv 0]) :=
  fn_ok fits hmix Tryz.func109 (by kernel_rfl)
    [Orc.b false, Orc.a (AV.agg [bv (false), AV.lst 1 [uv (x)]]), Orc.a (AV.agg [bv (false), AV.lst 1 [uv (y)]]), Orc.a (AV.tup [AV.lst 1 [uv (q)], AV.lst 1 []]), Orc.b false, Orc.b false, Orc.b false, Orc.b false, Orc.b false, Orc.x (bv (false)), Orc.a (sv a), Orc.a (sv b)] (by kernel_rfl) h
theorem dm_neg_ok (s : List UInt8) (u : List UInt8) (a : List UInt8) (b : List UInt8) (x : Int) (y : Int) (q : Int) (h : AllP
    [(ByteArray.toList (bstr u) == [(48 : UInt8)]) = false,
     CallsTo Tryz.prog (102 : Nat) [sv s] (AV.agg [bv (true), AV.lst 1 [uv (x)]]),
     CallsTo Tryz.prog (102 : Nat) [sv u] (AV.agg [bv (false), AV.lst 1 [uv (y)]]),
     CallsTo Tryz.prog (103 : Nat) [AV.lst 1 [uv (x)], AV.lst 1 [uv (y)]] (AV.tup [AV.lst 1 [uv (q)], AV.lst 1 []]),
     true = true,
     true = true,
     true = true,
     true = true,
     false = false,
     PureOp Tryz.prog { dst := some (43 : Nat), op := Op.binOp BinOp.neq (4 : Nat) (Operand.tmp (40 : Nat)) (Operand.tmp (42 : Nat)) (4 : Nat), type := nat_lit 4, pos := "integer.go:347", after := { toList := [{ on := nat_lit 1, ground := Ground.data }, { on := nat_lit 3, ground := Ground.data }] }, guard := none } [sv s, sv u, uu, uu, strv ({ data := #[] }), strv ({ data := #[] }), iv 0, AV.op 0 0, AV.op 1 0, AV.lst 1 [uv (q)], AV.lst 1 [], sv u, bv ((ByteArray.toList (bstr u) == [(48 : UInt8)])), sv s, AV.agg [bv (true), AV.lst 1 [uv (x)]], sv u, AV.agg [bv (false), AV.lst 1 [uv (y)]], AV.tup [AV.lst 1 [uv (q)], AV.lst 1 []], AV.op 0 1, AV.lst 1 [uv (x)], AV.op 1 1, AV.lst 1 [uv (y)], AV.tup [AV.lst 1 [uv (q)], AV.lst 1 []], AV.lst 1 [uv (q)], AV.lst 1 [], AV.op 0 0, bv (true), bv (true), AV.lst 1 [], iv ((↑(0 : Nat) : Int)), bv (false), bv (false), uu, uu, uu, uu, uu, uu, uu, AV.op 0 0, bv (true), AV.op 1 0, bv (false), uu, uu, uu, uu, uu, uu, uu] (bv (true)),
     CallsTo Tryz.prog (104 : Nat) [AV.agg [bv (true), AV.lst 1 [uv (q)]]] (sv a),
     CallsTo Tryz.prog (104 : Nat) [AV.agg [bv (false), AV.lst 1 []]] (sv b)]) :
    CallsTo Tryz.prog 109 [sv s, sv u] (AV.tup [sv a, sv b, iv 0]) :=
  fn_ok fits hmix Tryz.func109 (by kernel_rfl)
    [Orc.b false, Orc.a (AV.agg [bv (true), AV.lst 1 [uv (x)]]), Orc.a (AV.agg [bv (false), AV.lst 1 [uv (y)]]), Orc.a (AV.tup [AV.lst 1 [uv (q)], AV.lst 1 []]), Orc.b true, Orc.b true, Orc.b true, Orc.b true, Orc.b false, Orc.x (bv (true)), Orc.a (sv a), Orc.a (sv b)] (by kernel_rfl) h
theorem dm_zero_ok (s : List UInt8) (u : List UInt8) (a : List UInt8) (b : List UInt8) (y : Int) (h : AllP
    [(ByteArray.toList (bstr u) == [(48 : UInt8)]) = false,
     CallsTo Tryz.prog (102 : Nat) [sv s] (AV.agg [bv (false), AV.lst 1 []]),
     CallsTo Tryz.prog (102 : Nat) [sv u] (AV.agg [bv (false), AV.lst 1 [uv (y)]]),
     CallsTo Tryz.prog (103 : Nat) [AV.lst 1 [], AV.lst 1 [uv (y)]] (AV.tup [AV.v (Value.slice none 0 0), AV.lst 1 []]),
     false = false,
     false = false,
     false = false,
     false = false,
     false = false,
     PureOp Tryz.prog { dst := some (43 : Nat), op := Op.binOp BinOp.neq (4 : Nat) (Operand.tmp (40 : Nat)) (Operand.tmp (42 : Nat)) (4 : Nat), type := nat_lit 4, pos := "integer.go:347", after := { toList := [{ on := nat_lit 1, ground := Ground.data }, { on := nat_lit 3, ground := Ground.data }] }, guard := none } [sv s, sv u, uu, uu, strv ({ data := #[] }), strv ({ data := #[] }), iv 0, AV.op 0 0, AV.op 1 0, AV.v (Value.slice none 0 0), AV.lst 1 [], sv u, bv ((ByteArray.toList (bstr u) == [(48 : UInt8)])), sv s, AV.agg [bv (false), AV.lst 1 []], sv u, AV.agg [bv (false), AV.lst 1 [uv (y)]], AV.tup [AV.v (Value.slice none 0 0), AV.lst 1 []], AV.op 0 1, AV.lst 1 [], AV.op 1 1, AV.lst 1 [uv (y)], AV.tup [AV.v (Value.slice none 0 0), AV.lst 1 []], AV.v (Value.slice none 0 0), AV.lst 1 [], AV.op 0 0, bv (false), bv (false), uu, uu, uu, bv (false), uu, uu, uu, uu, uu, uu, uu, AV.op 0 0, bv (false), AV.op 1 0, bv (false), uu, uu, uu, uu, uu, uu, uu] (bv (false)),
     CallsTo Tryz.prog (104 : Nat) [AV.agg [bv (false), AV.v (Value.slice none 0 0)]] (sv a),
     CallsTo Tryz.prog (104 : Nat) [AV.agg [bv (false), AV.lst 1 []]] (sv b)]) :
    CallsTo Tryz.prog 109 [sv s, sv u] (AV.tup [sv a, sv b, iv 0]) :=
  fn_ok fits hmix Tryz.func109 (by kernel_rfl)
    [Orc.b false, Orc.a (AV.agg [bv (false), AV.lst 1 []]), Orc.a (AV.agg [bv (false), AV.lst 1 [uv (y)]]), Orc.a (AV.tup [AV.v (Value.slice none 0 0), AV.lst 1 []]), Orc.b false, Orc.b false, Orc.b false, Orc.b false, Orc.b false, Orc.x (bv (false)), Orc.a (sv a), Orc.a (sv b)] (by kernel_rfl) h
theorem close_znil_ok (m : Bool) (h : AllP
    [true = true]) :
    CallsTo Tryz.prog 104 [AV.agg [bv (m), AV.v (Value.slice none 0 0)]] (strv ({ data := #[(48 : UInt8)] })) :=
  fn_ok fits hmix Tryz.func104 (by kernel_rfl)
    [Orc.b true] (by kernel_rfl) h
theorem low_one_ok (s : List UInt8) (u : List UInt8) (r : List UInt8) (h : AllP
    [CallsTo Tryz.prog (98 : Nat) [sv u] (iv 1),
     false = false,
     CallsTo Tryz.prog (52 : Nat) [sv s, sv u] (strv ((bstr ([(49 : UInt8)])))),
     false = false,
     CallsTo Tryz.prog (110 : Nat) [sv s, sv u] (sv r)]) :
    CallsTo Tryz.prog 61 [sv s, sv u] (sv r) :=
  fn_ok fits hmix Tryz.func61 (by kernel_rfl)
    [Orc.a (iv 1), Orc.b false, Orc.a (strv ((bstr ([(49 : UInt8)])))), Orc.b false, Orc.a (sv r)] (by kernel_rfl) h
theorem low_any_ok (s : List UInt8) (u : List UInt8) (g : List UInt8) (a : List UInt8) (b : List UInt8) (c : List UInt8) (d : List UInt8) (r : List UInt8) (h : AllP
    [CallsTo Tryz.prog (98 : Nat) [sv u] (iv 1),
     false = false,
     CallsTo Tryz.prog (52 : Nat) [sv s, sv u] (sv g),
     (!ByteArray.toList (bstr g) == [(49 : UInt8)]) = true,
     CallsTo Tryz.prog (109 : Nat) [sv s, sv g] (AV.tup [sv a, sv b, iv 0]),
     CallsTo Tryz.prog (109 : Nat) [sv u, sv g] (AV.tup [sv c, sv d, iv 0]),
     CallsTo Tryz.prog (110 : Nat) [sv a, sv c] (sv r)]) :
    CallsTo Tryz.prog 61 [sv s, sv u] (sv r) :=
  fn_ok fits hmix Tryz.func61 (by kernel_rfl)
    [Orc.a (iv 1), Orc.b false, Orc.a (sv g), Orc.b true, Orc.a (AV.tup [sv a, sv b, iv 0]), Orc.a (AV.tup [sv c, sv d, iv 0]), Orc.a (sv r)] (by kernel_rfl) h
theorem igcd_step_step (s : List UInt8) (u : List UInt8) (x : Int) (y : Int) {ex : Ex} {T2 : List AV} {H2 : Heap} (m : Nat) (h : AllP
    [(y != (0 : Int)) = true,
     y ≠ (0 : Int)])
    (h2 : Rounds Tryz.prog (bodyOf (loopAt Tryz.f52 (0 : Nat))) m (st 56 [sv s, sv u, uu, uu, strv ((bstr ([]))), iv (y), bv (true), iv ((Int.tmod x y)), bv (true)]) [] ex T2 H2) :
    Rounds Tryz.prog (bodyOf (loopAt Tryz.f52 (0 : Nat))) (m + 1) (st 56 [sv s, sv u, uu, uu, strv ((bstr ([]))), iv (x), bv (true), iv (y), bv (true)]) [] ex T2 H2 :=
  Rounds.step_of fits hmix [Orc.b true] (9 : Nat) [] (by kernel_rfl) h h2
theorem igcd_end_out (s : List UInt8) (u : List UInt8) (x : Int) (y : Int) (m : Nat) (h : AllP
    [(y != (0 : Int)) = false]) :
    Rounds Tryz.prog (bodyOf (loopAt Tryz.f52 (0 : Nat))) (m + 1) (st 56 [sv s, sv u, uu, uu, strv ((bstr ([]))), iv (x), bv (true), iv (y), bv (true)]) [] (Ex.exit (0 : Nat)) (st 56 [sv s, sv u, uu, uu, strv ((bstr ([]))), iv (x), bv (true), iv (y), bv (true)]) [] :=
  Rounds.out_of fits hmix [Orc.b false] (9 : Nat) [] m (by simp) (by kernel_rfl) h
theorem igcd_ok (s : List UInt8) (u : List UInt8) (r : List UInt8) (x : Int) (y : Int) (g : Int) (h : AllP
    [CallsTo Tryz.prog (101 : Nat) [sv s, iv 18] (AV.tup [iv (x), bv (true)]),
     true = true,
     CallsTo Tryz.prog (101 : Nat) [sv u, iv 18] (AV.tup [iv (y), bv (true)]),
     true = true,
     Goes Tryz.prog (loopAt Tryz.f52 (0 : Nat)) (st 56 [sv s, sv u, uu, uu, strv ({ data := #[] }), iv (x), bv (true), iv (y), bv (true)]) [] (Ex.exit (0 : Nat)) (st 56 [sv s, sv u, uu, uu, strv ((bstr ([]))), iv (g), bv (true), iv 0, bv (true)]) [],
     IntKind.wrap IntKind.i64 ((0 : Int) - g) = -g,
     CallsTo Tryz.prog (59 : Nat) [iv ((if -g > g then -g else g))] (sv r)]) :
    CallsTo Tryz.prog 52 [sv s, sv u] (sv r) :=
  fn_ok fits hmix Tryz.func52 (by kernel_rfl)
    [Orc.a (AV.tup [iv (x), bv (true)]), Orc.b true, Orc.a (AV.tup [iv (y), bv (true)]), Orc.b true, .s (9 : Nat) (Ex.exit (0 : Nat)) (st 56 [sv s, sv u, uu, uu, strv ((bstr ([]))), iv (g), bv (true), iv 0, bv (true)]) [], Orc.a (sv r)] (by kernel_rfl) h
end Go.Flow.Tryz
namespace Go.Flow.Tryz
open Go Go.Proofs Go.RowKit Go.Flow
abbrev dn : Nat := 146
abbrev dT (x : Int) : List AV := [.lst 1 [uv x], .any, .any, .op 0 0, .op 1 0, .v (.slice none 0 0), .op 3 0]
abbrev dT0 (x : Int) : List AV := dT x ++ List.replicate 15 .any ++ [.lst 1 [uv x], iv 1, .own 2, .lst 1 [uv x], .fn 171 [.lp [.lst 1 [uv x]]]]
abbrev dH (y q r : Int) : List (Option AObj) := [some (.box false 147 [.lst 1 [uv y]]), some (.box false 147 [.own 2]), some (.row false 179 1 [uv q]), some (.box false 179 [uv r])]
end Go.Flow.Tryz
namespace Go.Flow.Tryz
open Go Go.Proofs Go.RowKit Go.Flow
set_option maxRecDepth 100000
theorem trim_nz_ok (x : Int) (h : AllP
    [true = true,
     true = true,
     true = true,
     true = true,
     IntKind.wrap IntKind.i64 ((↑(1 : Nat) : Int) - (1 : Int)) = (↑(1 : Nat) : Int) - (1 : Int),
     true = true,
     (0 : Int) ≤ (↑(1 : Nat) : Int) - (1 : Int) ∧ some (uv (x)) = some (uv (x)),
     true = true,
     true = true,
     true = true,
     (x == (0 : Int)) = false]) :
    CallsTo Tryz.prog 131 [AV.lst 1 [uv (x)]] (AV.lst 1 [uv (x)]) :=
  fn_ok fits hmix Tryz.func131 (by kernel_rfl)
    [Orc.u (1 : Nat), Orc.b true, Orc.b true, Orc.b true, Orc.b true, Orc.b true, Orc.a (uv (x)), Orc.b true, Orc.b true, Orc.b true, Orc.b false] (by kernel_rfl) h
theorem trim_z_ok (x : Int) (h : AllP
    [true = true,
     true = true,
     true = true,
     true = true,
     IntKind.wrap IntKind.i64 ((↑(1 : Nat) : Int) - (1 : Int)) = (↑(1 : Nat) : Int) - (1 : Int),
     true = true,
     (0 : Int) ≤ (↑(1 : Nat) : Int) - (1 : Int) ∧ some (uv (x)) = some (uv (x)),
     true = true,
     true = true,
     true = true,
     (x == (0 : Int)) = true,
     IntKind.wrap IntKind.i64 ((↑(1 : Nat) : Int) - (1 : Int)) = (↑(1 : Nat) : Int) - (1 : Int),
     (0 : Int) ≤ (0 : Int) ∧ (0 : Int) ≤ (↑(1 : Nat) : Int) - (1 : Int) ∧ (↑(1 : Nat) : Int) - (1 : Int) ≤ (↑(1 : Nat) : Int),
     false = false,
     false = false,
     false = false,
     false = false,
     false = false,
     false = false,
     false = false,
     false = false,
     false = false]) :
    CallsTo Tryz.prog 131 [AV.lst 1 [uv (x)]] (AV.lst 1 []) :=
  fn_ok fits hmix Tryz.func131 (by kernel_rfl)
    [Orc.u (2 : Nat), Orc.b true, Orc.b true, Orc.b true, Orc.b true, Orc.b true, Orc.a (uv (x)), Orc.b true, Orc.b true, Orc.b true, Orc.b true, Orc.b false, Orc.b false, Orc.b false, Orc.b false, Orc.b false, Orc.b false, Orc.b false, Orc.b false, Orc.b false] (by kernel_rfl) h
theorem ord_short_ok (y : Int) (h : AllP
    [true = true,
     true = true]) :
    CallsTo Tryz.prog 112 [AV.lst 1 [], AV.lst 1 [uv (y)]] (iv ((-1 : Int))) :=
  fn_ok fits hmix Tryz.func112 (by kernel_rfl)
    [Orc.b true, Orc.b true] (by kernel_rfl) h
theorem ord_gt_ok (x : Int) (y : Int) (h : AllP
    [false = false,
     IntKind.wrap IntKind.i64 ((↑(1 : Nat) : Int) - (1 : Int)) = (↑(1 : Nat) : Int) - (1 : Int),
     true = true,
     (0 : Int) ≤ (↑(1 : Nat) : Int) - (1 : Int) ∧ some (uv (x)) = some (uv (x)),
     (0 : Int) ≤ (↑(1 : Nat) : Int) - (1 : Int) ∧ some (uv (y)) = some (uv (y)),
     (x != y) = true,
     (0 : Int) ≤ (↑(1 : Nat) : Int) - (1 : Int) ∧ some (uv (x)) = some (uv (x)),
     (0 : Int) ≤ (↑(1 : Nat) : Int) - (1 : Int) ∧ some (uv (y)) = some (uv (y)),
     decide (x < y) = false]) :
    CallsTo Tryz.prog 112 [AV.lst 1 [uv (x)], AV.lst 1 [uv (y)]] (iv 1) :=
  fn_ok fits hmix Tryz.func112 (by kernel_rfl)
    [Orc.b false, Orc.u (1 : Nat), Orc.b true, Orc.a (uv (x)), Orc.a (uv (y)), Orc.b true, Orc.a (uv (x)), Orc.a (uv (y)), Orc.b false] (by kernel_rfl) h
theorem ord_eq_ok (x : Int) (y : Int) (h : AllP
    [false = false,
     IntKind.wrap IntKind.i64 ((↑(1 : Nat) : Int) - (1 : Int)) = (↑(1 : Nat) : Int) - (1 : Int),
     true = true,
     (0 : Int) ≤ (↑(1 : Nat) : Int) - (1 : Int) ∧ some (uv (x)) = some (uv (x)),
     (0 : Int) ≤ (↑(1 : Nat) : Int) - (1 : Int) ∧ some (uv (y)) = some (uv (y)),
     (x != y) = false,
     IntKind.wrap IntKind.i64 ((↑(1 : Nat) : Int) - (1 : Int) - (1 : Int)) = (↑(1 : Nat) : Int) - (1 : Int) - (1 : Int),
     false = false]) :
    CallsTo Tryz.prog 112 [AV.lst 1 [uv (x)], AV.lst 1 [uv (y)]] (iv 0) :=
  fn_ok fits hmix Tryz.func112 (by kernel_rfl)
    [Orc.b false, Orc.u (2 : Nat), Orc.b true, Orc.a (uv (x)), Orc.a (uv (y)), Orc.b false, Orc.b false] (by kernel_rfl) h
theorem div_zero_ok (y : Int) (h : AllP
    [CallsTo Tryz.prog (112 : Nat) [AV.lst 1 [], AV.lst 1 [uv (y)]] (iv ((-1 : Int))),
     true = true]) :
    CallsTo Tryz.prog 103 [AV.lst 1 [], AV.lst 1 [uv (y)]] (AV.tup [AV.v (Value.slice none 0 0), AV.lst 1 []]) :=
  fn_ok fits hmix Tryz.func103 (by kernel_rfl)
    [Orc.a (iv ((-1 : Int))), Orc.b true] (by kernel_rfl) h
theorem div_one_ok (x : Int) (y : Int) (c : Int) (q : Int) (r : Int) (h : AllP
    [CallsTo Tryz.prog (112 : Nat) [AV.lst 1 [uv (x)], AV.lst 1 [uv (y)]] (iv (c)),
     decide (c < (0 : Int)) = false,
     true = true,
     Same [AV.lst 1 [uv (x)], AV.lst 1 [uv (y)], uu, AV.op 0 0, AV.op 1 0, AV.v (Value.slice none 0 0), uu, uu, uu, uu, uu, uu, uu, uu, AV.lst 1 [uv (x)], AV.lst 1 [uv (y)], iv (c), bv ((decide (c < (0 : Int)))), uu, AV.lst 1 [uv (y)], iv ((↑(1 : Nat) : Int)), bv (true), uu, uu, uu, uu, uu, uu, uu, uu, uu, uu, uu, uu, uu, uu, uu, uu, uu, uu, uu, uu, uu, uu, uu, uu, uu, uu, uu, uu, uu, uu, uu, uu, uu, uu, uu, uu, uu, uu, uu, uu, uu, uu, uu, uu, uu, uu, uu, uu, uu, uu, uu, uu, uu, uu, uu, uu, uu, uu, uu, uu, uu, uu, uu, uu, uu, uu, uu, uu, uu, uu, uu, uu, uu, uu, uu, uu, uu, uu, uu, uu, uu, uu, uu, uu, uu, uu, uu, uu, uu, uu, uu, uu, uu, uu, uu, uu, uu, uu, uu, uu, uu, uu, uu, uu, uu, uu, uu, uu, uu, uu, uu, uu, uu, uu, uu, uu, uu, uu, uu, uu, uu, uu, uu, uu] [some (AObj.box false 147 [AV.lst 1 [uv (y)]]), some (AObj.box false 147 [AV.v (Value.slice none 0 0)])] [AV.lst 1 [uv (x)], AV.any, AV.any, AV.op 0 0, AV.op 1 0, AV.v (Value.slice none 0 0), AV.any, AV.any, AV.any, AV.any, AV.any, AV.any, AV.any, AV.any, AV.any, AV.any, AV.any, AV.any, AV.any, AV.any, AV.any, AV.any, AV.any, AV.any, AV.any, AV.any, AV.any, AV.any, AV.any, AV.any, AV.any, AV.any, AV.any, AV.any, AV.any, AV.any, AV.any, AV.any, AV.any, AV.any, AV.any, AV.any, AV.any, AV.any, AV.any, AV.any, AV.any, AV.any, AV.any, AV.any, AV.any, AV.any, AV.any, AV.any, AV.any, AV.any, AV.any, AV.any, AV.any, AV.any, AV.any, AV.any, AV.any, AV.any, AV.any, AV.any, AV.any, AV.any, AV.any, AV.any, AV.any, AV.any, AV.any, AV.any, AV.any, AV.any, AV.any, AV.any, AV.any, AV.any, AV.any, AV.any, AV.any, AV.any, AV.any, AV.any, AV.any, AV.any, AV.any, AV.any, AV.any, AV.any, AV.any, AV.any, AV.any, AV.any, AV.any, AV.any, AV.any, AV.any, AV.any, AV.any, AV.any, AV.any, AV.any, AV.any, AV.any, AV.any, AV.any, AV.any, AV.any, AV.any, AV.any, AV.any, AV.any, AV.any, AV.any, AV.any, AV.any, AV.any, AV.any, AV.any, AV.any, AV.any, AV.any, AV.any, AV.any, AV.any, AV.any, AV.any, AV.any, AV.any, AV.any, AV.any, AV.any, AV.any, AV.any, AV.any, AV.any, AV.any, AV.any, AV.any, AV.any, AV.any, AV.any, AV.any] [some (AObj.box false 147 [AV.lst 1 [uv (y)]]), some (AObj.box false 147 [AV.v (Value.slice none 0 0)])],
     (0 : Int) ≤ (↑(1 : Nat) : Int) ∧ (↑(1 : Nat) : Int) ≤ (↑(1 : Nat) : Int) ∧ (↑(1 : Nat) : Int) ≤ (9223372036854775807 : Int) ∧ (↑(1 : Nat) : Int) * (↑(8 : Nat) : Int) ≤ (281474976710656 : Int),
     CallsTo Tryz.prog (132 : Nat) [AV.lst 1 [uv (x)]] (AV.fn (171 : Nat) [AV.lp [AV.lst 1 [uv (x)]]]),
     Goes Tryz.prog (loopAt Tryz.f103 (0 : Nat)) (st 146 [AV.lst 1 [uv (x)], AV.any, AV.any, AV.op 0 0, AV.op 1 0, AV.v (Value.slice none 0 0), AV.op 3 0, AV.any, AV.any, AV.any, AV.any, AV.any, AV.any, AV.any, AV.any, AV.any, AV.any, AV.any, AV.any, AV.any, AV.any, AV.any, AV.lst 1 [uv (x)], iv 1, AV.own 2, AV.lst 1 [uv (x)], AV.fn (171 : Nat) [AV.lp [AV.lst 1 [uv (x)]]]]) [some (AObj.box false 147 [AV.lst 1 [uv (y)]]), some (AObj.box false 147 [AV.own 2]), some (AObj.row false 179 1 [uv ((0 : Int))]), some (AObj.box false 179 [uv ((0 : Int))])] (Ex.normal) (st 146 [AV.lst 1 [uv (x)], AV.any, AV.any, AV.op 0 0, AV.op 1 0, AV.v (Value.slice none 0 0), AV.op 3 0, AV.any, AV.any, AV.any, AV.any, AV.any, AV.any, AV.any, AV.any, AV.any, AV.any, AV.any, AV.any, AV.any, AV.any, AV.any, AV.lst 1 [uv (x)], iv 1, AV.own 2, AV.lst 1 [uv (x)], AV.fn (171 : Nat) [AV.lp [AV.lst 1 [uv (x)]]]]) [some (AObj.box false 147 [AV.lst 1 [uv (y)]]), some (AObj.box false 147 [AV.own 2]), some (AObj.row false 179 1 [uv (q)]), some (AObj.box false 179 [uv (r)]), some (AObj.aux { place := none, obj := Obj.deferred (some []), live := true })],
     CallsTo Tryz.prog (131 : Nat) [AV.lst 1 [uv (q)]] (AV.lst 1 [uv (q)]),
     CallsTo Tryz.prog (131 : Nat) [AV.lst 1 [uv (r)]] (AV.lst 1 [])]) :
    CallsTo Tryz.prog 103 [AV.lst 1 [uv (x)], AV.lst 1 [uv (y)]] (AV.tup [AV.lst 1 [uv (q)], AV.lst 1 []]) :=
  fn_ok fits hmix Tryz.func103 (by kernel_rfl)
    [Orc.a (iv (c)), Orc.b false, Orc.b true, Orc.c [AV.lst 1 [uv (x)], AV.any, AV.any, AV.op 0 0, AV.op 1 0, AV.v (Value.slice none 0 0), AV.any, AV.any, AV.any, AV.any, AV.any, AV.any, AV.any, AV.any, AV.any, AV.any, AV.any, AV.any, AV.any, AV.any, AV.any, AV.any, AV.any, AV.any, AV.any, AV.any, AV.any, AV.any, AV.any, AV.any, AV.any, AV.any, AV.any, AV.any, AV.any, AV.any, AV.any, AV.any, AV.any, AV.any, AV.any, AV.any, AV.any, AV.any, AV.any, AV.any, AV.any, AV.any, AV.any, AV.any, AV.any, AV.any, AV.any, AV.any, AV.any, AV.any, AV.any, AV.any, AV.any, AV.any, AV.any, AV.any, AV.any, AV.any, AV.any, AV.any, AV.any, AV.any, AV.any, AV.any, AV.any, AV.any, AV.any, AV.any, AV.any, AV.any, AV.any, AV.any, AV.any, AV.any, AV.any, AV.any, AV.any, AV.any, AV.any, AV.any, AV.any, AV.any, AV.any, AV.any, AV.any, AV.any, AV.any, AV.any, AV.any, AV.any, AV.any, AV.any, AV.any, AV.any, AV.any, AV.any, AV.any, AV.any, AV.any, AV.any, AV.any, AV.any, AV.any, AV.any, AV.any, AV.any, AV.any, AV.any, AV.any, AV.any, AV.any, AV.any, AV.any, AV.any, AV.any, AV.any, AV.any, AV.any, AV.any, AV.any, AV.any, AV.any, AV.any, AV.any, AV.any, AV.any, AV.any, AV.any, AV.any, AV.any, AV.any, AV.any, AV.any, AV.any, AV.any, AV.any, AV.any, AV.any, AV.any, AV.any] [some (AObj.box false 147 [AV.lst 1 [uv (y)]]), some (AObj.box false 147 [AV.v (Value.slice none 0 0)])], Orc.a (AV.fn (171 : Nat) [AV.lp [AV.lst 1 [uv (x)]]]), .s dn (Ex.normal) (st 146 [AV.lst 1 [uv (x)], AV.any, AV.any, AV.op 0 0, AV.op 1 0, AV.v (Value.slice none 0 0), AV.op 3 0, AV.any, AV.any, AV.any, AV.any, AV.any, AV.any, AV.any, AV.any, AV.any, AV.any, AV.any, AV.any, AV.any, AV.any, AV.any, AV.lst 1 [uv (x)], iv 1, AV.own 2, AV.lst 1 [uv (x)], AV.fn (171 : Nat) [AV.lp [AV.lst 1 [uv (x)]]]]) [some (AObj.box false 147 [AV.lst 1 [uv (y)]]), some (AObj.box false 147 [AV.own 2]), some (AObj.row false 179 1 [uv (q)]), some (AObj.box false 179 [uv (r)]), some (AObj.aux { place := none, obj := Obj.deferred (some []), live := true })], Orc.a (AV.lst 1 [uv (q)]), Orc.a (AV.lst 1 [])] (by kernel_rfl) h
theorem rd_dassign (x : Int) (y : Int) (q : Int) (r : Int) (p : Option Nat) (p' : Option Nat) (o1 : Obj) (o2 : Obj) (vs : List Value) (l : Nat) (h : AllP
    []) :
    GoesIn Tryz.prog (rfA (loopAt Tryz.f103 (0 : Nat))) (st 146 [AV.lst 1 [uv (x)], AV.any, AV.any, AV.op 0 0, AV.op 1 0, AV.v (Value.slice none 0 0), AV.op 3 0, AV.any, AV.any, AV.any, AV.any, AV.any, AV.any, AV.any, AV.any, AV.any, AV.any, AV.any, AV.any, AV.any, AV.any, AV.any, AV.lst 1 [uv (x)], iv 1, AV.own 2, AV.lst 1 [uv (x)], AV.fn (171 : Nat) [AV.lp [AV.lst 1 [uv (x)]]], iv 0, uv (x)]) [some (AObj.box false 147 [AV.lst 1 [uv (y)]]), some (AObj.box false 147 [AV.own 2]), some (AObj.row false 179 1 [uv (q)]), some (AObj.box false 179 [uv (r)]), some (AObj.aux { place := p, obj := o1, live := false }), some (AObj.aux { place := p', obj := o2, live := false }), some (AObj.ghost vs [AV.lst 1 [uv (x)], AV.any, AV.any, AV.op 0 0, AV.op 1 0, AV.v (Value.slice none 0 0), AV.op 3 0, AV.any, AV.any, AV.any, AV.any, AV.any, AV.any, AV.any, AV.any, AV.any, AV.any, AV.any, AV.any, AV.any, AV.any, AV.any, AV.lst 1 [uv (x)], iv 1, AV.own 2, AV.lst 1 [uv (x)], AV.fn (171 : Nat) [AV.lp [AV.lst 1 [uv (x)]]], AV.any, AV.any, AV.any, AV.any, AV.any, AV.any, AV.any, AV.any, AV.any, AV.any, AV.any, AV.any, AV.any, AV.any, AV.any, AV.any, AV.any, AV.any, AV.any, AV.any, AV.any, AV.any, AV.any, AV.any, AV.any, AV.any, AV.any, AV.any, AV.any, AV.any, AV.any, AV.any, AV.any, AV.any, AV.any, AV.any, AV.any, AV.any, AV.any, AV.any, AV.any, AV.any, AV.any, AV.any, AV.any, AV.any, AV.any, AV.any, AV.any, AV.any, AV.any, AV.any, AV.any, AV.any, AV.any, AV.any, AV.any, AV.any, AV.any, AV.any, AV.any, AV.any, AV.any, AV.any, AV.any, AV.any, AV.any, AV.any, AV.any, AV.any, AV.any, AV.any, AV.any, AV.any, AV.any, AV.any, AV.any, AV.any, AV.any, AV.any, AV.any, AV.any, AV.any, AV.any, AV.any, AV.any, AV.any, AV.any, AV.any, AV.any, AV.any, AV.any, AV.any, AV.any, AV.any, AV.any, AV.any, AV.any, AV.any, AV.any, AV.any, AV.any, AV.any, AV.any, AV.any, AV.any, AV.any, AV.any, AV.any, AV.any, AV.any, AV.any, AV.any, AV.any, AV.any, AV.any, AV.any, AV.any, AV.any, AV.v (Value.func (Fn.yield l) { toList := [] } { toList := [] }), AV.lp [AV.lst 1 [uv (x)]], uu, iv 0])] (Ex.normal) (st 146 [AV.lst 1 [uv (x)], AV.any, AV.any, AV.op 0 0, AV.op 1 0, AV.v (Value.slice none 0 0), AV.op 3 0, iv 0, uv (x), AV.any, AV.any, AV.any, AV.any, AV.any, AV.any, AV.any, AV.any, AV.any, AV.any, AV.any, AV.any, AV.any, AV.lst 1 [uv (x)], iv 1, AV.own 2, AV.lst 1 [uv (x)], AV.fn (171 : Nat) [AV.lp [AV.lst 1 [uv (x)]]], iv 0, uv (x)]) [some (AObj.box false 147 [AV.lst 1 [uv (y)]]), some (AObj.box false 147 [AV.own 2]), some (AObj.row false 179 1 [uv (q)]), some (AObj.box false 179 [uv (r)]), some (AObj.aux { place := p, obj := o1, live := false }), some (AObj.aux { place := p', obj := o2, live := false }), some (AObj.ghost vs [AV.lst 1 [uv (x)], AV.any, AV.any, AV.op 0 0, AV.op 1 0, AV.v (Value.slice none 0 0), AV.op 3 0, AV.any, AV.any, AV.any, AV.any, AV.any, AV.any, AV.any, AV.any, AV.any, AV.any, AV.any, AV.any, AV.any, AV.any, AV.any, AV.lst 1 [uv (x)], iv 1, AV.own 2, AV.lst 1 [uv (x)], AV.fn (171 : Nat) [AV.lp [AV.lst 1 [uv (x)]]], AV.any, AV.any, AV.any, AV.any, AV.any, AV.any, AV.any, AV.any, AV.any, AV.any, AV.any, AV.any, AV.any, AV.any, AV.any, AV.any, AV.any, AV.any, AV.any, AV.any, AV.any, AV.any, AV.any, AV.any, AV.any, AV.any, AV.any, AV.any, AV.any, AV.any, AV.any, AV.any, AV.any, AV.any, AV.any, AV.any, AV.any, AV.any, AV.any, AV.any, AV.any, AV.any, AV.any, AV.any, AV.any, AV.any, AV.any, AV.any, AV.any, AV.any, AV.any, AV.any, AV.any, AV.any, AV.any, AV.any, AV.any, AV.any, AV.any, AV.any, AV.any, AV.any, AV.any, AV.any, AV.any, AV.any, AV.any, AV.any, AV.any, AV.any, AV.any, AV.any, AV.any, AV.any, AV.any, AV.any, AV.any, AV.any, AV.any, AV.any, AV.any, AV.any, AV.any, AV.any, AV.any, AV.any, AV.any, AV.any, AV.any, AV.any, AV.any, AV.any, AV.any, AV.any, AV.any, AV.any, AV.any, AV.any, AV.any, AV.any, AV.any, AV.any, AV.any, AV.any, AV.any, AV.any, AV.any, AV.any, AV.any, AV.any, AV.any, AV.any, AV.any, AV.any, AV.any, AV.any, AV.any, AV.any, AV.any, AV.v (Value.func (Fn.yield l) { toList := [] } { toList := [] }), AV.lp [AV.lst 1 [uv (x)]], uu, iv 0])] :=
  GoesIn.of fits hmix (by kernel_rfl) [] dn [(0 : Nat), (1 : Nat), (2 : Nat), (3 : Nat), (4 : Nat), (5 : Nat), (6 : Nat)] (by kernel_rfl) h
theorem rd_dbody (x : Int) (y : Int) (p : Option Nat) (p' : Option Nat) (o1 : Obj) (o2 : Obj) (vs : List Value) (l : Nat) (h : AllP
    [IntKind.wrap IntKind.u64 ((0 : Int) * (1000000000 : Int)) = (0 : Int) * (1000000000 : Int),
     IntKind.wrap IntKind.u64 ((0 : Int) * (1000000000 : Int) + x) = (0 : Int) * (1000000000 : Int) + x,
     (0 : Int) ≤ (0 : Int) ∧ some (uv (y)) = some (uv (y)),
     y ≠ (0 : Int),
     IntKind.wrap IntKind.u64 (Int.tdiv ((0 : Int) * (1000000000 : Int) + x) y) = Int.tdiv ((0 : Int) * (1000000000 : Int) + x) y,
     (0 : Int) ≤ (0 : Int) ∧ some (uv (y)) = some (uv (y)),
     y ≠ (0 : Int),
     (0 : Int) ≤ (0 : Int) ∧ (0 : Int) < (↑(1 : Nat) : Int),
     some (uv ((0 : Int))) = some (uv ((0 : Int)))]) :
    GoesIn Tryz.prog (rfB (loopAt Tryz.f103 (0 : Nat))) (st 146 [AV.lst 1 [uv (x)], AV.any, AV.any, AV.op 0 0, AV.op 1 0, AV.v (Value.slice none 0 0), AV.op 3 0, iv 0, uv (x), AV.any, AV.any, AV.any, AV.any, AV.any, AV.any, AV.any, AV.any, AV.any, AV.any, AV.any, AV.any, AV.any, AV.lst 1 [uv (x)], iv 1, AV.own 2, AV.lst 1 [uv (x)], AV.fn (171 : Nat) [AV.lp [AV.lst 1 [uv (x)]]], iv 0, uv (x)]) [some (AObj.box false 147 [AV.lst 1 [uv (y)]]), some (AObj.box false 147 [AV.own 2]), some (AObj.row false 179 1 [uv ((0 : Int))]), some (AObj.box false 179 [uv ((0 : Int))]), some (AObj.aux { place := p, obj := o1, live := false }), some (AObj.aux { place := p', obj := o2, live := false }), some (AObj.ghost vs [AV.lst 1 [uv (x)], AV.any, AV.any, AV.op 0 0, AV.op 1 0, AV.v (Value.slice none 0 0), AV.op 3 0, AV.any, AV.any, AV.any, AV.any, AV.any, AV.any, AV.any, AV.any, AV.any, AV.any, AV.any, AV.any, AV.any, AV.any, AV.any, AV.lst 1 [uv (x)], iv 1, AV.own 2, AV.lst 1 [uv (x)], AV.fn (171 : Nat) [AV.lp [AV.lst 1 [uv (x)]]], AV.any, AV.any, AV.any, AV.any, AV.any, AV.any, AV.any, AV.any, AV.any, AV.any, AV.any, AV.any, AV.any, AV.any, AV.any, AV.any, AV.any, AV.any, AV.any, AV.any, AV.any, AV.any, AV.any, AV.any, AV.any, AV.any, AV.any, AV.any, AV.any, AV.any, AV.any, AV.any, AV.any, AV.any, AV.any, AV.any, AV.any, AV.any, AV.any, AV.any, AV.any, AV.any, AV.any, AV.any, AV.any, AV.any, AV.any, AV.any, AV.any, AV.any, AV.any, AV.any, AV.any, AV.any, AV.any, AV.any, AV.any, AV.any, AV.any, AV.any, AV.any, AV.any, AV.any, AV.any, AV.any, AV.any, AV.any, AV.any, AV.any, AV.any, AV.any, AV.any, AV.any, AV.any, AV.any, AV.any, AV.any, AV.any, AV.any, AV.any, AV.any, AV.any, AV.any, AV.any, AV.any, AV.any, AV.any, AV.any, AV.any, AV.any, AV.any, AV.any, AV.any, AV.any, AV.any, AV.any, AV.any, AV.any, AV.any, AV.any, AV.any, AV.any, AV.any, AV.any, AV.any, AV.any, AV.any, AV.any, AV.any, AV.any, AV.any, AV.any, AV.any, AV.any, AV.any, AV.any, AV.any, AV.any, AV.any, AV.v (Value.func (Fn.yield l) { toList := [] } { toList := [] }), AV.lp [AV.lst 1 [uv (x)]], uu, iv 0])] (Ex.normal) (st 146 [AV.lst 1 [uv (x)], AV.any, AV.any, AV.op 0 0, AV.op 1 0, AV.v (Value.slice none 0 0), AV.op 3 0, iv 0, uv (x), AV.any, AV.any, AV.any, AV.any, AV.any, AV.any, AV.any, AV.any, AV.any, AV.any, AV.any, AV.any, AV.any, AV.lst 1 [uv (x)], iv 1, AV.own 2, AV.lst 1 [uv (x)], AV.fn (171 : Nat) [AV.lp [AV.lst 1 [uv (x)]]], iv 0, uv (x), uv ((0 : Int)), uv (((0 : Int) * (1000000000 : Int))), uv (x), uv (((0 : Int) * (1000000000 : Int) + x)), AV.own 2, iv 0, uv (((0 : Int) * (1000000000 : Int) + x)), AV.lst 1 [uv (y)], AV.lp [uv (y)], uv (y), uv ((Int.tdiv ((0 : Int) * (1000000000 : Int) + x) y)), uv (((0 : Int) * (1000000000 : Int) + x)), AV.lst 1 [uv (y)], AV.lp [uv (y)], uv (y), uv ((Int.tmod ((0 : Int) * (1000000000 : Int) + x) y)), AV.rp (2 : Nat) (1 : Nat) (0 : Nat) (0 : Nat)]) [some (AObj.box false 147 [AV.lst 1 [uv (y)]]), some (AObj.box false 147 [AV.own 2]), some (AObj.row false 179 1 [uv ((Int.tdiv ((0 : Int) * (1000000000 : Int) + x) y))]), some (AObj.box false 179 [uv ((Int.tmod ((0 : Int) * (1000000000 : Int) + x) y))]), some (AObj.aux { place := p, obj := o1, live := false }), some (AObj.aux { place := p', obj := o2, live := false }), some (AObj.ghost vs [AV.lst 1 [uv (x)], AV.any, AV.any, AV.op 0 0, AV.op 1 0, AV.v (Value.slice none 0 0), AV.op 3 0, AV.any, AV.any, AV.any, AV.any, AV.any, AV.any, AV.any, AV.any, AV.any, AV.any, AV.any, AV.any, AV.any, AV.any, AV.any, AV.lst 1 [uv (x)], iv 1, AV.own 2, AV.lst 1 [uv (x)], AV.fn (171 : Nat) [AV.lp [AV.lst 1 [uv (x)]]], AV.any, AV.any, AV.any, AV.any, AV.any, AV.any, AV.any, AV.any, AV.any, AV.any, AV.any, AV.any, AV.any, AV.any, AV.any, AV.any, AV.any, AV.any, AV.any, AV.any, AV.any, AV.any, AV.any, AV.any, AV.any, AV.any, AV.any, AV.any, AV.any, AV.any, AV.any, AV.any, AV.any, AV.any, AV.any, AV.any, AV.any, AV.any, AV.any, AV.any, AV.any, AV.any, AV.any, AV.any, AV.any, AV.any, AV.any, AV.any, AV.any, AV.any, AV.any, AV.any, AV.any, AV.any, AV.any, AV.any, AV.any, AV.any, AV.any, AV.any, AV.any, AV.any, AV.any, AV.any, AV.any, AV.any, AV.any, AV.any, AV.any, AV.any, AV.any, AV.any, AV.any, AV.any, AV.any, AV.any, AV.any, AV.any, AV.any, AV.any, AV.any, AV.any, AV.any, AV.any, AV.any, AV.any, AV.any, AV.any, AV.any, AV.any, AV.any, AV.any, AV.any, AV.any, AV.any, AV.any, AV.any, AV.any, AV.any, AV.any, AV.any, AV.any, AV.any, AV.any, AV.any, AV.any, AV.any, AV.any, AV.any, AV.any, AV.any, AV.any, AV.any, AV.any, AV.any, AV.any, AV.any, AV.any, AV.any, AV.v (Value.func (Fn.yield l) { toList := [] } { toList := [] }), AV.lp [AV.lst 1 [uv (x)]], uu, iv 0])] :=
  GoesIn.of fits hmix (by kernel_rfl) [Orc.a (uv (y)), Orc.a (uv (y)), Orc.a (uv ((0 : Int)))] dn [(0 : Nat), (1 : Nat), (2 : Nat), (3 : Nat), (4 : Nat), (5 : Nat), (6 : Nat)] (by kernel_rfl) h
end Go.Flow.Tryz
namespace Go.Flow.Tryz
open Go Go.Proofs Go.RowKit Go.Flow
abbrev cT0 (x : Int) : List AV := [.any, .op 0 0, sv [], .op 1 0, .any, .any, .any, .any, .any, .any, .any, .any, .any, .any, .op 0 1, .lst 1 [uv x], .fn 171 [.lp [.lst 1 [uv x]]]]
abbrev cE0 (x : Int) (l : Nat) : List AV := st 34 (cT0 x) ++ [.v (.func (.yield l) #[] #[]), .lp [.lst 1 [uv x]], uu, iv 0]
abbrev cbx (m : Bool) (x : Int) : Option AObj := some (.box false 149 [bv m, .lst 1 [uv x]])
abbrev cb0 : Option AObj := some (.box false 190 [.v (.pointer none), .v (.slice none 0 0)])
abbrev cb1 : Option AObj := some (.box false 190 [.op 1 0, .own 2])
end Go.Flow.Tryz
namespace Go.Flow.Tryz
open Go Go.Proofs Go.RowKit Go.Flow
set_option maxRecDepth 100000
theorem bwd_ok (x : Int) (h : AllP
    []) :
    CallsTo Tryz.prog 132 [AV.lst 1 [uv (x)]] (AV.fn (171 : Nat) [AV.lp [AV.lst 1 [uv (x)]]]) :=
  fn_ok fits hmix Tryz.func132 (by kernel_rfl)
    [] (by kernel_rfl) h
theorem close_zero_ok (m : Bool) (h : AllP
    [true = true]) :
    CallsTo Tryz.prog 104 [AV.agg [bv (m), AV.lst 1 []]] (strv ({ data := #[(48 : UInt8)] })) :=
  fn_ok fits hmix Tryz.func104 (by kernel_rfl)
    [Orc.b true] (by kernel_rfl) h
theorem close_pos_ok (x : Int) (s : List UInt8) (h : AllP
    [false = false,
     false = false,
     Same [AV.agg [bv (false), AV.lst 1 [uv (x)]], AV.op 0 0, strv ({ data := #[] }), AV.op 1 0, uu, uu, uu, AV.op 0 1, AV.lst 1 [uv (x)], iv ((↑(1 : Nat) : Int)), bv (false), AV.op 0 0, bv (false), uu, uu, uu, uu, uu, uu, uu, uu, uu, uu, uu, uu, uu, uu, uu, uu, uu, uu, uu, uu, uu] [some (AObj.box false 149 [bv (false), AV.lst 1 [uv (x)]]), some (AObj.box false 190 [AV.v (Value.pointer none), AV.v (Value.slice none 0 0)])] [AV.any, AV.op 0 0, strv ((bstr ([]))), AV.op 1 0, AV.any, AV.any, AV.any, AV.any, AV.any, AV.any, AV.any, AV.any, AV.any, AV.any, AV.any, AV.any, AV.any, AV.any, AV.any, AV.any, AV.any, AV.any, AV.any, AV.any, AV.any, AV.any, AV.any, AV.any, AV.any, AV.any, AV.any, AV.any, AV.any, AV.any] [some (AObj.box false 149 [bv (false), AV.lst 1 [uv (x)]]), some (AObj.box false 190 [AV.v (Value.pointer none), AV.v (Value.slice none 0 0)]), none],
     CallsTo Tryz.prog (132 : Nat) [AV.lst 1 [uv (x)]] (AV.fn (171 : Nat) [AV.lp [AV.lst 1 [uv (x)]]]),
     Goes Tryz.prog (loopAt Tryz.f104 (0 : Nat)) (st 34 [AV.any, AV.op 0 0, strv ((bstr ([]))), AV.op 1 0, AV.any, AV.any, AV.any, AV.any, AV.any, AV.any, AV.any, AV.any, AV.any, AV.any, AV.op 0 1, AV.lst 1 [uv (x)], AV.fn (171 : Nat) [AV.lp [AV.lst 1 [uv (x)]]]]) [some (AObj.box false 149 [bv (false), AV.lst 1 [uv (x)]]), some (AObj.box false 190 [AV.v (Value.pointer none), AV.v (Value.slice none 0 0)]), none] (Ex.normal) (st 34 [AV.any, AV.op 0 0, strv ((bstr ([]))), AV.op 1 0, AV.any, AV.any, AV.any, AV.any, AV.any, AV.any, AV.any, AV.any, AV.any, AV.any, AV.op 0 1, AV.lst 1 [uv (x)], AV.fn (171 : Nat) [AV.lp [AV.lst 1 [uv (x)]]]]) [some (AObj.box false 149 [bv (false), AV.lst 1 [uv (x)]]), some (AObj.box false 190 [AV.op 1 0, AV.own 2]), some (AObj.vrow false (5 : Nat) (Lib.strCells (bstr s))), some (AObj.aux { place := none, obj := Obj.deferred (some []), live := true })],
     Same [AV.any, AV.op 0 0, strv ((bstr ([]))), AV.op 1 0, AV.any, AV.any, AV.any, AV.any, AV.any, AV.any, AV.any, AV.any, AV.any, AV.any, AV.op 0 1, AV.lst 1 [uv (x)], AV.fn (171 : Nat) [AV.lp [AV.lst 1 [uv (x)]]], AV.any, AV.any, AV.any, AV.any, AV.any, AV.any, AV.any, AV.any, AV.any, AV.any, AV.any, AV.any, AV.any, AV.any, AV.any, AV.any, AV.any] [some (AObj.box false 149 [bv (false), AV.lst 1 [uv (x)]]), some (AObj.box false 190 [AV.op 1 0, AV.own 2]), some (AObj.vrow false (5 : Nat) (Lib.strCells (bstr s))), some (AObj.aux { place := none, obj := Obj.deferred (some []), live := true })] [AV.any, AV.any, AV.any, AV.op 1 0, AV.any, AV.any, AV.any, AV.any, AV.any, AV.any, AV.any, AV.any, AV.any, AV.any, AV.any, AV.any, AV.any, AV.any, AV.any, AV.any, AV.any, AV.any, AV.any, AV.any, AV.any, AV.any, AV.any, AV.any, AV.any, AV.any, AV.any, AV.any, AV.any, AV.any] [some (AObj.box false 149 [bv (false), AV.lst 1 [uv (x)]]), some (AObj.box false 190 [AV.op 1 0, AV.own 2]), some (AObj.vrow false (5 : Nat) (Lib.strCells (bstr s))), some (AObj.aux { place := none, obj := Obj.deferred (some []), live := true })],
     Last Tryz.prog (137 : Nat) [AV.op 1 0] [some (AObj.box false 149 [bv (false), AV.lst 1 [uv (x)]]), some (AObj.box false 190 [AV.op 1 0, AV.own 2]), some (AObj.vrow false (5 : Nat) (Lib.strCells (bstr s))), some (AObj.aux { place := none, obj := Obj.deferred (some []), live := true })] (Value.string (bstr s))]) :
    CallsTo Tryz.prog 104 [AV.agg [bv (false), AV.lst 1 [uv (x)]]] (sv s) :=
  fn_ok fits hmix Tryz.func104 (by kernel_rfl)
    [Orc.b false, Orc.b false, Orc.c [AV.any, AV.op 0 0, strv ((bstr ([]))), AV.op 1 0, AV.any, AV.any, AV.any, AV.any, AV.any, AV.any, AV.any, AV.any, AV.any, AV.any, AV.any, AV.any, AV.any, AV.any, AV.any, AV.any, AV.any, AV.any, AV.any, AV.any, AV.any, AV.any, AV.any, AV.any, AV.any, AV.any, AV.any, AV.any, AV.any, AV.any] [some (AObj.box false 149 [bv (false), AV.lst 1 [uv (x)]]), some (AObj.box false 190 [AV.v (Value.pointer none), AV.v (Value.slice none 0 0)]), none], Orc.a (AV.fn (171 : Nat) [AV.lp [AV.lst 1 [uv (x)]]]), .s (34 : Nat) (Ex.normal) (st 34 [AV.any, AV.op 0 0, strv ((bstr ([]))), AV.op 1 0, AV.any, AV.any, AV.any, AV.any, AV.any, AV.any, AV.any, AV.any, AV.any, AV.any, AV.op 0 1, AV.lst 1 [uv (x)], AV.fn (171 : Nat) [AV.lp [AV.lst 1 [uv (x)]]]]) [some (AObj.box false 149 [bv (false), AV.lst 1 [uv (x)]]), some (AObj.box false 190 [AV.op 1 0, AV.own 2]), some (AObj.vrow false (5 : Nat) (Lib.strCells (bstr s))), some (AObj.aux { place := none, obj := Obj.deferred (some []), live := true })], Orc.c (st (34 : Nat) [AV.any, AV.any, AV.any, AV.op 1 0]) [cbx false x, cb1, some (AObj.vrow false (5 : TypeId) (Lib.strCells (bstr s))), some (AObj.aux { place := none, obj := Obj.deferred (some []), live := true })], Orc.l (Value.string (bstr s))] (by kernel_rfl) h
theorem close_neg_ok (x : Int) (s : List UInt8) (r : List Value) (h : AllP
    [false = false,
     true = true,
     Inl Tryz.prog (134 : Nat) [AV.op 1 0, AV.v (Value.int IntKind.u8 (45 : Int))] [some (AObj.box false 149 [bv (true), AV.lst 1 [uv (x)]]), some (AObj.box false 190 [AV.v (Value.pointer none), AV.v (Value.slice none 0 0)])] [some (AObj.box false 149 [bv (true), AV.lst 1 [uv (x)]]), some (AObj.box false 190 [AV.op 1 0, AV.own 5]), none, none, some (AObj.row false 5 1 [AV.v (Value.int IntKind.u8 (45 : Int))]), some (AObj.vrow false (5 : Nat) [Value.int IntKind.u8 (45 : Int)])] (AV.v Value.nilIface),
     Same [AV.agg [bv (true), AV.lst 1 [uv (x)]], AV.op 0 0, strv ({ data := #[] }), AV.op 1 0, uu, uu, uu, AV.op 0 1, AV.lst 1 [uv (x)], iv ((↑(1 : Nat) : Int)), bv (false), AV.op 0 0, bv (true), AV.v Value.nilIface, uu, uu, uu, uu, uu, uu, uu, uu, uu, uu, uu, uu, uu, uu, uu, uu, uu, uu, uu, uu] [some (AObj.box false 149 [bv (true), AV.lst 1 [uv (x)]]), some (AObj.box false 190 [AV.op 1 0, AV.own 5]), none, none, some (AObj.row false 5 1 [AV.v (Value.int IntKind.u8 (45 : Int))]), some (AObj.vrow false (5 : Nat) [Value.int IntKind.u8 (45 : Int)])] [AV.any, AV.op 0 0, strv ((bstr ([]))), AV.op 1 0, AV.any, AV.any, AV.any, AV.any, AV.any, AV.any, AV.any, AV.any, AV.any, AV.any, AV.any, AV.any, AV.any, AV.any, AV.any, AV.any, AV.any, AV.any, AV.any, AV.any, AV.any, AV.any, AV.any, AV.any, AV.any, AV.any, AV.any, AV.any, AV.any, AV.any] [some (AObj.box false 149 [bv (true), AV.lst 1 [uv (x)]]), some (AObj.box false 190 [AV.op 1 0, AV.own 2]), some (AObj.vrow false (5 : Nat) [Value.int IntKind.u8 (45 : Int)])],
     CallsTo Tryz.prog (132 : Nat) [AV.lst 1 [uv (x)]] (AV.fn (171 : Nat) [AV.lp [AV.lst 1 [uv (x)]]]),
     Goes Tryz.prog (loopAt Tryz.f104 (0 : Nat)) (st 34 [AV.any, AV.op 0 0, strv ((bstr ([]))), AV.op 1 0, AV.any, AV.any, AV.any, AV.any, AV.any, AV.any, AV.any, AV.any, AV.any, AV.any, AV.op 0 1, AV.lst 1 [uv (x)], AV.fn (171 : Nat) [AV.lp [AV.lst 1 [uv (x)]]]]) [some (AObj.box false 149 [bv (true), AV.lst 1 [uv (x)]]), some (AObj.box false 190 [AV.op 1 0, AV.own 2]), some (AObj.vrow false (5 : Nat) [Value.int IntKind.u8 (45 : Int)])] (Ex.normal) (st 34 [AV.any, AV.op 0 0, strv ((bstr ([]))), AV.op 1 0, AV.any, AV.any, AV.any, AV.any, AV.any, AV.any, AV.any, AV.any, AV.any, AV.any, AV.op 0 1, AV.lst 1 [uv (x)], AV.fn (171 : Nat) [AV.lp [AV.lst 1 [uv (x)]]]]) [some (AObj.box false 149 [bv (true), AV.lst 1 [uv (x)]]), some (AObj.box false 190 [AV.op 1 0, AV.own 2]), some (AObj.vrow false (5 : Nat) r), some (AObj.aux { place := none, obj := Obj.deferred (some []), live := true })],
     Same [AV.any, AV.op 0 0, strv ((bstr ([]))), AV.op 1 0, AV.any, AV.any, AV.any, AV.any, AV.any, AV.any, AV.any, AV.any, AV.any, AV.any, AV.op 0 1, AV.lst 1 [uv (x)], AV.fn (171 : Nat) [AV.lp [AV.lst 1 [uv (x)]]], AV.any, AV.any, AV.any, AV.any, AV.any, AV.any, AV.any, AV.any, AV.any, AV.any, AV.any, AV.any, AV.any, AV.any, AV.any, AV.any, AV.any] [some (AObj.box false 149 [bv (true), AV.lst 1 [uv (x)]]), some (AObj.box false 190 [AV.op 1 0, AV.own 2]), some (AObj.vrow false (5 : Nat) r), some (AObj.aux { place := none, obj := Obj.deferred (some []), live := true })] [AV.any, AV.any, AV.any, AV.op 1 0, AV.any, AV.any, AV.any, AV.any, AV.any, AV.any, AV.any, AV.any, AV.any, AV.any, AV.any, AV.any, AV.any, AV.any, AV.any, AV.any, AV.any, AV.any, AV.any, AV.any, AV.any, AV.any, AV.any, AV.any, AV.any, AV.any, AV.any, AV.any, AV.any, AV.any] [some (AObj.box false 149 [bv (true), AV.lst 1 [uv (x)]]), some (AObj.box false 190 [AV.op 1 0, AV.own 2]), some (AObj.vrow false (5 : Nat) r), some (AObj.aux { place := none, obj := Obj.deferred (some []), live := true })],
     Last Tryz.prog (137 : Nat) [AV.op 1 0] [some (AObj.box false 149 [bv (true), AV.lst 1 [uv (x)]]), some (AObj.box false 190 [AV.op 1 0, AV.own 2]), some (AObj.vrow false (5 : Nat) r), some (AObj.aux { place := none, obj := Obj.deferred (some []), live := true })] (Value.string (bstr ((45 : UInt8) :: s)))]) :
    CallsTo Tryz.prog 104 [AV.agg [bv (true), AV.lst 1 [uv (x)]]] (strv ((bstr ((45 : UInt8) :: s)))) :=
  fn_ok fits hmix Tryz.func104 (by kernel_rfl)
    [Orc.b false, Orc.b true, Orc.i [some (AObj.box false 149 [bv (true), AV.lst 1 [uv (x)]]), some (AObj.box false 190 [AV.op 1 0, AV.own 5]), none, none, some (AObj.row false 5 1 [AV.v (Value.int IntKind.u8 (45 : Int))]), some (AObj.vrow false (5 : Nat) [Value.int IntKind.u8 (45 : Int)])] (AV.v Value.nilIface), Orc.c [AV.any, AV.op 0 0, strv ((bstr ([]))), AV.op 1 0, AV.any, AV.any, AV.any, AV.any, AV.any, AV.any, AV.any, AV.any, AV.any, AV.any, AV.any, AV.any, AV.any, AV.any, AV.any, AV.any, AV.any, AV.any, AV.any, AV.any, AV.any, AV.any, AV.any, AV.any, AV.any, AV.any, AV.any, AV.any, AV.any, AV.any] [some (AObj.box false 149 [bv (true), AV.lst 1 [uv (x)]]), some (AObj.box false 190 [AV.op 1 0, AV.own 2]), some (AObj.vrow false (5 : Nat) [Value.int IntKind.u8 (45 : Int)])], Orc.a (AV.fn (171 : Nat) [AV.lp [AV.lst 1 [uv (x)]]]), .s (34 : Nat) (Ex.normal) (st 34 [AV.any, AV.op 0 0, strv ((bstr ([]))), AV.op 1 0, AV.any, AV.any, AV.any, AV.any, AV.any, AV.any, AV.any, AV.any, AV.any, AV.any, AV.op 0 1, AV.lst 1 [uv (x)], AV.fn (171 : Nat) [AV.lp [AV.lst 1 [uv (x)]]]]) [some (AObj.box false 149 [bv (true), AV.lst 1 [uv (x)]]), some (AObj.box false 190 [AV.op 1 0, AV.own 2]), some (AObj.vrow false (5 : Nat) r), some (AObj.aux { place := none, obj := Obj.deferred (some []), live := true })], Orc.c (st (34 : Nat) [AV.any, AV.any, AV.any, AV.op 1 0]) [cbx true x, cb1, some (AObj.vrow false (5 : TypeId) r), some (AObj.aux { place := none, obj := Obj.deferred (some []), live := true })], Orc.l (Value.string (bstr ((45 : UInt8) :: s)))] (by kernel_rfl) h
theorem rd_assign0 (m : Bool) (x : Int) (p : Option Nat) (q : Option Nat) (o1 : Obj) (o2 : Obj) (vs : List Value) (l : Nat) (h : AllP
    []) :
    GoesIn Tryz.prog (rfA (loopAt Tryz.f104 (0 : Nat))) (st 34 [AV.any, AV.op 0 0, strv ((bstr ([]))), AV.op 1 0, AV.any, AV.any, AV.any, AV.any, AV.any, AV.any, AV.any, AV.any, AV.any, AV.any, AV.op 0 1, AV.lst 1 [uv (x)], AV.fn (171 : Nat) [AV.lp [AV.lst 1 [uv (x)]]], iv 0, uv (x)]) [some (AObj.box false 149 [bv (m), AV.lst 1 [uv (x)]]), some (AObj.box false 190 [AV.v (Value.pointer none), AV.v (Value.slice none 0 0)]), none, some (AObj.aux { place := p, obj := o1, live := false }), some (AObj.aux { place := q, obj := o2, live := false }), some (AObj.ghost vs [AV.any, AV.op 0 0, strv ((bstr ([]))), AV.op 1 0, AV.any, AV.any, AV.any, AV.any, AV.any, AV.any, AV.any, AV.any, AV.any, AV.any, AV.op 0 1, AV.lst 1 [uv (x)], AV.fn (171 : Nat) [AV.lp [AV.lst 1 [uv (x)]]], AV.any, AV.any, AV.any, AV.any, AV.any, AV.any, AV.any, AV.any, AV.any, AV.any, AV.any, AV.any, AV.any, AV.any, AV.any, AV.any, AV.any, AV.v (Value.func (Fn.yield l) { toList := [] } { toList := [] }), AV.lp [AV.lst 1 [uv (x)]], uu, iv 0])] (Ex.normal) (st 34 [AV.any, AV.op 0 0, strv ((bstr ([]))), AV.op 1 0, iv 0, uv (x), AV.any, AV.any, AV.any, AV.any, AV.any, AV.any, AV.any, AV.any, AV.op 0 1, AV.lst 1 [uv (x)], AV.fn (171 : Nat) [AV.lp [AV.lst 1 [uv (x)]]], iv 0, uv (x)]) [some (AObj.box false 149 [bv (m), AV.lst 1 [uv (x)]]), some (AObj.box false 190 [AV.v (Value.pointer none), AV.v (Value.slice none 0 0)]), none, some (AObj.aux { place := p, obj := o1, live := false }), some (AObj.aux { place := q, obj := o2, live := false }), some (AObj.ghost vs [AV.any, AV.op 0 0, strv ((bstr ([]))), AV.op 1 0, AV.any, AV.any, AV.any, AV.any, AV.any, AV.any, AV.any, AV.any, AV.any, AV.any, AV.op 0 1, AV.lst 1 [uv (x)], AV.fn (171 : Nat) [AV.lp [AV.lst 1 [uv (x)]]], AV.any, AV.any, AV.any, AV.any, AV.any, AV.any, AV.any, AV.any, AV.any, AV.any, AV.any, AV.any, AV.any, AV.any, AV.any, AV.any, AV.any, AV.v (Value.func (Fn.yield l) { toList := [] } { toList := [] }), AV.lp [AV.lst 1 [uv (x)]], uu, iv 0])] :=
  GoesIn.of fits hmix (by kernel_rfl) [] (34 : Nat) [(0 : Nat), (1 : Nat), (2 : Nat), (3 : Nat), (4 : Nat), (5 : Nat)] (by kernel_rfl) h
theorem rd_assign1 (m : Bool) (x : Int) (r : List Value) (p : Option Nat) (q : Option Nat) (o1 : Obj) (o2 : Obj) (vs : List Value) (l : Nat) (h : AllP
    []) :
    GoesIn Tryz.prog (rfA (loopAt Tryz.f104 (0 : Nat))) (st 34 [AV.any, AV.op 0 0, strv ((bstr ([]))), AV.op 1 0, AV.any, AV.any, AV.any, AV.any, AV.any, AV.any, AV.any, AV.any, AV.any, AV.any, AV.op 0 1, AV.lst 1 [uv (x)], AV.fn (171 : Nat) [AV.lp [AV.lst 1 [uv (x)]]], iv 0, uv (x)]) [some (AObj.box false 149 [bv (m), AV.lst 1 [uv (x)]]), some (AObj.box false 190 [AV.op 1 0, AV.own 2]), some (AObj.vrow false (5 : Nat) r), some (AObj.aux { place := p, obj := o1, live := false }), some (AObj.aux { place := q, obj := o2, live := false }), some (AObj.ghost vs [AV.any, AV.op 0 0, strv ((bstr ([]))), AV.op 1 0, AV.any, AV.any, AV.any, AV.any, AV.any, AV.any, AV.any, AV.any, AV.any, AV.any, AV.op 0 1, AV.lst 1 [uv (x)], AV.fn (171 : Nat) [AV.lp [AV.lst 1 [uv (x)]]], AV.any, AV.any, AV.any, AV.any, AV.any, AV.any, AV.any, AV.any, AV.any, AV.any, AV.any, AV.any, AV.any, AV.any, AV.any, AV.any, AV.any, AV.v (Value.func (Fn.yield l) { toList := [] } { toList := [] }), AV.lp [AV.lst 1 [uv (x)]], uu, iv 0])] (Ex.normal) (st 34 [AV.any, AV.op 0 0, strv ((bstr ([]))), AV.op 1 0, iv 0, uv (x), AV.any, AV.any, AV.any, AV.any, AV.any, AV.any, AV.any, AV.any, AV.op 0 1, AV.lst 1 [uv (x)], AV.fn (171 : Nat) [AV.lp [AV.lst 1 [uv (x)]]], iv 0, uv (x)]) [some (AObj.box false 149 [bv (m), AV.lst 1 [uv (x)]]), some (AObj.box false 190 [AV.op 1 0, AV.own 2]), some (AObj.vrow false (5 : Nat) r), some (AObj.aux { place := p, obj := o1, live := false }), some (AObj.aux { place := q, obj := o2, live := false }), some (AObj.ghost vs [AV.any, AV.op 0 0, strv ((bstr ([]))), AV.op 1 0, AV.any, AV.any, AV.any, AV.any, AV.any, AV.any, AV.any, AV.any, AV.any, AV.any, AV.op 0 1, AV.lst 1 [uv (x)], AV.fn (171 : Nat) [AV.lp [AV.lst 1 [uv (x)]]], AV.any, AV.any, AV.any, AV.any, AV.any, AV.any, AV.any, AV.any, AV.any, AV.any, AV.any, AV.any, AV.any, AV.any, AV.any, AV.any, AV.any, AV.v (Value.func (Fn.yield l) { toList := [] } { toList := [] }), AV.lp [AV.lst 1 [uv (x)]], uu, iv 0])] :=
  GoesIn.of fits hmix (by kernel_rfl) [] (34 : Nat) [(0 : Nat), (1 : Nat), (2 : Nat), (3 : Nat), (4 : Nat), (5 : Nat)] (by kernel_rfl) h
theorem rd_body0 (m : Bool) (x : Int) (s : List UInt8) (p : Option Nat) (q : Option Nat) (o1 : Obj) (o2 : Obj) (vs : List Value) (l : Nat) (h : AllP
    [CallsTo Tryz.prog (135 : Nat) [uv (x), iv 10] (sv s),
     IntKind.wrap IntKind.i64 ((↑(1 : Nat) : Int) - (1 : Int)) = (↑(1 : Nat) : Int) - (1 : Int),
     false = false,
     Inl Tryz.prog (136 : Nat) [AV.op 1 0, sv s] [some (AObj.box false 149 [bv (m), AV.lst 1 [uv (x)]]), some (AObj.box false 190 [AV.v (Value.pointer none), AV.v (Value.slice none 0 0)]), none, some (AObj.aux { place := p, obj := o1, live := false }), some (AObj.aux { place := q, obj := o2, live := false }), some (AObj.ghost vs [AV.any, AV.op 0 0, strv ((bstr ([]))), AV.op 1 0, AV.any, AV.any, AV.any, AV.any, AV.any, AV.any, AV.any, AV.any, AV.any, AV.any, AV.op 0 1, AV.lst 1 [uv (x)], AV.fn (171 : Nat) [AV.lp [AV.lst 1 [uv (x)]]], AV.any, AV.any, AV.any, AV.any, AV.any, AV.any, AV.any, AV.any, AV.any, AV.any, AV.any, AV.any, AV.any, AV.any, AV.any, AV.any, AV.any, AV.v (Value.func (Fn.yield l) { toList := [] } { toList := [] }), AV.lp [AV.lst 1 [uv (x)]], uu, iv 0])] [some (AObj.box false 149 [bv (m), AV.lst 1 [uv (x)]]), some (AObj.box false 190 [AV.op 1 0, AV.own 8]), none, some (AObj.aux { place := p, obj := o1, live := false }), some (AObj.aux { place := q, obj := o2, live := false }), some (AObj.ghost vs [AV.any, AV.op 0 0, strv ((bstr ([]))), AV.op 1 0, AV.any, AV.any, AV.any, AV.any, AV.any, AV.any, AV.any, AV.any, AV.any, AV.any, AV.op 0 1, AV.lst 1 [uv (x)], AV.fn (171 : Nat) [AV.lp [AV.lst 1 [uv (x)]]], AV.any, AV.any, AV.any, AV.any, AV.any, AV.any, AV.any, AV.any, AV.any, AV.any, AV.any, AV.any, AV.any, AV.any, AV.any, AV.any, AV.any, AV.v (Value.func (Fn.yield l) { toList := [] } { toList := [] }), AV.lp [AV.lst 1 [uv (x)]], uu, iv 0]), none, none, some (AObj.vrow false (5 : Nat) (Lib.strCells (bstr s)))] (AV.tup [iv ((↑(ByteArray.size (bstr s)) : Int)), AV.v Value.nilIface])]) :
    GoesIn Tryz.prog (rfB (loopAt Tryz.f104 (0 : Nat))) (st 34 [AV.any, AV.op 0 0, strv ((bstr ([]))), AV.op 1 0, iv 0, uv (x), AV.any, AV.any, AV.any, AV.any, AV.any, AV.any, AV.any, AV.any, AV.op 0 1, AV.lst 1 [uv (x)], AV.fn (171 : Nat) [AV.lp [AV.lst 1 [uv (x)]]], iv 0, uv (x)]) [some (AObj.box false 149 [bv (m), AV.lst 1 [uv (x)]]), some (AObj.box false 190 [AV.v (Value.pointer none), AV.v (Value.slice none 0 0)]), none, some (AObj.aux { place := p, obj := o1, live := false }), some (AObj.aux { place := q, obj := o2, live := false }), some (AObj.ghost vs [AV.any, AV.op 0 0, strv ((bstr ([]))), AV.op 1 0, AV.any, AV.any, AV.any, AV.any, AV.any, AV.any, AV.any, AV.any, AV.any, AV.any, AV.op 0 1, AV.lst 1 [uv (x)], AV.fn (171 : Nat) [AV.lp [AV.lst 1 [uv (x)]]], AV.any, AV.any, AV.any, AV.any, AV.any, AV.any, AV.any, AV.any, AV.any, AV.any, AV.any, AV.any, AV.any, AV.any, AV.any, AV.any, AV.any, AV.v (Value.func (Fn.yield l) { toList := [] } { toList := [] }), AV.lp [AV.lst 1 [uv (x)]], uu, iv 0])] (Ex.normal) [AV.any, AV.op 0 0, strv ((bstr ([]))), AV.op 1 0, iv 0, uv (x), sv s, AV.any, AV.any, AV.any, AV.any, AV.any, AV.any, AV.any, AV.op 0 1, AV.lst 1 [uv (x)], AV.fn (171 : Nat) [AV.lp [AV.lst 1 [uv (x)]]], iv 0, uv (x), uv (x), sv s, iv 0, AV.op 0 1, AV.lst 1 [uv (x)], iv ((↑(1 : Nat) : Int)), iv (((↑(1 : Nat) : Int) - (1 : Int))), bv (false), AV.any, AV.any, AV.any, AV.any, sv s, AV.tup [iv ((↑(ByteArray.size (bstr s)) : Int)), AV.v Value.nilIface], AV.any] [some (AObj.box false 149 [bv (m), AV.lst 1 [uv (x)]]), some (AObj.box false 190 [AV.op 1 0, AV.own 2]), some (AObj.vrow false (5 : Nat) (Lib.strCells (bstr s))), some (AObj.aux { place := p, obj := o1, live := false }), some (AObj.aux { place := q, obj := o2, live := false }), some (AObj.ghost vs [AV.any, AV.op 0 0, strv ((bstr ([]))), AV.op 1 0, AV.any, AV.any, AV.any, AV.any, AV.any, AV.any, AV.any, AV.any, AV.any, AV.any, AV.op 0 1, AV.lst 1 [uv (x)], AV.fn (171 : Nat) [AV.lp [AV.lst 1 [uv (x)]]], AV.any, AV.any, AV.any, AV.any, AV.any, AV.any, AV.any, AV.any, AV.any, AV.any, AV.any, AV.any, AV.any, AV.any, AV.any, AV.any, AV.any, AV.v (Value.func (Fn.yield l) { toList := [] } { toList := [] }), AV.lp [AV.lst 1 [uv (x)]], uu, iv 0])] :=
  GoesIn.of fits hmix (by kernel_rfl) [Orc.a (sv s), Orc.b false, Orc.i [some (AObj.box false 149 [bv (m), AV.lst 1 [uv (x)]]), some (AObj.box false 190 [AV.op 1 0, AV.own 8]), none, some (AObj.aux { place := p, obj := o1, live := false }), some (AObj.aux { place := q, obj := o2, live := false }), some (AObj.ghost vs [AV.any, AV.op 0 0, strv ((bstr ([]))), AV.op 1 0, AV.any, AV.any, AV.any, AV.any, AV.any, AV.any, AV.any, AV.any, AV.any, AV.any, AV.op 0 1, AV.lst 1 [uv (x)], AV.fn (171 : Nat) [AV.lp [AV.lst 1 [uv (x)]]], AV.any, AV.any, AV.any, AV.any, AV.any, AV.any, AV.any, AV.any, AV.any, AV.any, AV.any, AV.any, AV.any, AV.any, AV.any, AV.any, AV.any, AV.v (Value.func (Fn.yield l) { toList := [] } { toList := [] }), AV.lp [AV.lst 1 [uv (x)]], uu, iv 0]), none, none, some (AObj.vrow false (5 : Nat) (Lib.strCells (bstr s)))] (AV.tup [iv ((↑(ByteArray.size (bstr s)) : Int)), AV.v Value.nilIface])] (34 : Nat) [(0 : Nat), (1 : Nat), (8 : Nat), (3 : Nat), (4 : Nat), (5 : Nat)] (by kernel_rfl) h
theorem rd_body1 (m : Bool) (x : Int) (r : List Value) (r' : List Value) (s : List UInt8) (p : Option Nat) (q : Option Nat) (o1 : Obj) (o2 : Obj) (vs : List Value) (l : Nat) (h : AllP
    [CallsTo Tryz.prog (135 : Nat) [uv (x), iv 10] (sv s),
     IntKind.wrap IntKind.i64 ((↑(1 : Nat) : Int) - (1 : Int)) = (↑(1 : Nat) : Int) - (1 : Int),
     false = false,
     Inl Tryz.prog (136 : Nat) [AV.op 1 0, sv s] [some (AObj.box false 149 [bv (m), AV.lst 1 [uv (x)]]), some (AObj.box false 190 [AV.op 1 0, AV.own 2]), some (AObj.vrow false (5 : Nat) r), some (AObj.aux { place := p, obj := o1, live := false }), some (AObj.aux { place := q, obj := o2, live := false }), some (AObj.ghost vs [AV.any, AV.op 0 0, strv ((bstr ([]))), AV.op 1 0, AV.any, AV.any, AV.any, AV.any, AV.any, AV.any, AV.any, AV.any, AV.any, AV.any, AV.op 0 1, AV.lst 1 [uv (x)], AV.fn (171 : Nat) [AV.lp [AV.lst 1 [uv (x)]]], AV.any, AV.any, AV.any, AV.any, AV.any, AV.any, AV.any, AV.any, AV.any, AV.any, AV.any, AV.any, AV.any, AV.any, AV.any, AV.any, AV.any, AV.v (Value.func (Fn.yield l) { toList := [] } { toList := [] }), AV.lp [AV.lst 1 [uv (x)]], uu, iv 0])] [some (AObj.box false 149 [bv (m), AV.lst 1 [uv (x)]]), some (AObj.box false 190 [AV.op 1 0, AV.own 8]), none, some (AObj.aux { place := p, obj := o1, live := false }), some (AObj.aux { place := q, obj := o2, live := false }), some (AObj.ghost vs [AV.any, AV.op 0 0, strv ((bstr ([]))), AV.op 1 0, AV.any, AV.any, AV.any, AV.any, AV.any, AV.any, AV.any, AV.any, AV.any, AV.any, AV.op 0 1, AV.lst 1 [uv (x)], AV.fn (171 : Nat) [AV.lp [AV.lst 1 [uv (x)]]], AV.any, AV.any, AV.any, AV.any, AV.any, AV.any, AV.any, AV.any, AV.any, AV.any, AV.any, AV.any, AV.any, AV.any, AV.any, AV.any, AV.any, AV.v (Value.func (Fn.yield l) { toList := [] } { toList := [] }), AV.lp [AV.lst 1 [uv (x)]], uu, iv 0]), none, none, some (AObj.vrow false (5 : Nat) r')] (AV.tup [iv ((↑(ByteArray.size (bstr s)) : Int)), AV.v Value.nilIface])]) :
    GoesIn Tryz.prog (rfB (loopAt Tryz.f104 (0 : Nat))) (st 34 [AV.any, AV.op 0 0, strv ((bstr ([]))), AV.op 1 0, iv 0, uv (x), AV.any, AV.any, AV.any, AV.any, AV.any, AV.any, AV.any, AV.any, AV.op 0 1, AV.lst 1 [uv (x)], AV.fn (171 : Nat) [AV.lp [AV.lst 1 [uv (x)]]], iv 0, uv (x)]) [some (AObj.box false 149 [bv (m), AV.lst 1 [uv (x)]]), some (AObj.box false 190 [AV.op 1 0, AV.own 2]), some (AObj.vrow false (5 : Nat) r), some (AObj.aux { place := p, obj := o1, live := false }), some (AObj.aux { place := q, obj := o2, live := false }), some (AObj.ghost vs [AV.any, AV.op 0 0, strv ((bstr ([]))), AV.op 1 0, AV.any, AV.any, AV.any, AV.any, AV.any, AV.any, AV.any, AV.any, AV.any, AV.any, AV.op 0 1, AV.lst 1 [uv (x)], AV.fn (171 : Nat) [AV.lp [AV.lst 1 [uv (x)]]], AV.any, AV.any, AV.any, AV.any, AV.any, AV.any, AV.any, AV.any, AV.any, AV.any, AV.any, AV.any, AV.any, AV.any, AV.any, AV.any, AV.any, AV.v (Value.func (Fn.yield l) { toList := [] } { toList := [] }), AV.lp [AV.lst 1 [uv (x)]], uu, iv 0])] (Ex.normal) [AV.any, AV.op 0 0, strv ((bstr ([]))), AV.op 1 0, iv 0, uv (x), sv s, AV.any, AV.any, AV.any, AV.any, AV.any, AV.any, AV.any, AV.op 0 1, AV.lst 1 [uv (x)], AV.fn (171 : Nat) [AV.lp [AV.lst 1 [uv (x)]]], iv 0, uv (x), uv (x), sv s, iv 0, AV.op 0 1, AV.lst 1 [uv (x)], iv ((↑(1 : Nat) : Int)), iv (((↑(1 : Nat) : Int) - (1 : Int))), bv (false), AV.any, AV.any, AV.any, AV.any, sv s, AV.tup [iv ((↑(ByteArray.size (bstr s)) : Int)), AV.v Value.nilIface], AV.any] [some (AObj.box false 149 [bv (m), AV.lst 1 [uv (x)]]), some (AObj.box false 190 [AV.op 1 0, AV.own 2]), some (AObj.vrow false (5 : Nat) r'), some (AObj.aux { place := p, obj := o1, live := false }), some (AObj.aux { place := q, obj := o2, live := false }), some (AObj.ghost vs [AV.any, AV.op 0 0, strv ((bstr ([]))), AV.op 1 0, AV.any, AV.any, AV.any, AV.any, AV.any, AV.any, AV.any, AV.any, AV.any, AV.any, AV.op 0 1, AV.lst 1 [uv (x)], AV.fn (171 : Nat) [AV.lp [AV.lst 1 [uv (x)]]], AV.any, AV.any, AV.any, AV.any, AV.any, AV.any, AV.any, AV.any, AV.any, AV.any, AV.any, AV.any, AV.any, AV.any, AV.any, AV.any, AV.any, AV.v (Value.func (Fn.yield l) { toList := [] } { toList := [] }), AV.lp [AV.lst 1 [uv (x)]], uu, iv 0])] :=
  GoesIn.of fits hmix (by kernel_rfl) [Orc.a (sv s), Orc.b false, Orc.i [cbx m x, some (AObj.box false (190 : TypeId) [AV.op 1 0, AV.own 8]), none, some (AObj.aux { place := p, obj := o1, live := false }), some (AObj.aux { place := q, obj := o2, live := false }), some (AObj.ghost vs (cE0 x l)), none, none, some (AObj.vrow false (5 : TypeId) r')] (AV.tup [iv ((↑(ByteArray.size (bstr s)) : Int)), AV.v Value.nilIface])] (34 : Nat) [(0 : Nat), (1 : Nat), (8 : Nat), (3 : Nat), (4 : Nat), (5 : Nat)] (by kernel_rfl) h
theorem fmt_ok (x : Int) (s : List UInt8) (h : AllP
    [CallsTo Tryz.prog (173 : Nat) [uv (x), iv 10] (sv s)]) :
    CallsTo Tryz.prog 135 [uv (x), iv 10] (sv s) :=
  fn_ok fits hmix Tryz.func135 (by kernel_rfl)
    [Orc.a (sv s)] (by kernel_rfl) h
end Go.Flow.Tryz
namespace Go.Flow.Tryz
open Go Go.Proofs Go.RowKit Go.Flow
set_option maxRecDepth 100000
theorem wb_inl (x : AV) (y : AV) (c : Int) (h : ∀ (us : List Value) (G : List AV), AllP
    [Inl Tryz.prog (172 : Nat) [AV.op 1 0] [some (AObj.box false 149 [x, y]), some (AObj.box false 190 [AV.v (Value.pointer none), AV.v (Value.slice none 0 0)]), some (AObj.ghost us G)] [some (AObj.box false 149 [x, y]), some (AObj.box false 190 [AV.op 1 0, AV.v (Value.slice none 0 0)]), some (AObj.ghost us G), none] (AV.tup []),
     nat_lit 1 ≤ nat_lit 9223372036854775807 ∧ nat_lit 1 ≤ nat_lit 140737488355328]) :
    Inl Tryz.prog 134 [AV.op 1 0, AV.v (Value.int IntKind.u8 c)] [some (AObj.box false 149 [x, y]), some (AObj.box false 190 [AV.v (Value.pointer none), AV.v (Value.slice none 0 0)])] [some (AObj.box false 149 [x, y]), some (AObj.box false 190 [AV.op 1 0, AV.own 5]), none, none, some (AObj.row false 5 1 [AV.v (Value.int IntKind.u8 c)]), some (AObj.row false 5 1 [AV.v (Value.int IntKind.u8 c)])] (AV.v Value.nilIface) :=
  Inl.of (hc := h) fits hmix Tryz.func134 (by kernel_rfl)
    (orc := fun us G => [Orc.i [some (AObj.box false 149 [x, y]), some (AObj.box false 190 [AV.op 1 0, AV.v (Value.slice none 0 0)]), some (AObj.ghost us G), none] (AV.tup [])]) (fun us G => by kernel_rfl) (by kernel_rfl) (by kernel_rfl) (by simp)
theorem ws1_inl (x : AV) (y : AV) (p : Option Nat) (q : Option Nat) (o1 : Obj) (o2 : Obj) (vs : List Value) (E : List AV) (s : List UInt8) (h : ∀ (us : List Value) (G : List AV), AllP
    [Inl Tryz.prog (172 : Nat) [AV.op 1 0] [some (AObj.box false 149 [x, y]), some (AObj.box false 190 [AV.v (Value.pointer none), AV.v (Value.slice none 0 0)]), none, some (AObj.aux { place := p, obj := o1, live := false }), some (AObj.aux { place := q, obj := o2, live := false }), some (AObj.ghost vs E), some (AObj.ghost us G)] [some (AObj.box false 149 [x, y]), some (AObj.box false 190 [AV.op 1 0, AV.v (Value.slice none 0 0)]), none, some (AObj.aux { place := p, obj := o1, live := false }), some (AObj.aux { place := q, obj := o2, live := false }), some (AObj.ghost vs E), some (AObj.ghost us G), none] (AV.tup []),
     ByteArray.size (bstr s) ≤ nat_lit 140737488355328]) :
    Inl Tryz.prog 136 [AV.op 1 0, sv s] [some (AObj.box false 149 [x, y]), some (AObj.box false 190 [AV.v (Value.pointer none), AV.v (Value.slice none 0 0)]), none, some (AObj.aux { place := p, obj := o1, live := false }), some (AObj.aux { place := q, obj := o2, live := false }), some (AObj.ghost vs E)] [some (AObj.box false 149 [x, y]), some (AObj.box false 190 [AV.op 1 0, AV.own 8]), none, some (AObj.aux { place := p, obj := o1, live := false }), some (AObj.aux { place := q, obj := o2, live := false }), some (AObj.ghost vs E), none, none, some (AObj.vrow false (5 : Nat) (Lib.strCells (bstr s)))] (AV.tup [iv ((↑(ByteArray.size (bstr s)) : Int)), AV.v Value.nilIface]) :=
  Inl.of (hc := h) fits hmix Tryz.func136 (by kernel_rfl)
    (orc := fun us G => [Orc.i [some (AObj.box false 149 [x, y]), some (AObj.box false 190 [AV.op 1 0, AV.v (Value.slice none 0 0)]), none, some (AObj.aux { place := p, obj := o1, live := false }), some (AObj.aux { place := q, obj := o2, live := false }), some (AObj.ghost vs E), some (AObj.ghost us G), none] (AV.tup [])]) (fun us G => by kernel_rfl) (by kernel_rfl) (by kernel_rfl) (by simp)
theorem ws2_inl (x : AV) (y : AV) (r5 : List Value) (p : Option Nat) (q : Option Nat) (o1 : Obj) (o2 : Obj) (vs : List Value) (E : List AV) (s : List UInt8) (h : ∀ (us : List Value) (G : List AV), AllP
    [Inl Tryz.prog (172 : Nat) [AV.op 1 0] [some (AObj.box false 149 [x, y]), some (AObj.box false 190 [AV.op 1 0, AV.own 2]), some (AObj.vrow false (5 : Nat) r5), some (AObj.aux { place := p, obj := o1, live := false }), some (AObj.aux { place := q, obj := o2, live := false }), some (AObj.ghost vs E), some (AObj.ghost us G)] [some (AObj.box false 149 [x, y]), some (AObj.box false 190 [AV.op 1 0, AV.own 2]), some (AObj.vrow false (5 : Nat) r5), some (AObj.aux { place := p, obj := o1, live := false }), some (AObj.aux { place := q, obj := o2, live := false }), some (AObj.ghost vs E), some (AObj.ghost us G), none] (AV.tup []),
     List.length r5 + ByteArray.size (bstr s) ≤ nat_lit 140737488355328]) :
    Inl Tryz.prog 136 [AV.op 1 0, sv s] [some (AObj.box false 149 [x, y]), some (AObj.box false 190 [AV.op 1 0, AV.own 2]), some (AObj.vrow false (5 : Nat) r5), some (AObj.aux { place := p, obj := o1, live := false }), some (AObj.aux { place := q, obj := o2, live := false }), some (AObj.ghost vs E)] [some (AObj.box false 149 [x, y]), some (AObj.box false 190 [AV.op 1 0, AV.own 8]), none, some (AObj.aux { place := p, obj := o1, live := false }), some (AObj.aux { place := q, obj := o2, live := false }), some (AObj.ghost vs E), none, none, some (AObj.vrow false (5 : Nat) (r5 ++ Lib.strCells (bstr s)))] (AV.tup [iv ((↑(ByteArray.size (bstr s)) : Int)), AV.v Value.nilIface]) :=
  Inl.of (hc := h) fits hmix Tryz.func136 (by kernel_rfl)
    (orc := fun us G => [Orc.i [some (AObj.box false (149 : TypeId) [x, y]), some (AObj.box false (190 : TypeId) [AV.op 1 0, AV.own 2]), some (AObj.vrow false (5 : TypeId) r5), some (AObj.aux { place := p, obj := o1, live := false }), some (AObj.aux { place := q, obj := o2, live := false }), some (AObj.ghost vs E), some (AObj.ghost us G), none] (AV.tup [])]) (fun us G => by kernel_rfl) (by kernel_rfl) (by kernel_rfl) (by simp)
end Go.Flow.Tryz
namespace Go.Flow.Tryz
open Go Go.Proofs Go.Shelf Go.RowKit Go.Flow
set_option maxRecDepth 100000
def bren : Go.Shelf.Ren := ⟨fun | 240 => 172 | 276 => 192 | n => n, fun | 70 => 187 | 9 => 9 | 0 => 0 | 72 => 190 | 37 => 188 | 4 => 4 | 20 => 20 | 164 => 237 | n => n, fun | n => n⟩
theorem blays : Go.Proofs.Lays.n240 Tryz.prog bren := {
  mixed := by kernel_rfl
  f240 := Tryz.func172.trans (congrArg some (by kernel_rfl))
  f276 := Tryz.func192.trans (congrArg some (by kernel_rfl))
  t0 := Tryz.underlying0
  a0 := Tryz.isAgg0
  z0 := Tryz.sizeOf0
  v0 := Tryz.zeroValue0
  t4 := Tryz.underlying4
  a4 := Tryz.isAgg4
  z4 := Tryz.sizeOf4
  v4 := Tryz.zeroValue4
  t9 := Tryz.underlying9
  a9 := Tryz.isAgg9
  z9 := Tryz.sizeOf9
  v9 := Tryz.zeroValue9
  t20 := Tryz.underlying20
  a20 := Tryz.isAgg20
  z20 := Tryz.sizeOf20
  v20 := Tryz.zeroValue20
  t70 := Tryz.underlying187
  a70 := Tryz.isAgg187
  z70 := Tryz.sizeOf187
  v70 := Tryz.zeroValue187
  t72 := Tryz.underlying190
  a72 := Tryz.isAgg190
  z72 := Tryz.sizeOf190
  v72 := Tryz.zeroValue190
  t164 := Tryz.underlying237
  a164 := Tryz.isAgg237
  z164 := Tryz.sizeOf237
  v164 := Tryz.zeroValue237 }
theorem bx72 : Builder.X72 Tryz.prog bren := { sizeBuilder := by kernel_rfl, liesBuilder := by kernel_rfl }
abbrev fCheck : Nat := 172
theorem check_body : Body Tryz.prog fCheck := body_of Tryz.func172 (by kernel_rfl) (by kernel_rfl)
theorem getH_app_left {H E : Heap} {k : Nat} (h : k < H.length) : getH (H ++ E) k = getH H k := by
  unfold getH
  rw [List.getElem?_append_left h]
theorem getH_app_eq (H : Heap) (x : Option AObj) (E : Heap) : getH (H ++ x :: E) H.length = x := by
  unfold getH
  rw [List.getElem?_append_right (Nat.le_refl _)]
  simp
theorem setAt_app_end (H : Heap) (x y : Option AObj) : setAt (H ++ [x]) H.length y = H ++ [y] := by
  induction H with
  | nil => rfl
  | cons z zs ih => simp only [List.cons_append, List.length_cons, setAt, ih]
theorem setAt_app_left {H : Heap} {k : Nat} (h : k < H.length) (E : Heap) (y : Option AObj) : setAt (H ++ E) k y = setAt H k y ++ E := by
  induction H generalizing k with
  | nil => exact absurd h (by simp)
  | cons z zs ih => cases k with
    | zero => rfl
    | succ k => simp only [List.cons_append, setAt, ih (by simpa using h)]
theorem box_args {B : Nat} {S0 : Nat → Prop} {w0 : World} {α : Nat → Option Value} {H : Heap} {a : Act} {w : World} {h b : Nat} (s : Sim B S0 w0 α [.op h 0] H a w) (hb : α h = some (.pointer (some ⟨b, 0, none⟩))) :
    a.tmps = #[.pointer (some ⟨b, 0, none⟩)] := by
  have := s.tmps
  apply Array.ext'
  generalize a.tmps.toList = l at this
  cases this with
  | cons _ u _ us hx hxs =>
    cases hxs
    obtain ⟨b', h1, rfl⟩ := hx.inv_op
    have : (envOf B S0 α H w).α h = α h := rfl
    rw [this, hb] at h1
    cases h1
    rfl
theorem check_fresh {H : Heap} (hu : unmarked H = true) {h : Nat} {x : AV} (ho : getH H h = some (.box false 190 [.v (.pointer none), x])) :
    Inl Tryz.prog fCheck [.op h 0] H (setAt H h (some (.box false 190 [.op h 0, x])) ++ [none]) (.tup []) := by
  have hlt : h < H.length := getH_lt ho
  have hsl : (setAt H h (some (.box false 190 [.op h 0, x]))).length = H.length := setAt_length_eq _ _ _ hlt
  refine ⟨check_body, ?_, by simp [hsl], fun B S0 w0 α a w us G s hfr => ?_⟩
  · rw [← hsl]; exact getH_app_eq _ _ _
  have ho1 : getH (H ++ [some (.ghost us G)]) h = some (.box false 190 [.v (.pointer none), x]) := by rw [getH_app_left hlt]; exact ho
  obtain ⟨b, vs, h1, h2, h3, h4⟩ := s.objs _ _ ho1
  rw [box_args s h1]
  cases h4 with
  | cons _ u0 _ us1 hx0 hxs =>
  cases hxs with
  | cons _ u1 _ us2 hx1 hnil =>
  cases hnil
  obtain rfl := hx0.inv_v
  have h3' : w.heap[b]? = some (.cells #[.pointer none, u1] 190 (0, 0)) := h3
  have hb : b < w.heap.size := (Array.getElem?_eq_some_iff.1 h3').1
  refine (Any.Builder_copyCheck_fresh blays bx72 b w (by simp [World.cell?, h3']) (by simp [World.shape?, h3']; rfl) (by simp [World.frozen?, h3'])).mono ?_
  rintro e w' ⟨rfl, rfl⟩
  have hg : w.grownBy (w.setCell ⟨b, 0, none⟩ (.pointer (some ⟨b, 0, none⟩))) (some b) := ⟨rfl, rfl, rfl, by simp [World.setCell], fun k _ hk => Below.heap_setCell _ _ _ _ (fun e => hk (by simp [e]))⟩
  have hle := Le_upd s (o' := .box false 190 [.op h 0, x]) ho1 rfl h1 (fun g e => by cases e; rfl) hg
  have s1 := s.upd (row := some b) (o' := .box false 190 [.op h 0, x]) ho1 rfl h1 (fun g e => by cases e; rfl) hg
    ⟨b, [.pointer (some ⟨b, 0, none⟩), u1], h1, h2, by simp [World.setCell, Array.getElem?_modify, h3'], .cons _ _ _ _ (.op h 0 b h1) (.cons _ _ _ _ (hx1.mono hle) .nil)⟩
  rw [setAt_app_left hlt] at s1
  refine ⟨.tuple #[], α, _, rfl, fun k => ?_, s1.reframe (.cons _ _ _ _ (.tup [] [] .nil) .nil) .nil, fun k hk => hfr k ?_, fun k y hk hl => ?_⟩
  · rw [← hsl, setAt_app_end]
  · simp [hsl] at hk; omega
  · rw [unmarked_get hu hk] at hl; cases hl
theorem check_used {H : Heap} (hu : unmarked H = true) {h : Nat} {fr : Bool} {x : AV} (ho : getH H h = some (.box fr 190 [.op h 0, x])) : Inl Tryz.prog fCheck [.op h 0] H (H ++ [none]) (.tup []) := by
  have hlt : h < H.length := getH_lt ho
  refine ⟨check_body, getH_app_eq _ _ _, by simp, fun B S0 w0 α a w us G s hfr => ?_⟩
  have ho1 : getH (H ++ [some (.ghost us G)]) h = some (.box fr 190 [.op h 0, x]) := by rw [getH_app_left hlt]; exact ho
  obtain ⟨b, vs, h1, h2, h3, h4⟩ := s.objs _ _ ho1
  rw [box_args s h1]
  cases h4 with
  | cons _ u0 _ us1 hx0 hxs =>
  cases hxs with
  | cons _ u1 _ us2 hx1 hnil =>
  cases hnil
  obtain ⟨b', hb', rfl⟩ := hx0.inv_op
  have e1 : (envOf B S0 α (H ++ [some (.ghost us G)]) w).α h = α h := rfl
  rw [e1] at hb' h1
  rw [h1] at hb'
  cases hb'
  have h3' : w.heap[b]? = some (.cells #[.pointer (some ⟨b, 0, none⟩), u1] 190 (0, 0)) := h3
  refine (Any.Builder_copyCheck_used blays bx72 b w (by simp [World.cell?, h3'])).mono ?_
  rintro e w' ⟨rfl, rfl⟩
  refine ⟨.tuple #[], α, _, rfl, fun k => ?_, s.reframe (.cons _ _ _ _ (.tup [] [] .nil) .nil) .nil, fun k hk => hfr k ?_, fun k y hk hl => ?_⟩
  · rw [setAt_app_end]
  · simp at hk; omega
  · rw [unmarked_get hu hk] at hl; cases hl
def auxPlain : Heap → Bool
  | [] => true
  | some (.aux x) :: H => (match x.obj with | .cells .. => false | _ => true) && auxPlain H
  | _ :: H => auxPlain H
theorem auxPlain_get : ∀ {H : Heap}, auxPlain H = true → ∀ {h : Nat} {x : Aux}, getH H h = some (.aux x) → ∀ c e fz, x.obj ≠ .cells c e fz
  | [], _, h, x, hx, _, _, _ => by simp [getH] at hx
  | y :: H, hp, 0, x, hx, c, e, fz => by
    have : y = some (.aux x) := by simpa [getH] using hx
    subst this
    simp only [auxPlain, Bool.and_eq_true] at hp
    intro he
    rw [he] at hp
    exact absurd hp.1 (by simp)
  | y :: H, hp, h + 1, x, hx, c, e, fz => by
    refine auxPlain_get (H := H) ?_ (h := h) (by simpa [getH] using hx) c e fz
    cases y with
    | none => exact hp
    | some y => cases y <;> first | exact hp | (simp only [auxPlain, Bool.and_eq_true] at hp; exact hp.2)
theorem string_last {H : Heap} (hp : auxPlain H = true) {h k : Nat} {f1 f2 : Bool} (ho : getH H h = some (.box f1 190 [.op h 0, .own k])) {l : List UInt8} (hk : getH H k = some (.vrow f2 5 (Lib.byteCells l))) :
    Last Tryz.prog 137 [.op h 0] H (.string (bstr l)) := by
  refine ⟨body_of Tryz.func137 (by kernel_rfl) (by kernel_rfl), fun B S0 w0 α a w s => ?_⟩
  obtain ⟨b, vs, h1, h2, h3, h4⟩ := s.objs _ _ ho
  obtain ⟨v, hv, hown⟩ := s.objs _ _ hk
  rw [box_args s h1]
  cases h4 with
  | cons _ u0 _ us1 hx0 hxs =>
  cases hxs with
  | cons _ u1 _ us2 hx1 hnil =>
  cases hnil
  obtain ⟨b', hb', rfl⟩ := hx0.inv_op
  obtain ⟨ad, n, c, hu1, rfl⟩ := hx1.inv_own
  have e1 : ∀ j, (envOf B S0 α H w).α j = α j := fun _ => rfl
  rw [e1] at hb' h1 hu1 hv
  rw [h1] at hb'
  cases hb'
  rw [hv] at hu1
  cases hu1
  have h3' : w.heap[b]? = some (.cells #[.pointer (some ⟨b, 0, none⟩), .slice ad n c] 190 (0, 0)) := h3
  have hne : k ≠ h := fun e => by subst e; rw [ho] at hk; cases hk
  have hblk : (Value.slice ad n c).ownBlock ≠ some b := fun e => by
    refine s.inj k h _ _ _ _ b hk ho hne hv h1 ?_ rfl
    cases ad <;> simp [Value.ownBlock, blk] at e ⊢
    exact e
  have hF : Lib.IsBuilderF 190 5 B b (Lib.byteCells l) w := Lib.IsBuilderF.of (.inr ⟨h2, .slice ad n c, h3', hown, hblk⟩)
  refine (Any.Builder_String_any_k Tryz.lays169 Tryz.Builder_Extra_169 B b l w hF s.base).mono ?_
  rintro e w' ⟨rfl, _, hb, hoth⟩
  refine ⟨rfl, hb, Nat.le_trans s.base hb.size, fun j x b' hj hα => ?_⟩
  obtain ⟨b2, g1, g2, g3, _⟩ := s.objs _ _ hj
  rw [e1, hα] at g1
  cases g1
  rw [g3]
  refine hoth _ _ g3 (fun e => ?_) (fun c fz => auxPlain_get hp hj c 5 fz)
  cases e
  exact s.inj j h _ _ _ _ _ hj ho (fun e => by subst e; rw [ho] at hj; cases hj) hα h1 rfl rfl
end Go.Flow.Tryz
namespace Go.Flow.Tryz
open Go Go.Proofs Go.Shelf Go.RowKit Go.Sort Go.Lib Go.Flow
set_option maxHeartbeats 3200000 in
set_option maxRecDepth 100000 in
theorem fmt_inner (u : Nat) (hu64 : u < 18446744073709551616) (w : World) (htab : Lib.TabIs Tryz.prog w "internal/strconv.uint64pow10" .u64 Lib.pow10Tab) :
    Calls Tryz.prog 173 #[.int .u64 u, .int .i64 10] w fun e w' => e = .returned (.string ⟨(Lib.decDigits u).toArray⟩) ∧ Below w.heap.size w w' := by
  by_cases hs : u < 100
  · go_enter Tryz.func173, Tryz.ntmps173
    go_wp2_with (go_at_call 193; refine (Tryz.internal_strconv_small u hs _).mono ?_; rintro e w' ⟨rfl, rfl⟩)
    go_ret
    exact ⟨rfl, Below.refl _ _⟩
  · have hu1 : 1 ≤ u := by omega
    have hnd : Lib.nDigits u ≤ 20 := by have := Lib.numDigits_eq u hu1 hu64; split at this <;> omega
    have hal : Tryz.prog.arrayLen 239 = 24 := by kernel_rfl
    have hH0 := Lib.holds_zero0 w 239 (Lib.nDigits u) (by omega)
    have hsl : ∀ W, (Instr.sliceAt 239 (.pointer (some ⟨w.heap.size, 0, none⟩)) none (some (.int .i64 (Lib.nDigits u : Int))) none).run Tryz.prog W = .ok (.slice (some ⟨w.heap.size, 0, none⟩) (Lib.nDigits u) 24) W := fun W => by
      rw [run_sliceAt_array_h W 239 ⟨w.heap.size, 0, none⟩ (by kernel_rfl) .i64 (Lib.nDigits u : Int) (by omega) (by rw [hal]; omega)]
      go_simp
    have hfmt := Tryz.internal_strconv_formatBase10 w.heap.size 0 24 u (Array.replicate (Lib.nDigits u) 0) (w.alloc (.cells Lib.zeros24 239)) hH0 (by rw [Array.size_replicate]; exact Lib.lt_pow_nDigits u) hu64 (by rw [Array.size_replicate]; omega)
    rw [Array.size_replicate] at hfmt
    have HH0 := Lib.hid hH0
    clear hH0 hal
    go_enter Tryz.func173, Tryz.ntmps173
    go_wp2_with (first
      | (go_at_call 194; refine (Tryz.internal_strconv_numDigits u hu1 hu64 _ (Lib.tabIs_alloc htab _)).mono ?_; rintro e w' ⟨rfl, rfl⟩))
    go_at_call 195
    refine hfmt.mono ?_
    rintro e w' ⟨rfl, k, v', dk, rfl, hF⟩
    have hcv : (convert 188 9 (.slice (some ⟨w.heap.size, 0, none⟩) (Lib.nDigits u) 24)).run Tryz.prog ((putRow (fun (b : UInt8) => Value.int .u8 (b.toNat : Int)) (w.alloc (.cells Lib.zeros24 239)) w.heap.size 0 dk).drewN k) = .ok (.string ⟨(Lib.decDigits u).toArray⟩) ((putRow (fun (b : UInt8) => Value.int .u8 (b.toNat : Int)) (w.alloc (.cells Lib.zeros24 239)) w.heap.size 0 dk).drewN k) := by
      have h := run_convert_bytes_back (P := Tryz.prog) ((putRow (fun (b : UInt8) => Value.int .u8 (b.toNat : Int)) (w.alloc (.cells Lib.zeros24 239)) w.heap.size 0 dk).drewN k) 188 9 5 ⟨w.heap.size, 0, none⟩ 24 (Lib.decDigits u) Tryz.underlying188 Tryz.underlying5 Tryz.underlying9 (fun j hj => by
        rw [Lib.row_is_numeral hF j hj, Lib.add_plain, World.cell?_drewN]
        exact cell?_putRow (fun (b : UInt8) => Value.int .u8 (b.toNat : Int)) _ w.heap.size 0 _ dk HH0.out (by rw [hF.size, Array.size_replicate]) j (by rw [hF.size]; rw [Lib.decDigits_length] at hj; exact hj))
      rw [Lib.decDigits_length] at h
      exact h
    go_wp2
    go_ret
    obtain ⟨os, eo⟩ := Lib.fin_at w (.cells Lib.zeros24 239) dk k 0
    refine ⟨rfl, ?_⟩
    rw [eo]
    exact Lib.below_grow _ _ (Nat.le_refl _) _ _
theorem decDigits_nT (u : Nat) : Lib.decDigits u = nT u := rfl
theorem fmt_inner_ok (u : Nat) (hu64 : u < 18446744073709551616) : CallsTo Tryz.prog 173 [uv u, iv 10] (sv (nT u)) :=
  callsTo_v (body_of Tryz.func173 (by kernel_rfl) (by kernel_rfl)) [.int .u64 u, .int .i64 10] fun w hG => (fmt_inner u hu64 w hG.pow).mono fun e w' ⟨h1, h2⟩ =>
    ⟨_, h1, h2, fun E => by rw [decDigits_nT]; exact .v _⟩
theorem parse_ok (l : List UInt8) (u : Nat) (hl : l.length ≤ 9223372036854775806) (h : Lib.parseUintB 64 l = .ok u) : CallsTo Tryz.prog 130 [sv l, iv 10, iv 64] (.tup [uv u, .v .nilIface]) :=
  callsTo_v (body_of Tryz.func130 (by kernel_rfl) (by kernel_rfl)) [.string (bstr l), .int .i64 10, .int .i64 64] fun w hG => (Tryz.strconv_ParseUint_10_at64_ok (bstr l) hl u h w).mono fun e w' ⟨h1, h2⟩ =>
    ⟨_, h1, by rcases h2 with rfl | rfl; exact Below.refl _ _; exact Lib.bytesWorld_below _ _ _, fun E => rep_tup2 E _ _⟩
end Go.Flow.Tryz
namespace Go.Flow
open Go Go.RowKit
variable {P : Program}
theorem Goes.cast {c : Code} {T T' T1 T1' : List AV} {H H' H1 H1' : Heap} {ex : Ex} (h : Goes P c T H ex T1 H1) (e1 : T = T') (e2 : H = H') (e3 : T1 = T1') (e4 : H1 = H1') : Goes P c T' H' ex T1' H1' := by
  subst e1 e2 e3 e4; exact h
theorem GoesIn.cast {c : Code} {T T' T1 T1' : List AV} {H H' H1 H1' : Heap} {ex : Ex} (h : GoesIn P c T H ex T1 H1) (e1 : T = T') (e2 : H = H') (e3 : T1 = T1') (e4 : H1 = H1') : GoesIn P c T' H' ex T1' H1' := by
  subst e1 e2 e3 e4; exact h
theorem Same.cast {T T' T1 T1' : List AV} {H H' H1 H1' : Heap} (h : Same T H T1 H1) (e1 : T = T') (e2 : H = H') (e3 : T1 = T1') (e4 : H1 = H1') : Same T' H' T1' H1' := by
  subst e1 e2 e3 e4; exact h
theorem Inl.cast {f : FuncId} {ys : List AV} {H H' H1 H1' : Heap} {r : AV} (h : Inl P f ys H H1 r) (e2 : H = H') (e4 : H1 = H1') : Inl P f ys H' H1' r := by
  subst e2 e4; exact h
theorem CallsTo.cast {f : FuncId} {ys ys' : List AV} {r r' : AV} (h : CallsTo P f ys r) (e1 : ys = ys') (e2 : r = r') : CallsTo P f ys' r' := by
  subst e1 e2; exact h
end Go.Flow
namespace Go.Flow.Tryz
open Go Go.Proofs Go.RowKit Go.Flow
set_option maxRecDepth 100000
theorem fmt_pub (u : Nat) (hu : u < 18446744073709551616) : CallsTo Tryz.prog 135 [uv u, iv 10] (sv (nT u)) :=
  fmt_ok u (nT u) (AllP.cons (fmt_inner_ok u hu) AllP.nil)
theorem close_code : loopAt Tryz.f104 0 = .rangeFunc (.tmp 16) #[17, 18] (rfA (loopAt Tryz.f104 0)) (rfB (loopAt Tryz.f104 0)) := by kernel_rfl
abbrev cEnd (m : Bool) (x : Int) (r : List Value) : Heap := [cbx m x, cb1, some (.vrow false 5 r), some (.aux ⟨none, .deferred (some []), true⟩)]
theorem close_range0 (m : Bool) (u : Nat) (hu : u < 18446744073709551616) :
    Goes Tryz.prog (loopAt Tryz.f104 0) (st 34 (cT0 u)) [cbx m u, cb0, none] .normal (st 34 (cT0 u)) (cEnd m u (Lib.strCells (bstr (nT u)))) := by
  rw [close_code]
  have hl := nT_le (n := u) (k := 20) (by omega) (by decide)
  refine Goes.cast (goes_backward (xs := [(u : Int)]) (T0 := st 34 (cT0 u)) (H0 := [cbx m u, cb0, none]) (Hs := fun j => match j with | 0 => [cbx m u, cb0, none] | _ + 1 => [cbx m u, cb1, some (.vrow false 5 (Lib.strCells (bstr (nT u))))])
    (by kernel_rfl) rfl (fun j => by cases j <;> rfl) (fun j => by cases j <;> rfl) (by simp) ?_) rfl rfl (by kernel_rfl) (by kernel_rfl)
  intro j x0 hx hj l
  have hj0 : j = 0 := by simpa using hj
  subst hj0
  have hx0 : x0 = u := by simpa using hx.symm
  subst hx0
  refine ⟨_, _, fun p q o1 o2 us => ⟨GoesIn.cast (rd_assign0 m u p q o1 o2 us l AllP.nil) (by kernel_rfl) (by kernel_rfl) rfl (by kernel_rfl), GoesIn.cast (rd_body0 m u (nT u) p q o1 o2 us l ?_) (by kernel_rfl) (by kernel_rfl) rfl (by kernel_rfl)⟩⟩
  repeat' first | exact AllP.nil | refine AllP.cons ?_ ?_
  all_goals first | rfl | exact fmt_pub u hu | skip
  · exact Inl.cast (ws1_inl _ _ p q o1 o2 us _ (nT u) fun us' G => AllP.cons (check_fresh (h := 1) (by rfl) rfl) (AllP.cons (Nat.le_trans (by rw [bstr_size]; exact hl) (by decide)) AllP.nil)) rfl rfl
theorem close_range1 (m : Bool) (r : List Value) (hr : r.length ≤ 1) (u : Nat) (hu : u < 18446744073709551616) :
    Goes Tryz.prog (loopAt Tryz.f104 0) (st 34 (cT0 u)) [cbx m u, cb1, some (.vrow false 5 r)] .normal (st 34 (cT0 u)) (cEnd m u (r ++ Lib.strCells (bstr (nT u)))) := by
  rw [close_code]
  have hl := nT_le (n := u) (k := 20) (by omega) (by decide)
  refine Goes.cast (goes_backward (xs := [(u : Int)]) (T0 := st 34 (cT0 u)) (H0 := [cbx m u, cb1, some (.vrow false 5 r)]) (Hs := fun j => match j with | 0 => [cbx m u, cb1, some (.vrow false 5 r)] | _ + 1 => [cbx m u, cb1, some (.vrow false 5 (r ++ Lib.strCells (bstr (nT u))))])
    (by kernel_rfl) rfl (fun j => by cases j <;> rfl) (fun j => by cases j <;> rfl) (by simp) ?_) rfl rfl (by kernel_rfl) (by kernel_rfl)
  intro j x0 hx hj l
  have hj0 : j = 0 := by simpa using hj
  subst hj0
  have hx0 : x0 = u := by simpa using hx.symm
  subst hx0
  refine ⟨_, _, fun p q o1 o2 us => ⟨GoesIn.cast (rd_assign1 m u r p q o1 o2 us l AllP.nil) (by kernel_rfl) (by kernel_rfl) rfl (by kernel_rfl), GoesIn.cast (rd_body1 m u r (r ++ Lib.strCells (bstr (nT u))) (nT u) p q o1 o2 us l ?_) (by kernel_rfl) (by kernel_rfl) rfl (by kernel_rfl)⟩⟩
  repeat' first | exact AllP.nil | refine AllP.cons ?_ ?_
  all_goals first | rfl | exact fmt_pub u hu | skip
  · exact Inl.cast (ws2_inl _ _ r p q o1 o2 us _ (nT u) fun us' G => AllP.cons (check_used (h := 1) (by rfl) rfl) (AllP.cons (Nat.le_trans (Nat.add_le_add hr (by rw [bstr_size]; exact hl)) (by decide)) AllP.nil)) rfl rfl
theorem bwd_fn (x : Int) : CallsTo Tryz.prog 132 [.lst 1 [uv x]] (.fn 171 [.lp [.lst 1 [uv x]]]) := bwd_ok x AllP.nil
theorem close_none (m : Bool) : CallsTo Tryz.prog 104 [.agg [bv m, .lst 1 []]] (sv [48]) := by
  refine close_zero_ok m ?_
  repeat' first | exact AllP.nil | refine AllP.cons ?_ ?_
  all_goals rfl
theorem close_plus (u : Nat) (hu : u < 18446744073709551616) : CallsTo Tryz.prog 104 [.agg [bv false, .lst 1 [uv u]]] (sv (nT u)) := by
  refine close_pos_ok u (nT u) ?_
  repeat' first | exact AllP.nil | refine AllP.cons ?_ ?_
  all_goals first | rfl | exact bwd_fn _ | exact close_range0 false u hu | skip
  · exact Same.cast ((Same.mask [false, true, true, true]).trans Same.pad) rfl rfl rfl rfl
  · exact Same.cast (Same.mask [false, false, false, true]) rfl rfl rfl rfl
  · exact string_last (by rfl) (h := 1) (k := 2) rfl rfl
theorem close_minus (u : Nat) (hu : u < 18446744073709551616) : CallsTo Tryz.prog 104 [.agg [bv true, .lst 1 [uv u]]] (sv (45 :: nT u)) := by
  refine close_neg_ok u (nT u) ([.int .u8 45] ++ Lib.strCells (bstr (nT u))) ?_
  repeat' first | exact AllP.nil | refine AllP.cons ?_ ?_
  all_goals first | rfl | exact bwd_fn _ | exact close_range1 true [.int .u8 45] (by simp) u hu | skip
  · exact Inl.cast ((wb_inl _ _ 45 fun us G => AllP.cons (check_fresh (h := 1) (by rfl) rfl) (AllP.cons (by decide) AllP.nil)).vrow 5 (us := [.int .u8 45]) rfl) rfl rfl
  · exact Same.cast ((Same.mask [false, true, true, true]).trans (Same.ren [0, 1, 5] (by rfl))) rfl rfl rfl rfl
  · exact Same.cast (Same.mask [false, false, false, true]) rfl rfl rfl rfl
  · exact string_last (by rfl) (h := 1) (k := 2) rfl rfl
end Go.Flow.Tryz
namespace Go.Flow.Tryz
open Go Go.Proofs Go.RowKit Go.Flow
set_option maxRecDepth 100000
theorem trim_pos (x : Nat) (h : 0 < x) : CallsTo Tryz.prog 131 [.lst 1 [uv x]] (.lst 1 [uv x]) := by
  refine trim_nz_ok x ?_
  repeat' first | exact AllP.nil | refine AllP.cons ?_ ?_
  all_goals first | rfl | exact ⟨by decide, rfl⟩ | exact beq_eq_false_iff_ne.2 (by omega)
theorem trim_zero : CallsTo Tryz.prog 131 [.lst 1 [uv 0]] (.lst 1 []) := by
  refine trim_z_ok 0 ?_
  repeat' first | exact AllP.nil | refine AllP.cons ?_ ?_
  all_goals first | rfl | exact ⟨by decide, rfl⟩ | decide | simp
theorem order_short (y : Nat) : CallsTo Tryz.prog 112 [.lst 1 [], .lst 1 [uv y]] (iv (-1)) := by
  refine ord_short_ok y ?_
  repeat' first | exact AllP.nil | refine AllP.cons ?_ ?_
  all_goals rfl
theorem order_ge (x y : Nat) (h : y ≤ x) : ∃ c : Int, 0 ≤ c ∧ CallsTo Tryz.prog 112 [.lst 1 [uv x], .lst 1 [uv y]] (iv c) := by
  by_cases he : x = y
  · subst he
    refine ⟨0, by decide, ord_eq_ok x x ?_⟩
    repeat' first | exact AllP.nil | refine AllP.cons ?_ ?_
    all_goals first | rfl | exact ⟨by decide, rfl⟩ | simp | decide
  · refine ⟨1, by decide, ord_gt_ok x y ?_⟩
    repeat' first | exact AllP.nil | refine AllP.cons ?_ ?_
    all_goals first | rfl | exact ⟨by decide, rfl⟩ | exact bne_iff_ne.2 (by omega) | exact decide_eq_false (by omega)
theorem divide_code : loopAt Tryz.f103 0 = .rangeFunc (.tmp 26) #[27, 28] (rfA (loopAt Tryz.f103 0)) (rfB (loopAt Tryz.f103 0)) := by kernel_rfl
theorem divide_range (x y : Nat) (hy : 0 < y) (hx : x < 18446744073709551616) :
    Goes Tryz.prog (loopAt Tryz.f103 0) (st dn (dT0 x)) (dH y 0 0) .normal (st dn (dT0 x)) (dH y (((x / y : Nat)) : Int) (((x % y : Nat)) : Int) ++ [some (.aux ⟨none, .deferred (some []), true⟩)]) := by
  rw [divide_code]
  have e1 : Int.tdiv ((0 : Int) * 1000000000 + (x : Int)) (y : Int) = ((x / y : Nat) : Int) := by rw [Int.zero_mul, Int.zero_add, Int.ofNat_tdiv]
  have e2 : Int.tmod ((0 : Int) * 1000000000 + (x : Int)) (y : Int) = ((x % y : Nat) : Int) := by rw [Int.zero_mul, Int.zero_add, Int.ofNat_tmod]
  have hq : x / y ≤ x := Nat.div_le_self _ _
  rw [← e1, ← e2]
  refine Goes.cast (goes_backward (xs := [(x : Int)]) (T0 := st dn (dT0 x)) (H0 := dH y 0 0) (Hs := fun j => match j with | 0 => dH y 0 0 | _ + 1 => dH y (Int.tdiv ((0 : Int) * 1000000000 + (x : Int)) y) (Int.tmod ((0 : Int) * 1000000000 + (x : Int)) y))
    (by kernel_rfl) rfl (fun j => by cases j <;> rfl) (fun j => by cases j <;> rfl) (by simp) ?_) rfl rfl (by kernel_rfl) (by kernel_rfl)
  intro j x0 hx0 hj l
  have hj0 : j = 0 := by simpa using hj
  subst hj0
  have hx1 : x0 = x := by simpa using hx0.symm
  subst hx1
  refine ⟨_, _, fun p q o1 o2 us => ⟨GoesIn.cast (rd_dassign x y 0 0 p q o1 o2 us l AllP.nil) (by kernel_rfl) (by kernel_rfl) rfl (by kernel_rfl), GoesIn.cast (rd_dbody x y p q o1 o2 us l ?_) (by kernel_rfl) (by kernel_rfl) rfl (by kernel_rfl)⟩⟩
  repeat' first | exact AllP.nil | refine AllP.cons ?_ ?_
  all_goals first | rfl | exact ⟨by decide, rfl⟩ | decide | (rw [wu64] <;> omega) | omega | skip
  · rw [e1]
    exact (wu64 _).2 ⟨Int.natCast_nonneg _, by clear e1 e2; generalize x / y = q at *; omega⟩
theorem divide_zero (y : Nat) : CallsTo Tryz.prog 103 [.lst 1 [], .lst 1 [uv y]] (.tup [.v (.slice none 0 0), .lst 1 []]) := by
  refine div_zero_ok y ?_
  repeat' first | exact AllP.nil | refine AllP.cons ?_ ?_
  all_goals first | rfl | exact order_short y
theorem divide_ge (x y : Nat) (hy : 0 < y) (h : y ≤ x) (hd : x % y = 0) (hx : x < 18446744073709551616) : CallsTo Tryz.prog 103 [.lst 1 [uv x], .lst 1 [uv y]] (.tup [.lst 1 [uv ((x / y : Nat) : Int)], .lst 1 []]) := by
  obtain ⟨c, hc, ho⟩ := order_ge x y h
  have hr := divide_range x y hy hx
  rw [hd] at hr
  refine div_one_ok x y c ((x / y : Nat) : Int) 0 ?_
  repeat' first | exact AllP.nil | refine AllP.cons ?_ ?_
  all_goals first | rfl | exact ho | exact decide_eq_false (by omega) | exact bwd_fn _ | exact hr | exact trim_zero | exact trim_pos _ (Nat.div_pos h hy) | skip
  · exact Same.cast (Same.mask [true, false, false, true, true, true]) rfl rfl rfl rfl
  · decide
end Go.Flow.Tryz
