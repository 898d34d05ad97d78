/- The row of MeshShares holds: for every sheet, every index and every shift the law answers true, and the arguments read as they did. -/
import Derived.Test.YtampjkpdiojciaaGreatDoorCards
import Derived.Test.YtampjkpdiojciaaGreatDoorMlA
import Derived.Test.YtampjkpdiojciaaGreatDoorMlB
import Derived.Test.YtampjkpdiojciaaGreatDoorMlC
import Derived.Test.YtampjkpdiojciaaGreatDoorMlD
import Derived.Test.YtampjkpdiojciaaGreatDoorMlE
import Derived.Test.YtampjkpdiojciaaGreatDoorMlF
import Derived.Test.YtampjkpdiojciaaGreatDoorMlG
namespace Go.Flow.Tryz
open Go Go.Proofs Go.RowKit Go.Flow Go.ChangeShapes Go.WideShapes Go.ChangeAt Go.Deep
set_option maxRecDepth 100000
theorem open_at {H : Type} {enc : TypeId × Value → H} {W : World} {base : Nat} {sp : Nat → Bool} {v : Value} {d : DataW H} {p : List MemPlace}
    (hv : Value.okWide Tryz.prog W .any base 47 v) (h : DataW.Trod enc Tryz.prog W 0 sp true 47 v d p) :
    ∃ x y, v = .agg #[.int .i8 x, .int .i8 y] ∧ p = [] ∧ x.natAbs ≤ 128 ∧ y.natAbs ≤ 128 ∧ ∀ (W' : World) (sp' : Nat → Bool), DataW.Trod enc Tryz.prog W' 0 sp' true 47 v d [] := by
  unfold Value.okWide at hv
  rw [Tryz.underlying47] at hv
  obtain ⟨cs, rfl, hsz, _⟩ := hv
  obtain ⟨fuel, h⟩ := h
  obtain ⟨xs, m, rfl, hx, hl, hn, hel⟩ := DataW.trod_array Tryz.underlying47 h
  have c1 : Tryz.prog.cellsOf 46 = 1 := by kernel_rfl
  have c2 : Tryz.prog.cellsOf 47 = 2 := by kernel_rfl
  rw [c2] at hsz
  obtain ⟨l⟩ := cs
  match l, hsz with
  | [u0, u1], _ =>
    match xs, hn with
    | [y0, y1], _ =>
      have e0 := hel 0 (by decide)
      have e1 := hel 1 (by decide)
      rw [c1] at e0 e1
      obtain ⟨x, a1, a2, wx⟩ := DataW.trod_int Tryz.underlying46 (show DataW.trod enc Tryz.prog W 0 sp true m 46 [u0] = some y0 from e0)
      obtain ⟨y, b1, b2, wy⟩ := DataW.trod_int Tryz.underlying46 (show DataW.trod enc Tryz.prog W 0 sp true m 46 [u1] = some y1 from e1)
      cases a1; cases b1; subst a2; subst b2
      simp only [Prod.mk.injEq, List.map_cons, List.map_nil, List.flatMap_cons, List.flatMap_nil, List.append_nil] at hx
      obtain ⟨rfl, rfl⟩ := hx
      have bx := bounds_i8 wx
      have by' := bounds_i8 wy
      refine ⟨x, y, rfl, rfl, by omega, by omega, fun W' sp' => ⟨2, ?_⟩⟩
      have m0 : ∀ n, DataW.trod enc Tryz.prog W' 0 sp' true (n + 1) 46 [.int .i8 x] = some (.lit (.int .i8 x), []) := fun n => by simp [DataW.trod, Tryz.underlying46, wx]
      have m1 : ∀ n, DataW.trod enc Tryz.prog W' 0 sp' true (n + 1) 46 [.int .i8 y] = some (.lit (.int .i8 y), []) := fun n => by simp [DataW.trod, Tryz.underlying46, wy]
      simp [DataW.trod, Value.cells, Tryz.underlying47, c1, c2, List.range_succ]
      simp [wx, wy, Tryz.underlying46]
theorem open_sheet {H : Type} {enc : TypeId × Value → H} {W : World} {base : Nat} {sp : Nat → Bool} {v : Value} {d : DataW H} {p : List MemPlace}
    (hv : Value.okWide Tryz.prog W .any base 49 v) (h : DataW.Trod enc Tryz.prog W 0 sp true 49 v d p) :
    ∃ k a b hh, v = .agg #[.int .u8 k, .int .i8 a, .int .i8 b, .bool hh] ∧ p = [] ∧ 0 ≤ k ∧ ∀ (W' : World) (sp' : Nat → Bool), DataW.Trod enc Tryz.prog W' 0 sp' true 49 v d [] := by
  unfold Value.okWide at hv
  rw [Tryz.underlying49] at hv
  obtain ⟨cs, rfl, hsz, _⟩ := hv
  obtain ⟨fuel, h⟩ := h
  obtain ⟨y0, y1, y2, n, hx, hl, q0, q1, q2⟩ := trod_struct3 Tryz.underlying49 h
  have c1 : Tryz.prog.cellsOf 46 = 1 := by kernel_rfl
  have c2 : Tryz.prog.cellsOf 47 = 2 := by kernel_rfl
  have c5 : Tryz.prog.cellsOf 5 = 1 := by kernel_rfl
  have c4 : Tryz.prog.cellsOf 4 = 1 := by kernel_rfl
  have c3 : Tryz.prog.cellsOf 49 = 4 := by kernel_rfl
  rw [c3] at hsz
  simp only [c5, c4, c2] at q0 q1 q2
  obtain ⟨l⟩ := cs
  match l, hsz with
  | [u0, u1, u2, u3], _ =>
    obtain ⟨k, a1, a2, wk⟩ := DataW.trod_int Tryz.underlying5 (show DataW.trod enc Tryz.prog W 0 sp true n 5 [u0] = some y0 from q0)
    obtain ⟨hh, b1, b2⟩ := DataW.trod_bool Tryz.underlying4 (show DataW.trod enc Tryz.prog W 0 sp true n 4 [u3] = some y2 from q2)
    obtain ⟨xs, m, e, hxs, _, hn, hel⟩ := DataW.trod_array Tryz.underlying47 (show DataW.trod enc Tryz.prog W 0 sp true n 47 [u1, u2] = some y1 from q1)
    match xs, hn with
    | [z0, z1], _ =>
      have e0 := hel 0 (by decide)
      have e1 := hel 1 (by decide)
      rw [c1] at e0 e1
      obtain ⟨a, d1, d2, wa⟩ := DataW.trod_int Tryz.underlying46 (show DataW.trod enc Tryz.prog W 0 sp true m 46 [u1] = some z0 from e0)
      obtain ⟨b, f1, f2, wb⟩ := DataW.trod_int Tryz.underlying46 (show DataW.trod enc Tryz.prog W 0 sp true m 46 [u2] = some z1 from e1)
      cases a1; cases b1; cases d1; cases f1; subst a2; subst b2; subst d2; subst f2
      subst hxs
      simp only [Prod.mk.injEq, List.map_cons, List.map_nil, List.flatMap_cons, List.flatMap_nil, List.append_nil, List.nil_append] at hx
      obtain ⟨rfl, rfl⟩ := hx
      have hk : 0 ≤ k := by
        have : (0 : Int) ≤ k ∧ k ≤ 255 := by simpa [Lit.wf, IntKind.min, IntKind.max, IntKind.signed, IntKind.bits] using wk
        exact this.1
      refine ⟨k, a, b, hh, rfl, rfl, hk, fun W' sp' => ⟨3, ?_⟩⟩
      have t1 : DataW.trod enc Tryz.prog W' 0 sp' true 2 47 [.int .i8 a, .int .i8 b] = some (.agg [.lit (.int .i8 a), .lit (.int .i8 b)], []) := by
        simp [DataW.trod, Tryz.underlying47, c1, c2, List.range_succ]
        simp [wa, wb, Tryz.underlying46]
      have t0 : DataW.trod enc Tryz.prog W' 0 sp' true 2 5 [.int .u8 k] = some (.lit (.int .u8 k), []) := by simp [DataW.trod, Tryz.underlying5, wk]
      have t2 : DataW.trod enc Tryz.prog W' 0 sp' true 2 4 [.bool hh] = some (.lit (.bool hh), []) := by simp [DataW.trod, Tryz.underlying4]
      have := trod_struct3_mk (cs := [.int .u8 k, .int .i8 a, .int .i8 b, .bool hh]) Tryz.underlying49 (by rw [c3]; rfl) (by simp only [c5]; exact t0) (by simp only [c2]; exact t1) (by simp only [c4]; exact t2)
      simpa [Value.cells] using this
end Go.Flow.Tryz
namespace Go.Flow.Tryz
open Go Go.Proofs Go.RowKit Go.Flow
set_option maxRecDepth 100000
theorem sh_s0_step (p1 : List UInt8) (p2 : List UInt8) (w1 : List UInt8) (w2 : List UInt8) (w3 : List UInt8) (c1 : List UInt8) (c2 : List UInt8) (c3 : List UInt8) (c4 : List UInt8) (c5 : List UInt8) (c6 : List UInt8) {ex : Ex} {T2 : List AV} {H2 : Heap} (m : Nat) (h : AllP
    [true = true,
     (0 : Int) ≤ (0 : Int) ∧ (0 : Int) < (↑(3 : Nat) : Int),
     CallsTo Tryz.prog (13 : Nat) [sv w1] (iv 0),
     false = false,
     IntKind.wrap IntKind.i64 ((0 : Int) + (1 : Int)) = (0 : Int) + (1 : Int)])
    (h2 : Rounds Tryz.prog (bodyOf (loopAt Tryz.f5 (0 : Nat))) m (st 140 [AV.any, AV.any, AV.any, AV.any, AV.any, AV.any, AV.any, AV.any, AV.op 0 0, AV.op 1 0, iv 0, AV.op 2 0, iv 2, AV.op 3 0, iv (((0 : Int) + (1 : Int)))]) [some (AObj.box false 24 [sv p1, sv p2]), some (AObj.box false 63 [sv w1, sv w2, sv w3]), some (AObj.box false 63 [strv ((bstr ([]))), strv ((bstr ([]))), strv ((bstr ([])))]), some (AObj.box false 57 [sv c1, sv c2, sv c3, sv c4, sv c5, sv c6])] ex T2 H2) :
    Rounds Tryz.prog (bodyOf (loopAt Tryz.f5 (0 : Nat))) (m + 1) (st 140 [AV.any, AV.any, AV.any, AV.any, AV.any, AV.any, AV.any, AV.any, AV.op 0 0, AV.op 1 0, iv 0, AV.op 2 0, iv 2, AV.op 3 0, iv 0]) [some (AObj.box false 24 [sv p1, sv p2]), some (AObj.box false 63 [sv w1, sv w2, sv w3]), some (AObj.box false 63 [strv ((bstr ([]))), strv ((bstr ([]))), strv ((bstr ([])))]), some (AObj.box false 57 [sv c1, sv c2, sv c3, sv c4, sv c5, sv c6])] ex T2 H2 :=
  Rounds.step_of fits hmix [Orc.b true, Orc.a (iv 0), Orc.b false] (15 : Nat) [(0 : Nat), (1 : Nat), (2 : Nat), (3 : Nat)] (by kernel_rfl) h h2
theorem sh_s1_step (p1 : List UInt8) (p2 : List UInt8) (w1 : List UInt8) (w2 : List UInt8) (w3 : List UInt8) (c1 : List UInt8) (c2 : List UInt8) (c3 : List UInt8) (c4 : List UInt8) (c5 : List UInt8) (c6 : List UInt8) {ex : Ex} {T2 : List AV} {H2 : Heap} (m : Nat) (h : AllP
    [true = true,
     (0 : Int) ≤ (1 : Int) ∧ (1 : Int) < (↑(3 : Nat) : Int),
     CallsTo Tryz.prog (13 : Nat) [sv w2] (iv 0),
     false = false,
     IntKind.wrap IntKind.i64 ((1 : Int) + (1 : Int)) = (1 : Int) + (1 : Int)])
    (h2 : Rounds Tryz.prog (bodyOf (loopAt Tryz.f5 (0 : Nat))) m (st 140 [AV.any, AV.any, AV.any, AV.any, AV.any, AV.any, AV.any, AV.any, AV.op 0 0, AV.op 1 0, iv 0, AV.op 2 0, iv 2, AV.op 3 0, iv (((1 : Int) + (1 : Int)))]) [some (AObj.box false 24 [sv p1, sv p2]), some (AObj.box false 63 [sv w1, sv w2, sv w3]), some (AObj.box false 63 [strv ((bstr ([]))), strv ((bstr ([]))), strv ((bstr ([])))]), some (AObj.box false 57 [sv c1, sv c2, sv c3, sv c4, sv c5, sv c6])] ex T2 H2) :
    Rounds Tryz.prog (bodyOf (loopAt Tryz.f5 (0 : Nat))) (m + 1) (st 140 [AV.any, AV.any, AV.any, AV.any, AV.any, AV.any, AV.any, AV.any, AV.op 0 0, AV.op 1 0, iv 0, AV.op 2 0, iv 2, AV.op 3 0, iv 1]) [some (AObj.box false 24 [sv p1, sv p2]), some (AObj.box false 63 [sv w1, sv w2, sv w3]), some (AObj.box false 63 [strv ((bstr ([]))), strv ((bstr ([]))), strv ((bstr ([])))]), some (AObj.box false 57 [sv c1, sv c2, sv c3, sv c4, sv c5, sv c6])] ex T2 H2 :=
  Rounds.step_of fits hmix [Orc.b true, Orc.a (iv 0), Orc.b false] (15 : Nat) [(0 : Nat), (1 : Nat), (2 : Nat), (3 : Nat)] (by kernel_rfl) h h2
theorem sh_s2_step (p1 : List UInt8) (p2 : List UInt8) (w1 : List UInt8) (w2 : List UInt8) (w3 : List UInt8) (c1 : List UInt8) (c2 : List UInt8) (c3 : List UInt8) (c4 : List UInt8) (c5 : List UInt8) (c6 : List UInt8) {ex : Ex} {T2 : List AV} {H2 : Heap} (m : Nat) (h : AllP
    [true = true,
     (0 : Int) ≤ (2 : Int) ∧ (2 : Int) < (↑(3 : Nat) : Int),
     CallsTo Tryz.prog (13 : Nat) [sv w3] (iv 0),
     false = false,
     IntKind.wrap IntKind.i64 ((2 : Int) + (1 : Int)) = (2 : Int) + (1 : Int)])
    (h2 : Rounds Tryz.prog (bodyOf (loopAt Tryz.f5 (0 : Nat))) m (st 140 [AV.any, AV.any, AV.any, AV.any, AV.any, AV.any, AV.any, AV.any, AV.op 0 0, AV.op 1 0, iv 0, AV.op 2 0, iv 2, AV.op 3 0, iv (((2 : Int) + (1 : Int)))]) [some (AObj.box false 24 [sv p1, sv p2]), some (AObj.box false 63 [sv w1, sv w2, sv w3]), some (AObj.box false 63 [strv ((bstr ([]))), strv ((bstr ([]))), strv ((bstr ([])))]), some (AObj.box false 57 [sv c1, sv c2, sv c3, sv c4, sv c5, sv c6])] ex T2 H2) :
    Rounds Tryz.prog (bodyOf (loopAt Tryz.f5 (0 : Nat))) (m + 1) (st 140 [AV.any, AV.any, AV.any, AV.any, AV.any, AV.any, AV.any, AV.any, AV.op 0 0, AV.op 1 0, iv 0, AV.op 2 0, iv 2, AV.op 3 0, iv 2]) [some (AObj.box false 24 [sv p1, sv p2]), some (AObj.box false 63 [sv w1, sv w2, sv w3]), some (AObj.box false 63 [strv ((bstr ([]))), strv ((bstr ([]))), strv ((bstr ([])))]), some (AObj.box false 57 [sv c1, sv c2, sv c3, sv c4, sv c5, sv c6])] ex T2 H2 :=
  Rounds.step_of fits hmix [Orc.b true, Orc.a (iv 0), Orc.b false] (15 : Nat) [(0 : Nat), (1 : Nat), (2 : Nat), (3 : Nat)] (by kernel_rfl) h h2
theorem sh_s3_out (p1 : List UInt8) (p2 : List UInt8) (w1 : List UInt8) (w2 : List UInt8) (w3 : List UInt8) (c1 : List UInt8) (c2 : List UInt8) (c3 : List UInt8) (c4 : List UInt8) (c5 : List UInt8) (c6 : List UInt8) (m : Nat) (h : AllP
    [false = false]) :
    Rounds Tryz.prog (bodyOf (loopAt Tryz.f5 (0 : Nat))) (m + 1) (st 140 [AV.any, AV.any, AV.any, AV.any, AV.any, AV.any, AV.any, AV.any, AV.op 0 0, AV.op 1 0, iv 0, AV.op 2 0, iv 2, AV.op 3 0, iv 3]) [some (AObj.box false 24 [sv p1, sv p2]), some (AObj.box false 63 [sv w1, sv w2, sv w3]), some (AObj.box false 63 [strv ((bstr ([]))), strv ((bstr ([]))), strv ((bstr ([])))]), some (AObj.box false 57 [sv c1, sv c2, sv c3, sv c4, sv c5, sv c6])] (Ex.exit (0 : Nat)) (st 140 [AV.any, AV.any, AV.any, AV.any, AV.any, AV.any, AV.any, AV.any, AV.op 0 0, AV.op 1 0, iv 0, AV.op 2 0, iv 2, AV.op 3 0, iv 3]) [some (AObj.box false 24 [sv p1, sv p2]), some (AObj.box false 63 [sv w1, sv w2, sv w3]), some (AObj.box false 63 [strv ((bstr ([]))), strv ((bstr ([]))), strv ((bstr ([])))]), some (AObj.box false 57 [sv c1, sv c2, sv c3, sv c4, sv c5, sv c6])] :=
  Rounds.out_of fits hmix [Orc.b false] (15 : Nat) [(0 : Nat), (1 : Nat), (2 : Nat), (3 : Nat)] m (by simp) (by kernel_rfl) h
theorem sh_neg_ok (k : Int) (a : Int) (b : Int) (i : Int) (x : Int) (y : Int) (hb : Bool) (ps : List (List Value)) (ts : List (List Value)) (p1 : List UInt8) (p2 : List UInt8) (h : AllP
    [CallsTo Tryz.prog (12 : Nat) [] (bv (true)),
     false = false,
     CallsTo Tryz.prog (23 : Nat) [AV.agg [AV.v (Value.int IntKind.u8 k), AV.v (Value.int IntKind.i8 a), AV.v (Value.int IntKind.i8 b), bv (hb)]] (AV.agg [AV.ps 2 ps, AV.ps 3 ts]),
     CallsTo Tryz.prog (24 : Nat) [AV.agg [AV.v (Value.int IntKind.u8 k), AV.v (Value.int IntKind.i8 a), AV.v (Value.int IntKind.i8 b), bv (hb)], AV.agg [AV.v (Value.int IntKind.i8 x), AV.v (Value.int IntKind.i8 y)], iv 6] (AV.agg [sv p1, sv p2]),
     CallsTo Tryz.prog (28 : Nat) [AV.agg [AV.ps 2 ps, AV.ps 3 ts], iv (i), AV.agg [sv p1, sv p2]] (AV.tup [AV.agg [strv ((bstr ([]))), strv ((bstr ([]))), strv ((bstr ([])))], iv 3]),
     decide (i < (0 : Int)) = true,
     decide (i < (0 : Int)) = true,
     decide (i < (0 : Int)) = true,
     decide (i < (0 : Int)) = true,
     decide (i < (0 : Int)) = true,
     decide (i < (0 : Int)) = true,
     true = true,
     PureOp Tryz.prog { dst := some (42 : Nat), op := Op.binOp BinOp.eql (63 : Nat) (Operand.tmp (40 : Nat)) (Operand.tmp (41 : Nat)) (63 : Nat), type := nat_lit 4, pos := "law.go:446", after := { toList := [{ on := nat_lit 0, ground := Ground.data }, { on := nat_lit 1, ground := Ground.data }] }, guard := none } [AV.agg [AV.v (Value.int IntKind.u8 k), AV.v (Value.int IntKind.i8 a), AV.v (Value.int IntKind.i8 b), bv (hb)], iv (i), AV.agg [AV.v (Value.int IntKind.i8 x), AV.v (Value.int IntKind.i8 y)], AV.op 0 0, uu, AV.op 1 0, bv (false), AV.op 2 0, AV.op 3 0, AV.op 4 0, iv 3, uu, uu, uu, uu, uu, uu, bv (true), bv (false), AV.agg [AV.v (Value.int IntKind.u8 k), AV.v (Value.int IntKind.i8 a), AV.v (Value.int IntKind.i8 b), bv (hb)], AV.agg [AV.ps 2 ps, AV.ps 3 ts], AV.agg [AV.v (Value.int IntKind.u8 k), AV.v (Value.int IntKind.i8 a), AV.v (Value.int IntKind.i8 b), bv (hb)], AV.agg [AV.v (Value.int IntKind.i8 x), AV.v (Value.int IntKind.i8 y)], AV.agg [sv p1, sv p2], AV.tup [AV.agg [strv ((bstr ([]))), strv ((bstr ([]))), strv ((bstr ([])))], iv 3], AV.agg [AV.ps 2 ps, AV.ps 3 ts], iv (i), AV.agg [sv p1, sv p2], AV.tup [AV.agg [strv ((bstr ([]))), strv ((bstr ([]))), strv ((bstr ([])))], iv 3], AV.agg [strv ((bstr ([]))), strv ((bstr ([]))), strv ((bstr ([])))], iv 3, iv (i), bv ((decide (i < (0 : Int)))), bv ((decide (i < (0 : Int)))), uu, uu, uu, uu, uu, bv (true), AV.agg [strv ((bstr ([]))), strv ((bstr ([]))), strv ((bstr ([])))], AV.agg [strv ({ data := #[] }), strv ({ data := #[] }), strv ({ data := #[] })], uu, uu, uu, uu, uu, uu, uu, uu, uu, uu, uu, uu, uu, uu, uu, uu, uu, uu, uu, uu, uu, uu, uu, uu, uu, uu, uu, uu, uu, uu, uu, uu, uu, uu, uu, uu, uu, uu, uu, uu, uu, uu, uu, uu, uu, uu, uu, uu, uu, uu, uu, uu, uu, uu, uu, uu, uu, uu, uu, uu, uu, uu, uu, uu, uu, uu, uu, uu, uu, uu, uu, uu, uu, uu, uu, uu, uu, uu, uu, uu, uu, uu, uu, uu, uu, uu, uu, uu, uu, uu, uu, uu, uu, uu, uu, uu, uu, uu] (bv (true)),
     true = true,
     true = true,
     true = true]) :
    CallsTo Tryz.prog 5 [AV.agg [AV.v (Value.int IntKind.u8 k), AV.v (Value.int IntKind.i8 a), AV.v (Value.int IntKind.i8 b), bv (hb)], iv (i), AV.agg [AV.v (Value.int IntKind.i8 x), AV.v (Value.int IntKind.i8 y)]] (bv (true)) :=
  fn_ok fits hmix Tryz.func5 (by kernel_rfl)
    [Orc.a (bv (true)), Orc.b false, Orc.a (AV.agg [AV.ps 2 ps, AV.ps 3 ts]), Orc.a (AV.agg [sv p1, sv p2]), Orc.a (AV.tup [AV.agg [strv ((bstr ([]))), strv ((bstr ([]))), strv ((bstr ([])))], iv 3]), Orc.b true, Orc.b true, Orc.b true, Orc.b true, Orc.b true, Orc.b true, Orc.b true, Orc.x (bv (true)), Orc.b true, Orc.b true, Orc.b true] (by kernel_rfl) h
theorem sh_big_ok (k : Int) (a : Int) (b : Int) (i : Int) (x : Int) (y : Int) (hb : Bool) (ps : List (List Value)) (ts : List (List Value)) (p1 : List UInt8) (p2 : List UInt8) (h : AllP
    [CallsTo Tryz.prog (12 : Nat) [] (bv (true)),
     false = false,
     CallsTo Tryz.prog (23 : Nat) [AV.agg [AV.v (Value.int IntKind.u8 k), AV.v (Value.int IntKind.i8 a), AV.v (Value.int IntKind.i8 b), bv (hb)]] (AV.agg [AV.ps 2 ps, AV.ps 3 ts]),
     CallsTo Tryz.prog (24 : Nat) [AV.agg [AV.v (Value.int IntKind.u8 k), AV.v (Value.int IntKind.i8 a), AV.v (Value.int IntKind.i8 b), bv (hb)], AV.agg [AV.v (Value.int IntKind.i8 x), AV.v (Value.int IntKind.i8 y)], iv 6] (AV.agg [sv p1, sv p2]),
     CallsTo Tryz.prog (28 : Nat) [AV.agg [AV.ps 2 ps, AV.ps 3 ts], iv (i), AV.agg [sv p1, sv p2]] (AV.tup [AV.agg [strv ((bstr ([]))), strv ((bstr ([]))), strv ((bstr ([])))], iv 3]),
     decide (i < (0 : Int)) = false,
     decide (i < (0 : Int)) = false,
     decide (i < (0 : Int)) = false,
     decide (i < (0 : Int)) = false,
     decide (i < (0 : Int)) = false,
     decide (i < (0 : Int)) = false,
     decide (i ≥ (↑(List.length (List.map rowAV ts)) : Int)) = true,
     PureOp Tryz.prog { dst := some (42 : Nat), op := Op.binOp BinOp.eql (63 : Nat) (Operand.tmp (40 : Nat)) (Operand.tmp (41 : Nat)) (63 : Nat), type := nat_lit 4, pos := "law.go:446", after := { toList := [{ on := nat_lit 0, ground := Ground.data }, { on := nat_lit 1, ground := Ground.data }] }, guard := none } [AV.agg [AV.v (Value.int IntKind.u8 k), AV.v (Value.int IntKind.i8 a), AV.v (Value.int IntKind.i8 b), bv (hb)], iv (i), AV.agg [AV.v (Value.int IntKind.i8 x), AV.v (Value.int IntKind.i8 y)], AV.op 0 0, uu, AV.op 1 0, bv (false), AV.op 2 0, AV.op 3 0, AV.op 4 0, iv 3, uu, uu, uu, uu, uu, uu, bv (true), bv (false), AV.agg [AV.v (Value.int IntKind.u8 k), AV.v (Value.int IntKind.i8 a), AV.v (Value.int IntKind.i8 b), bv (hb)], AV.agg [AV.ps 2 ps, AV.ps 3 ts], AV.agg [AV.v (Value.int IntKind.u8 k), AV.v (Value.int IntKind.i8 a), AV.v (Value.int IntKind.i8 b), bv (hb)], AV.agg [AV.v (Value.int IntKind.i8 x), AV.v (Value.int IntKind.i8 y)], AV.agg [sv p1, sv p2], AV.tup [AV.agg [strv ((bstr ([]))), strv ((bstr ([]))), strv ((bstr ([])))], iv 3], AV.agg [AV.ps 2 ps, AV.ps 3 ts], iv (i), AV.agg [sv p1, sv p2], AV.tup [AV.agg [strv ((bstr ([]))), strv ((bstr ([]))), strv ((bstr ([])))], iv 3], AV.agg [strv ((bstr ([]))), strv ((bstr ([]))), strv ((bstr ([])))], iv 3, iv (i), bv ((decide (i < (0 : Int)))), bv ((decide (i < (0 : Int)))), iv (i), AV.op 2 1, AV.ps 3 ts, iv ((↑(List.length (List.map rowAV ts)) : Int)), bv ((decide (i ≥ (↑(List.length (List.map rowAV ts)) : Int)))), bv ((decide (i ≥ (↑(List.length (List.map rowAV ts)) : Int)))), AV.agg [strv ((bstr ([]))), strv ((bstr ([]))), strv ((bstr ([])))], AV.agg [strv ({ data := #[] }), strv ({ data := #[] }), strv ({ data := #[] })], uu, uu, uu, uu, uu, uu, uu, uu, uu, uu, uu, uu, uu, uu, uu, uu, uu, uu, uu, uu, uu, uu, uu, uu, uu, uu, uu, uu, uu, uu, uu, uu, uu, uu, uu, uu, uu, uu, uu, uu, uu, uu, uu, uu, uu, uu, uu, uu, uu, uu, uu, uu, uu, uu, uu, uu, uu, uu, uu, uu, uu, uu, uu, uu, uu, uu, uu, uu, uu, uu, uu, uu, uu, uu, uu, uu, uu, uu, uu, uu, uu, uu, uu, uu, uu, uu, uu, uu, uu, uu, uu, uu, uu, uu, uu, uu, uu, uu] (bv (true)),
     true = true,
     true = true,
     true = true]) :
    CallsTo Tryz.prog 5 [AV.agg [AV.v (Value.int IntKind.u8 k), AV.v (Value.int IntKind.i8 a), AV.v (Value.int IntKind.i8 b), bv (hb)], iv (i), AV.agg [AV.v (Value.int IntKind.i8 x), AV.v (Value.int IntKind.i8 y)]] (bv (true)) :=
  fn_ok fits hmix Tryz.func5 (by kernel_rfl)
    [Orc.a (bv (true)), Orc.b false, Orc.a (AV.agg [AV.ps 2 ps, AV.ps 3 ts]), Orc.a (AV.agg [sv p1, sv p2]), Orc.a (AV.tup [AV.agg [strv ((bstr ([]))), strv ((bstr ([]))), strv ((bstr ([])))], iv 3]), Orc.b false, Orc.b false, Orc.b false, Orc.b false, Orc.b false, Orc.b false, Orc.b true, Orc.x (bv (true)), Orc.b true, Orc.b true, Orc.b true] (by kernel_rfl) h
theorem sh_in_ok (k : Int) (a : Int) (b : Int) (i : Int) (x : Int) (y : Int) (hb : Bool) (ps : List (List Value)) (ts : List (List Value)) (p1 : List UInt8) (p2 : List UInt8) (w1 : List UInt8) (w2 : List UInt8) (w3 : List UInt8) (c1 : List UInt8) (c2 : List UInt8) (c3 : List UInt8) (c4 : List UInt8) (c5 : List UInt8) (c6 : List UInt8) (m1 : List UInt8) (m2 : List UInt8) (m3 : List UInt8) (r1 : List UInt8) (m4 : List UInt8) (m5 : List UInt8) (m6 : List UInt8) (r2 : List UInt8) (r3 : List UInt8) (h : AllP
    [CallsTo Tryz.prog (12 : Nat) [] (bv (true)),
     false = false,
     CallsTo Tryz.prog (23 : Nat) [AV.agg [AV.v (Value.int IntKind.u8 k), AV.v (Value.int IntKind.i8 a), AV.v (Value.int IntKind.i8 b), bv (hb)]] (AV.agg [AV.ps 2 ps, AV.ps 3 ts]),
     CallsTo Tryz.prog (24 : Nat) [AV.agg [AV.v (Value.int IntKind.u8 k), AV.v (Value.int IntKind.i8 a), AV.v (Value.int IntKind.i8 b), bv (hb)], AV.agg [AV.v (Value.int IntKind.i8 x), AV.v (Value.int IntKind.i8 y)], iv 6] (AV.agg [sv p1, sv p2]),
     CallsTo Tryz.prog (28 : Nat) [AV.agg [AV.ps 2 ps, AV.ps 3 ts], iv (i), AV.agg [sv p1, sv p2]] (AV.tup [AV.agg [sv w1, sv w2, sv w3], iv 0]),
     decide (i < (0 : Int)) = false,
     decide (i < (0 : Int)) = false,
     decide (i < (0 : Int)) = false,
     decide (i < (0 : Int)) = false,
     decide (i < (0 : Int)) = false,
     decide (i < (0 : Int)) = false,
     decide (i ≥ (↑(List.length (List.map rowAV ts)) : Int)) = false,
     CallsTo Tryz.prog (28 : Nat) [AV.agg [AV.ps 2 ps, AV.ps 3 ts], iv (i), AV.agg [strv ({ data := #[(48 : UInt8)] }), strv ({ data := #[(48 : UInt8), (48 : UInt8)] })]] (AV.tup [AV.agg [strv ((bstr ([]))), strv ((bstr ([]))), strv ((bstr ([])))], iv 2]),
     CallsTo Tryz.prog (27 : Nat) [AV.agg [AV.ps 2 ps, AV.ps 3 ts], iv (i)] (AV.agg [sv c1, sv c2, sv c3, sv c4, sv c5, sv c6]),
     Goes Tryz.prog (loopAt Tryz.f5 (0 : Nat)) (st 140 [AV.agg [AV.v (Value.int IntKind.u8 k), AV.v (Value.int IntKind.i8 a), AV.v (Value.int IntKind.i8 b), bv (hb)], iv (i), AV.agg [AV.v (Value.int IntKind.i8 x), AV.v (Value.int IntKind.i8 y)], AV.op 0 0, uu, AV.op 1 0, bv (false), AV.op 2 0, AV.op 3 0, AV.op 4 0, iv 0, AV.op 5 0, iv 2, AV.op 6 0, iv 0]) [some (AObj.box false 49 [AV.v (Value.int IntKind.u8 k), AV.v (Value.int IntKind.i8 a), AV.v (Value.int IntKind.i8 b), bv (hb)]), some (AObj.box false 47 [AV.v (Value.int IntKind.i8 x), AV.v (Value.int IntKind.i8 y)]), some (AObj.box false 34 [AV.ps 2 ps, AV.ps 3 ts]), some (AObj.box false 24 [sv p1, sv p2]), some (AObj.box false 63 [sv w1, sv w2, sv w3]), some (AObj.box false 63 [strv ((bstr ([]))), strv ((bstr ([]))), strv ((bstr ([])))]), some (AObj.box false 57 [sv c1, sv c2, sv c3, sv c4, sv c5, sv c6])] (Ex.exit (0 : Nat)) (st 140 [AV.any, AV.any, AV.any, AV.any, AV.any, AV.any, AV.any, AV.any, AV.op 0 0, AV.op 1 0, iv 0, AV.op 2 0, iv 2, AV.op 3 0, iv 3]) [some (AObj.box false 24 [sv p1, sv p2]), some (AObj.box false 63 [sv w1, sv w2, sv w3]), some (AObj.box false 63 [strv ((bstr ([]))), strv ((bstr ([]))), strv ((bstr ([])))]), some (AObj.box false 57 [sv c1, sv c2, sv c3, sv c4, sv c5, sv c6])],
     (0 : Int) ≤ (0 : Int) ∧ (0 : Int) < (↑(3 : Nat) : Int),
     (0 : Int) ≤ (0 : Int) ∧ (0 : Int) < (↑(3 : Nat) : Int),
     CallsTo Tryz.prog (19 : Nat) [sv w1, sv c1] (sv m1),
     (0 : Int) ≤ (1 : Int) ∧ (1 : Int) < (↑(3 : Nat) : Int),
     (0 : Int) ≤ (1 : Int) ∧ (1 : Int) < (↑(3 : Nat) : Int),
     CallsTo Tryz.prog (19 : Nat) [sv w2, sv c3] (sv m2),
     (0 : Int) ≤ (2 : Int) ∧ (2 : Int) < (↑(3 : Nat) : Int),
     (0 : Int) ≤ (2 : Int) ∧ (2 : Int) < (↑(3 : Nat) : Int),
     CallsTo Tryz.prog (19 : Nat) [sv w3, sv c5] (sv m3),
     CallsTo Tryz.prog (29 : Nat) [AV.lst 1 [sv m1, sv m2, sv m3]] (sv r1),
     (0 : Int) ≤ (0 : Int) ∧ (0 : Int) < (↑(3 : Nat) : Int),
     (0 : Int) ≤ (0 : Int) ∧ (0 : Int) < (↑(3 : Nat) : Int),
     CallsTo Tryz.prog (19 : Nat) [sv w1, sv c2] (sv m4),
     (0 : Int) ≤ (1 : Int) ∧ (1 : Int) < (↑(3 : Nat) : Int),
     (0 : Int) ≤ (1 : Int) ∧ (1 : Int) < (↑(3 : Nat) : Int),
     CallsTo Tryz.prog (19 : Nat) [sv w2, sv c4] (sv m5),
     (0 : Int) ≤ (2 : Int) ∧ (2 : Int) < (↑(3 : Nat) : Int),
     (0 : Int) ≤ (2 : Int) ∧ (2 : Int) < (↑(3 : Nat) : Int),
     CallsTo Tryz.prog (19 : Nat) [sv w3, sv c6] (sv m6),
     CallsTo Tryz.prog (29 : Nat) [AV.lst 1 [sv m4, sv m5, sv m6]] (sv r2),
     true = true,
     true = true,
     true = true,
     PureOp Tryz.prog { dst := some (111 : Nat), op := Op.binOp BinOp.eql (63 : Nat) (Operand.tmp (109 : Nat)) (Operand.tmp (110 : Nat)) (63 : Nat), type := nat_lit 4, pos := "law.go:457", after := { toList := [{ on := nat_lit 3, ground := Ground.data }, { on := nat_lit 4, ground := Ground.data }, { on := nat_lit 2, ground := Ground.guard }] }, guard := some (nat_lit 2, true) } [AV.any, AV.any, AV.any, AV.any, AV.any, AV.any, AV.any, AV.any, AV.op 0 0, AV.op 1 0, iv 0, AV.op 2 0, iv 2, AV.op 3 0, iv 3, sv r1, sv r2, AV.any, AV.any, AV.any, AV.any, AV.any, AV.any, AV.any, AV.any, AV.any, AV.any, AV.any, AV.any, AV.any, AV.any, AV.any, AV.any, AV.any, AV.any, AV.any, AV.any, AV.any, AV.any, AV.any, AV.any, AV.any, AV.any, AV.any, AV.any, AV.any, AV.any, AV.any, AV.any, AV.any, AV.any, AV.any, AV.any, AV.any, AV.any, AV.any, AV.any, AV.any, AV.any, AV.any, AV.any, AV.any, AV.any, AV.any, AV.any, AV.any, AV.op 1 0, sv w1, AV.op 3 0, AV.op 3 0, sv c1, sv m1, AV.op 1 1, sv w2, AV.op 3 2, AV.op 3 2, sv c3, sv m2, AV.op 1 2, sv w3, AV.op 3 4, AV.op 3 4, sv c5, sv m3, AV.own 22, sv r1, AV.op 1 0, sv w1, AV.op 3 0, AV.op 3 1, sv c2, sv m4, AV.op 1 1, sv w2, AV.op 3 2, AV.op 3 3, sv c4, sv m5, AV.op 1 2, sv w3, AV.op 3 4, AV.op 3 5, sv c6, sv m6, AV.own 41, sv r2, iv 0, bv (true), bv (true), AV.agg [strv ((bstr ([]))), strv ((bstr ([]))), strv ((bstr ([])))], AV.agg [strv ({ data := #[] }), strv ({ data := #[] }), strv ({ data := #[] })], AV.any, AV.any, AV.any, AV.any, AV.any, AV.any, AV.any, AV.any, AV.any, AV.any, AV.any, AV.any, AV.any, AV.any, AV.any, AV.any, AV.any, AV.any, AV.any, AV.any, AV.any, AV.any, AV.any, AV.any, AV.any, AV.any, AV.any, AV.any, AV.any] (bv (true)),
     true = true,
     true = true,
     true = true,
     true = true,
     true = true,
     (0 : Int) ≤ (0 : Int) ∧ (0 : Int) < (↑(3 : Nat) : Int),
     true = true,
     true = true,
     (0 : Int) ≤ (1 : Int) ∧ (1 : Int) < (↑(3 : Nat) : Int),
     true = true,
     true = true,
     (0 : Int) ≤ (2 : Int) ∧ (2 : Int) < (↑(3 : Nat) : Int),
     true = true,
     true = true,
     true = true,
     CallsTo Tryz.prog (29 : Nat) [AV.lst 1 [sv w1, sv w2, sv w3]] (sv r3),
     true = true,
     true = true,
     (ByteArray.toList (bstr r3) == [(49 : UInt8)]) = true,
     (ByteArray.toList (bstr r3) == [(49 : UInt8)]) = true,
     (ByteArray.toList (bstr r3) == [(49 : UInt8)]) = true,
     (ByteArray.toList (bstr r3) == [(49 : UInt8)]) = true,
     (ByteArray.toList (bstr r3) == [(49 : UInt8)]) = true,
     (ByteArray.toList (bstr r1) == ByteArray.toList (bstr p1)) = true,
     (ByteArray.toList (bstr r1) == ByteArray.toList (bstr p1)) = true,
     (ByteArray.toList (bstr r1) == ByteArray.toList (bstr p1)) = true,
     (ByteArray.toList (bstr r1) == ByteArray.toList (bstr p1)) = true,
     (ByteArray.toList (bstr r1) == ByteArray.toList (bstr p1)) = true]) :
    CallsTo Tryz.prog 5 [AV.agg [AV.v (Value.int IntKind.u8 k), AV.v (Value.int IntKind.i8 a), AV.v (Value.int IntKind.i8 b), bv (hb)], iv (i), AV.agg [AV.v (Value.int IntKind.i8 x), AV.v (Value.int IntKind.i8 y)]] (bv ((ByteArray.toList (bstr r2) == ByteArray.toList (bstr p2)))) :=
  fn_ok fits hmix Tryz.func5 (by kernel_rfl)
    [Orc.a (bv (true)), Orc.b false, Orc.a (AV.agg [AV.ps 2 ps, AV.ps 3 ts]), Orc.a (AV.agg [sv p1, sv p2]), Orc.a (AV.tup [AV.agg [sv w1, sv w2, sv w3], iv 0]), Orc.b false, Orc.b false, Orc.b false, Orc.b false, Orc.b false, Orc.b false, Orc.b false, Orc.a (AV.tup [AV.agg [strv ((bstr ([]))), strv ((bstr ([]))), strv ((bstr ([])))], iv 2]), Orc.a (AV.agg [sv c1, sv c2, sv c3, sv c4, sv c5, sv c6]), .s (15 : Nat) (Ex.exit (0 : Nat)) (st 140 [AV.any, AV.any, AV.any, AV.any, AV.any, AV.any, AV.any, AV.any, AV.op 0 0, AV.op 1 0, iv 0, AV.op 2 0, iv 2, AV.op 3 0, iv 3]) [some (AObj.box false 24 [sv p1, sv p2]), some (AObj.box false 63 [sv w1, sv w2, sv w3]), some (AObj.box false 63 [strv ((bstr ([]))), strv ((bstr ([]))), strv ((bstr ([])))]), some (AObj.box false 57 [sv c1, sv c2, sv c3, sv c4, sv c5, sv c6])], Orc.a (sv m1), Orc.a (sv m2), Orc.a (sv m3), Orc.a (sv r1), Orc.a (sv m4), Orc.a (sv m5), Orc.a (sv m6), Orc.a (sv r2), Orc.b true, Orc.b true, Orc.b true, Orc.x (bv (true)), Orc.b true, Orc.b true, Orc.b true, Orc.b true, Orc.b true, Orc.b true, Orc.b true, Orc.b true, Orc.b true, Orc.b true, Orc.b true, Orc.b true, Orc.a (sv r3), Orc.b true, Orc.b true, Orc.b true, Orc.b true, Orc.b true, Orc.b true, Orc.b true, Orc.b true, Orc.b true, Orc.b true, Orc.b true, Orc.b true] (by kernel_rfl) h
end Go.Flow.Tryz
namespace Go.Flow.Tryz
open Go Go.Proofs Go.RowKit Go.Flow
set_option maxRecDepth 100000
theorem sum3_big (k l j : Int) (n : Nat) (hn : 0 < n) (hk : k.natAbs < 1000000000) (hl : l.natAbs < 1000000000) (hj : j.natAbs < 1000000000) (hkl : (k + l).natAbs < 1000000000) (hn9 : n < 1000000000) :
    CallsTo Tryz.prog 29 [.lst 1 [sv (fT k n), sv (fT l n), sv (fT j n)]] (sv (fT (k + l + j) n)) := by
  have a1 := add_ok 0 k 1 n (by decide) hn (by decide) (by omega) (by decide) (by omega)
  rw [show 0 * (n : Int) + k * ((1 : Nat) : Int) = k by simp, Nat.one_mul, fT_zero 1 (by decide)] at a1
  have a2 := add_ok k l n n hn hn (by omega) (by omega) (by omega) (by omega)
  rw [show k * (n : Int) + l * (n : Int) = (k + l) * (n : Int) by rw [Int.add_mul], fT_mul _ _ _ hn] at a2
  have a3 := add_ok (k + l) j n n hn hn (by omega) (by omega) (by omega) (by omega)
  rw [show (k + l) * (n : Int) + j * (n : Int) = (k + l + j) * (n : Int) by rw [Int.add_mul (k + l)], fT_mul _ _ _ hn] at a3
  refine sum3_ok _ _ _ (fT k n) (fT (k + l) n) _ ?_
  repeat' first | exact AllP.nil | refine AllP.cons ?_ ?_
  all_goals first | rfl | exact a1 | exact a2 | exact a3 | exact ⟨by decide, rfl⟩ | decide
def near (p : Pt) : Prop := p.1.natAbs < 182 ∧ p.2.natAbs < 182
theorem near_get {pts : List Pt} (h : ∀ p ∈ pts, near p) (n : Nat) : near (pts.getD n (0, 0)) := by
  by_cases hn : n < pts.length
  · rw [List.getD_eq_getElem?_getD, List.getElem?_eq_getElem hn]
    exact h _ (List.getElem_mem hn)
  · rw [List.getD_eq_getElem?_getD, List.getElem?_eq_none (by omega)]
    exact ⟨by decide, by decide⟩
theorem near_mkP {i : Nat} (hi : i < 8) (a b : Int) (h : Bool) : ∀ p ∈ mkP i a b h, near p := by
  intro p hp
  obtain ⟨q, hq, rfl⟩ := List.mem_map.1 hp
  have hb := eight (Q := fun i => ∀ p ∈ shP i, p.1.natAbs ≤ 6 ∧ p.2.natAbs ≤ 6) (by decide) (by decide) (by decide) (by decide) (by decide) (by decide) (by decide) (by decide) i hi q hq
  have ta := tmod8 a
  have tb := tmod8 b
  have hc : (cf h).natAbs < 13 := by unfold cf; split <;> decide
  exact ⟨prod_bound (M := 14) (N := 13) (by omega) hc (by decide), prod_bound (M := 14) (N := 13) (by omega) hc (by decide)⟩
theorem det_near {a b c : Pt} (ha : a.1.natAbs < 400 ∧ a.2.natAbs < 400) (hb : near b) (hc : near c) : (det a b c).natAbs < 1280000 := by
  obtain ⟨a1, a2⟩ := ha
  obtain ⟨b1, b2⟩ := hb
  obtain ⟨c1, c2⟩ := hc
  have m1 := prod_bound (a := b.1 - a.1) (b := c.2 - a.2) (M := 800) (N := 800) (by omega) (by omega) (by decide)
  have m2 := prod_bound (a := b.2 - a.2) (b := c.1 - a.1) (M := 800) (N := 800) (by omega) (by omega) (by decide)
  unfold det
  omega
theorem det_sum (p a b c : Pt) : det p b c + det p c a + det p a b = det a b c := by
  unfold det
  grind
theorem det_first (p a b c : Pt) : det p b c * a.1 + det p c a * b.1 + det p a b * c.1 = p.1 * det a b c := by
  unfold det
  grind
theorem det_second (p a b c : Pt) : det p b c * a.2 + det p c a * b.2 + det p a b * c.2 = p.2 * det a b c := by
  unfold det
  grind
theorem weigh (k1 k2 k3 D u v w q : Int) (h1 : k1.natAbs < 1280000) (h2 : k2.natAbs < 1280000) (h3 : k3.natAbs < 1280000) (hD : 0 < D) (hD9 : D.natAbs < 1280000)
    (hu : u.natAbs < 182) (hv : v.natAbs < 182) (hw : w.natAbs < 182) (he : k1 * u + k2 * v + k3 * w = q * D) :
    CallsTo Tryz.prog 19 [sv (fT k1 D.toNat), sv (fT u 12)] (sv (fT (k1 * u) (D.toNat * 12))) ∧
    CallsTo Tryz.prog 19 [sv (fT k2 D.toNat), sv (fT v 12)] (sv (fT (k2 * v) (D.toNat * 12))) ∧
    CallsTo Tryz.prog 19 [sv (fT k3 D.toNat), sv (fT w 12)] (sv (fT (k3 * w) (D.toNat * 12))) ∧
    CallsTo Tryz.prog 29 [.lst 1 [sv (fT (k1 * u) (D.toNat * 12)), sv (fT (k2 * v) (D.toNat * 12)), sv (fT (k3 * w) (D.toNat * 12))]] (sv (fT q 12)) := by
  have hDn : 0 < D.toNat := by omega
  have hDn9 : D.toNat < 1280000 := by omega
  have b1 := prod_bound h1 hu (by decide)
  have b2 := prod_bound h2 hv (by decide)
  have b3 := prod_bound h3 hw (by decide)
  have m1 := mul_ok k1 u D.toNat 12 hDn (by decide) (by omega) (by omega) (by omega) (by decide)
  have m2 := mul_ok k2 v D.toNat 12 hDn (by decide) (by omega) (by omega) (by omega) (by decide)
  have m3 := mul_ok k3 w D.toNat 12 hDn (by decide) (by omega) (by omega) (by omega) (by decide)
  have s := sum3_big (k1 * u) (k2 * v) (k3 * w) (D.toNat * 12) (by omega) (by omega) (by omega) (by omega) (by omega) (by omega)
  rw [he] at s
  have e : fT (q * D) (D.toNat * 12) = fT q 12 := by
    rw [Nat.mul_comm D.toNat 12, show q * D = q * (D.toNat : Int) by rw [Int.toNat_of_nonneg (by omega)], fT_mul _ _ _ hDn]
  rw [e] at s
  exact ⟨m1, m2, m3, s⟩
theorem fT_11 : fT 1 1 = [49] := by
  unfold fT
  exact (rT_one_iff _ _).2 ⟨by decide, by decide⟩
theorem sh_loop (p1 p2 c1 c2 c3 c4 c5 c6 w1 w2 w3 : List UInt8) (h1 : CallsTo Tryz.prog 13 [sv w1] (iv 0)) (h2 : CallsTo Tryz.prog 13 [sv w2] (iv 0)) (h3 : CallsTo Tryz.prog 13 [sv w3] (iv 0)) :
    Goes Tryz.prog (loopAt Tryz.f5 0) (st 140 [.any, .any, .any, .any, .any, .any, .any, .any, .op 0 0, .op 1 0, iv 0, .op 2 0, iv 2, .op 3 0, iv 0])
      [some (.box false 24 [sv p1, sv p2]), some (.box false 63 [sv w1, sv w2, sv w3]), some (.box false 63 [sv [], sv [], sv []]), some (.box false 57 [sv c1, sv c2, sv c3, sv c4, sv c5, sv c6])] (.exit 0)
      (st 140 [.any, .any, .any, .any, .any, .any, .any, .any, .op 0 0, .op 1 0, iv 0, .op 2 0, iv 2, .op 3 0, iv 3])
      [some (.box false 24 [sv p1, sv p2]), some (.box false 63 [sv w1, sv w2, sv w3]), some (.box false 63 [sv [], sv [], sv []]), some (.box false 57 [sv c1, sv c2, sv c3, sv c4, sv c5, sv c6])] := by
  have hloop : loopAt Tryz.f5 0 = .loop (bodyOf (loopAt Tryz.f5 0)) := by kernel_rfl
  rw [hloop]
  refine Goes.loop (n := 4) ?_
  refine sh_s0_step p1 p2 w1 w2 w3 c1 c2 c3 c4 c5 c6 3 ?_ ?_
  · exact ⟨rfl, by decide, h1, rfl, by decide, trivial⟩
  refine sh_s1_step p1 p2 w1 w2 w3 c1 c2 c3 c4 c5 c6 2 ?_ ?_
  · exact ⟨rfl, by decide, h2, rfl, by decide, trivial⟩
  refine sh_s2_step p1 p2 w1 w2 w3 c1 c2 c3 c4 c5 c6 1 ?_ ?_
  · exact ⟨rfl, by decide, h3, rfl, by decide, trivial⟩
  exact sh_s3_out p1 p2 w1 w2 w3 c1 c2 c3 c4 c5 c6 0 ⟨rfl, trivial⟩
theorem shares_law (k a b j x y : Int) (h : Bool) (hk : 0 ≤ k) (hx : x.natAbs ≤ 128) (hy : y.natAbs ≤ 128) : CallsTo Tryz.prog 5 [sheetAV k a b h, iv j, i8x2 x y] (bv true) := by
  have hlt : k.toNat % 8 < 8 := Nat.mod_lt _ (by decide)
  have hm := make_ok k a b h hk
  have s := mkSheet hlt a b h
  have nr := near_mkP hlt a b h
  generalize k.toNat % 8 = i at hm s nr
  have hp := place_ok k a b x y h 6 (if h then 1 else 2) hx hy (by decide) (by decide) (by split <;> decide) (by cases h <;> decide)
  have ta := tmod8 a
  have tb := tmod8 b
  have np : ((x + Int.tmod a 8 * (6 : Nat)) * (if h then 1 else 2 : Nat)).natAbs < 400 ∧ ((y + Int.tmod b 8 * (6 : Nat)) * (if h then 1 else 2 : Nat)).natAbs < 400 := by
    constructor <;> cases h <;> simp <;> omega
  generalize hP : ((x + Int.tmod a 8 * (6 : Nat)) * (if h then 1 else 2 : Nat), (y + Int.tmod b 8 * (6 : Nat)) * (if h then 1 else 2 : Nat)) = p at hp
  have np : p.1.natAbs < 400 ∧ p.2.natAbs < 400 := by rw [← hP]; exact np
  have sp : smallP p := ⟨by omega, by omega⟩
  have hN : 0 < 12 := by decide
  have hN4 : 12 < 10000 := by decide
  have tl := s.tl
  have hl2 : ((((shT i).map triR).map rowAV).length : Int) = (shT i).length := by simp
  by_cases hj0 : j < 0
  · have sr := s.shares_range hN hN4 (fT p.1 12) (fT p.2 12) (i := j) (Or.inl hj0)
    refine sh_neg_ok k a b j x y h ((mkP i a b h).map (ptR 12)) ((shT i).map triR) (fT p.1 12) (fT p.2 12) ?_
    repeat' first | exact AllP.nil | refine AllP.cons ?_ ?_
    all_goals first
      | rfl | exact known_ok | exact hm | exact hp | exact sr | exact decide_eq_true hj0
      | exact pure_eql_agg (xv := [.string (bstr []), .string (bstr []), .string (bstr [])]) (yv := [.string (bstr []), .string (bstr []), .string (bstr [])]) rfl (by kernel_rfl) rfl rfl (fun w => eq_weights _ _ _ _ _ _ w)
  by_cases hj1 : j ≥ ((shT i).length : Int)
  · have sr := s.shares_range hN hN4 (fT p.1 12) (fT p.2 12) (i := j) (Or.inr hj1)
    have d1 : decide (j < 0) = false := decide_eq_false hj0
    have d2 : decide (j ≥ ((((shT i).map triR).map rowAV).length : Int)) = true := by rw [hl2]; exact decide_eq_true hj1
    refine sh_big_ok k a b j x y h ((mkP i a b h).map (ptR 12)) ((shT i).map triR) (fT p.1 12) (fT p.2 12) ?_
    repeat' first | exact AllP.nil | refine AllP.cons ?_ ?_
    all_goals first
      | rfl | exact known_ok | exact hm | exact hp | exact sr | exact d1 | exact d2
      | exact pure_eql_agg (xv := [.string (bstr []), .string (bstr []), .string (bstr [])]) (yv := [.string (bstr []), .string (bstr []), .string (bstr [])]) rfl (by kernel_rfl) rfl rfl (fun w => eq_weights _ _ _ _ _ _ w)
  have d1 : decide (j < 0) = false := decide_eq_false hj0
  have d2 : decide (j ≥ ((((shT i).map triR).map rowAV).length : Int)) = false := by rw [hl2]; exact decide_eq_false hj1
  obtain ⟨n, rfl⟩ : ∃ n : Nat, j = n := ⟨j.toNat, by omega⟩
  have hn : n < (shT i).length := by omega
  have sh := s.shares hN hN4 p sp hn
  have c0 := rcheck_ok 0 1 (by decide) (by decide) (by decide)
  rw [fT_zero 1 (by decide)] at c0
  have bad := s.shares_bad hN hN4 [48] [48, 48] (point_bad2 [48] [48, 48] c0 check_00) hn
  have hc := s.lcorners 12 hn
  have hD := s.corner_pos hn
  have nA : near (corA (mkP i a b h) (shT i) n) := near_get nr _
  have nB : near (corB (mkP i a b h) (shT i) n) := near_get nr _
  have nC : near (corC (mkP i a b h) (shT i) n) := near_get nr _
  generalize corA (mkP i a b h) (shT i) n = A at *
  generalize corB (mkP i a b h) (shT i) n = B at *
  generalize corC (mkP i a b h) (shT i) n = C at *
  have k1 := det_near np nB nC
  have k2 := det_near np nC nA
  have k3 := det_near np nA nB
  have kD := det_near (a := A) ⟨by have := nA.1; omega, by have := nA.2; omega⟩ nB nC
  have es := det_sum p A B C
  have e1 := det_first p A B C
  have e2 := det_second p A B C
  generalize det p B C = d1' at *
  generalize det p C A = d2' at *
  generalize det p A B = d3' at *
  generalize det A B C = D at *
  have hDn : 0 < D.toNat := by omega
  have q1 := rcheck_ok d1' D.toNat hDn (by omega) (by omega)
  have q2 := rcheck_ok d2' D.toNat hDn (by omega) (by omega)
  have q3 := rcheck_ok d3' D.toNat hDn (by omega) (by omega)
  obtain ⟨m1, m2, m3, r1⟩ := weigh d1' d2' d3' D A.1 B.1 C.1 p.1 k1 k2 k3 hD kD nA.1 nB.1 nC.1 e1
  obtain ⟨m4, m5, m6, r2⟩ := weigh d1' d2' d3' D A.2 B.2 C.2 p.2 k1 k2 k3 hD kD nA.2 nB.2 nC.2 e2
  have r3 := sum3_big d1' d2' d3' D.toNat hDn (by omega) (by omega) (by omega) (by omega) (by omega)
  have e3 : fT (d1' + d2' + d3') D.toNat = [49] := by
    have := fT_mul 1 1 D.toNat hDn
    rw [Int.one_mul, Nat.one_mul, Int.toNat_of_nonneg (by omega), fT_11] at this
    rw [es]
    exact this
  rw [e3] at r3
  have lp := sh_loop (fT p.1 12) (fT p.2 12) (fT A.1 12) (fT A.2 12) (fT B.1 12) (fT B.2 12) (fT C.1 12) (fT C.2 12) (fT d1' D.toNat) (fT d2' D.toNat) (fT d3' D.toNat) q1 q2 q3
  have lp2 : Goes Tryz.prog (loopAt Tryz.f5 0) (st 140 [sheetAV k a b h, iv (n : Int), i8x2 x y, .op 0 0, uu, .op 1 0, bv false, .op 2 0, .op 3 0, .op 4 0, iv 0, .op 5 0, iv 2, .op 6 0, iv 0])
      [some (.box false 49 [.v (.int .u8 k), .v (.int .i8 a), .v (.int .i8 b), bv h]), some (.box false 47 [.v (.int .i8 x), .v (.int .i8 y)]), some (.box false 34 [.ps 2 ((mkP i a b h).map (ptR 12)), .ps 3 ((shT i).map triR)]), some (.box false 24 [sv (fT p.1 12), sv (fT p.2 12)]), some (.box false 63 [sv (fT d1' D.toNat), sv (fT d2' D.toNat), sv (fT d3' D.toNat)]), some (.box false 63 [sv [], sv [], sv []]), some (.box false 57 [sv (fT A.1 12), sv (fT A.2 12), sv (fT B.1 12), sv (fT B.2 12), sv (fT C.1 12), sv (fT C.2 12)])] (.exit 0)
      (st 140 [.any, .any, .any, .any, .any, .any, .any, .any, .op 0 0, .op 1 0, iv 0, .op 2 0, iv 2, .op 3 0, iv 3])
      [some (.box false 24 [sv (fT p.1 12), sv (fT p.2 12)]), some (.box false 63 [sv (fT d1' D.toNat), sv (fT d2' D.toNat), sv (fT d3' D.toNat)]), some (.box false 63 [sv [], sv [], sv []]), some (.box false 57 [sv (fT A.1 12), sv (fT A.2 12), sv (fT B.1 12), sv (fT B.2 12), sv (fT C.1 12), sv (fT C.2 12)])] :=
    Same.goes (Same.trans (Same.ren [3, 4, 5, 6] rfl) (same_cast (Same.mask (List.replicate 8 false ++ List.replicate 7 true)) (T1 := st 140 [.any, .any, .any, .any, .any, .any, .any, .any, .op 0 0, .op 1 0, iv 0, .op 2 0, iv 2, .op 3 0, iv 0]) (by kernel_rfl) (by kernel_rfl))) lp
  have hR : ((bstr (fT p.2 12)).toList == (bstr (fT p.2 12)).toList) = true := beq_self_eq_true _
  have h49 : ((bstr [49]).toList == [49]) = true := by decide +kernel
  have main := sh_in_ok k a b n x y h ((mkP i a b h).map (ptR 12)) ((shT i).map triR) (fT p.1 12) (fT p.2 12) (fT d1' D.toNat) (fT d2' D.toNat) (fT d3' D.toNat) (fT A.1 12) (fT A.2 12) (fT B.1 12) (fT B.2 12) (fT C.1 12) (fT C.2 12)
    (fT (d1' * A.1) (D.toNat * 12)) (fT (d2' * B.1) (D.toNat * 12)) (fT (d3' * C.1) (D.toNat * 12)) (fT p.1 12) (fT (d1' * A.2) (D.toNat * 12)) (fT (d2' * B.2) (D.toNat * 12)) (fT (d3' * C.2) (D.toNat * 12)) (fT p.2 12) [49] ?_
  · rw [hR] at main
    exact main
  repeat' first | exact AllP.nil | refine AllP.cons ?_ ?_
  all_goals first
    | rfl | exact known_ok | exact hm | exact hp | exact sh | exact d1 | exact d2 | exact bad | exact hc | exact lp2
    | exact m1 | exact m2 | exact m3 | exact r1 | exact m4 | exact m5 | exact m6 | exact r2 | exact r3 | exact h49 | decide | exact beq_self_eq_true _
    | exact pure_eql_agg (xv := [.string (bstr []), .string (bstr []), .string (bstr [])]) (yv := [.string (bstr []), .string (bstr []), .string (bstr [])]) rfl (by kernel_rfl) rfl rfl (fun w => eq_weights _ _ _ _ _ _ w)
end Go.Flow.Tryz
namespace Go.Flow.Tryz
open Go Go.Proofs Go.RowKit Go.Flow Go.ChangeShapes Go.WideShapes Go.ChangeAt Go.Deep
set_option maxRecDepth 100000
theorem shares_lift (os : Os) (started : os.Started) (H : Type) (enc : TypeId × Value → H) :
    ReturnsInHanded {} Tryz.checked os 5 .any (fun w args => (Go.Proofs.YtampjkpdiojciaaGreatDoor.Rows.meshSharesSpec.pre enc Tryz.prog Tryz.f5 [] false w args ∧ laidMetH Tryz.prog laidL w) ∧ sizedMet enc Tryz.prog Tryz.f5 (OpenSpec.ofChange Go.Proofs.YtampjkpdiojciaaGreatDoor.Rows.meshSharesSpec) false w args)
      (Go.Proofs.YtampjkpdiojciaaGreatDoor.Rows.meshSharesSpec.post enc Tryz.prog Tryz.f5 false true false false) := by
  refine lift (s := Go.Proofs.YtampjkpdiojciaaGreatDoor.Rows.meshSharesSpec) rfl (fun H ds hds => ?_) Tryz.func5 (by kernel_rfl) (by kernel_rfl) (fun os H enc => ?_) (fun H enc W base args ds p hval hA => ?_) os started H enc
  · rw [Tryz.params5] at hds
    match ds, hds with
    | [d1, d2, d3], _ => rfl
  · exact ChangeSpec.witness_shaped (enc := enc) (C := Tryz.checked) (os := os) (X := fun w _ => laidMetH Tryz.prog laidL w) false (World.doorLaid Tryz.prog 400 os) #[.agg #[.int .u8 0, .int .i8 0, .int .i8 0, .bool false], .int .i64 0, .agg #[.int .i8 0, .int .i8 0]] 8 rfl (World.shaped_of_RefB (by kernel_rfl) (by kernel_rfl)) (by kernel_rfl) (by kernel_rfl) (by kernel_rfl) (door_met os _)
  · rw [Tryz.params5] at hval hA ⊢
    obtain ⟨v0, v1, v2, d0, d1, d2, p0, p1, p2, rfl, rfl, rfl, h0, h1, h2⟩ := trodAll_three hA
    obtain ⟨k, a, b, hh, rfl, rfl, hk, back0⟩ := open_sheet (hval 0 _ v0 rfl rfl) h0
    obtain ⟨j, rfl, rfl, rfl, wj⟩ := open_int Tryz.underlying3 (hval 1 _ v1 rfl rfl) h1
    obtain ⟨x, y, rfl, rfl, hx, hy, back1⟩ := open_at (hval 2 _ v2 rfl rfl) h2
    refine ⟨rfl, rfl, fun W' sp => trodAll_mk3 (back0 W' sp) (shut_int Tryz.underlying3 wj) (back1 W' sp), _, shares_law k a b j x y hh hk hx hy, fun E => ?_⟩
    exact .cons _ _ _ _ (.agg _ [.int .u8 k, .int .i8 a, .int .i8 b, .bool hh] (repL_vs E [.int .u8 k, .int .i8 a, .int .i8 b, .bool hh])) (.cons _ _ _ _ (.v _) (.cons _ _ _ _ (.agg _ [.int .i8 x, .int .i8 y] (repL_vs E [.int .i8 x, .int .i8 y])) .nil))
end Go.Flow.Tryz
namespace Go.Proofs.YtampjkpdiojciaaGreatDoor
open Go
set_option maxRecDepth 100000
theorem meshShares_holds : Rows.MeshSharesSaid :=
  OpenClaim.holds_of_wide 5 Tryz.f5 rfl rfl rfl rfl rfl rfl rfl ⟨rfl, rfl, rfl, rfl, rfl⟩ rfl rfl rfl rfl rfl (by kernel_rfl) Tryz.func5 (by kernel_rfl)
    (of_decide_eq_true (by kernel_rfl)) (by unfold Func.isWrapper; first | (rw [if_pos (by decide +kernel)]; kernel_rfl) | (rw [if_neg (by decide +kernel)]; exact ⟨rfl, rfl⟩))
    (fun os started H enc _ => Go.Flow.Tryz.shares_lift os started H enc)
theorem meshShares_card : Rows.MeshSharesCardSaid :=
  Claim7.holds_tied_plain_at .later [] [.data, .data, .data, .sentinel, .sentinel] true (true, "3b7b7ba428c0e308d7c6856966ba4b8107515931d3b6d95eacead1c7e4c7cf91") true
    meshShares_holds (fun _ h => by cases h) (by kernel_rfl) (fun _ h => by cases h) meshShares_row_tie rfl ⟨rfl, rfl⟩ (by kernel_rfl) rfl
    (fun f fn hf hfn => by
      obtain rfl : f = 5 := Option.some.inj ((show Tryz.prog.funcNamed "klippe/klippelaw12.MeshShares" = some 5 by kernel_rfl).symm.trans hf) |>.symm
      obtain rfl : fn = Tryz.f5 := (Option.some.inj (Tryz.func5.symm.trans hfn)).symm
      exact ⟨by kernel_rfl, fun j t ht => by
        rw [Tryz.params5] at ht
        have hm : t ∈ [49, 3, 47] := by simpa using Array.mem_of_getElem? ht
        have hall : ([49, 3, 47].all fun u => !Tryz.prog.wantsStandIn u) = true := by kernel_rfl
        exact (show Tryz.prog.wantsStandIn t = false by simpa using List.all_eq_true.1 hall t hm)⟩)
    (by kernel_rfl)
#print axioms meshShares_card
end Go.Proofs.YtampjkpdiojciaaGreatDoor
