/- The row of MeshLocates holds: for every sheet and every shift the law answers true, and the arguments read as they did. -/
import Derived.Test.YtampjkpdiojciaaGreatDoorCards
import Derived.Test.YtampjkpdiojciaaGreatDoorMlA
import Derived.Test.YtampjkpdiojciaaGreatDoorMlB
import Derived.Test.YtampjkpdiojciaaGreatDoorMlC
import Derived.Test.YtampjkpdiojciaaGreatDoorMlD
import Derived.Test.YtampjkpdiojciaaGreatDoorMlE
import Derived.Test.YtampjkpdiojciaaGreatDoorMlF
import Derived.Test.YtampjkpdiojciaaGreatDoorMlG
namespace Go.Flow.Tryz
open Go Go.Proofs Go.RowKit Go.Flow Go.ChangeShapes Go.WideShapes Go.ChangeAt Go.Deep
set_option maxRecDepth 100000
theorem open_at {H : Type} {enc : TypeId × Value → H} {W : World} {base : Nat} {sp : Nat → Bool} {v : Value} {d : DataW H} {p : List MemPlace}
    (hv : Value.okWide Tryz.prog W .any base 47 v) (h : DataW.Trod enc Tryz.prog W 0 sp true 47 v d p) :
    ∃ x y, v = .agg #[.int .i8 x, .int .i8 y] ∧ p = [] ∧ x.natAbs ≤ 128 ∧ y.natAbs ≤ 128 ∧ ∀ (W' : World) (sp' : Nat → Bool), DataW.Trod enc Tryz.prog W' 0 sp' true 47 v d [] := by
  unfold Value.okWide at hv
  rw [Tryz.underlying47] at hv
  obtain ⟨cs, rfl, hsz, _⟩ := hv
  obtain ⟨fuel, h⟩ := h
  obtain ⟨xs, m, rfl, hx, hl, hn, hel⟩ := DataW.trod_array Tryz.underlying47 h
  have c1 : Tryz.prog.cellsOf 46 = 1 := by kernel_rfl
  have c2 : Tryz.prog.cellsOf 47 = 2 := by kernel_rfl
  rw [c2] at hsz
  obtain ⟨l⟩ := cs
  match l, hsz with
  | [u0, u1], _ =>
    match xs, hn with
    | [y0, y1], _ =>
      have e0 := hel 0 (by decide)
      have e1 := hel 1 (by decide)
      rw [c1] at e0 e1
      obtain ⟨x, a1, a2, wx⟩ := DataW.trod_int Tryz.underlying46 (show DataW.trod enc Tryz.prog W 0 sp true m 46 [u0] = some y0 from e0)
      obtain ⟨y, b1, b2, wy⟩ := DataW.trod_int Tryz.underlying46 (show DataW.trod enc Tryz.prog W 0 sp true m 46 [u1] = some y1 from e1)
      cases a1; cases b1; subst a2; subst b2
      simp only [Prod.mk.injEq, List.map_cons, List.map_nil, List.flatMap_cons, List.flatMap_nil, List.append_nil] at hx
      obtain ⟨rfl, rfl⟩ := hx
      have bx := bounds_i8 wx
      have by' := bounds_i8 wy
      refine ⟨x, y, rfl, rfl, by omega, by omega, fun W' sp' => ⟨2, ?_⟩⟩
      have m0 : ∀ n, DataW.trod enc Tryz.prog W' 0 sp' true (n + 1) 46 [.int .i8 x] = some (.lit (.int .i8 x), []) := fun n => by simp [DataW.trod, Tryz.underlying46, wx]
      have m1 : ∀ n, DataW.trod enc Tryz.prog W' 0 sp' true (n + 1) 46 [.int .i8 y] = some (.lit (.int .i8 y), []) := fun n => by simp [DataW.trod, Tryz.underlying46, wy]
      simp [DataW.trod, Value.cells, Tryz.underlying47, c1, c2, List.range_succ]
      simp [wx, wy, Tryz.underlying46]
theorem open_sheet {H : Type} {enc : TypeId × Value → H} {W : World} {base : Nat} {sp : Nat → Bool} {v : Value} {d : DataW H} {p : List MemPlace}
    (hv : Value.okWide Tryz.prog W .any base 49 v) (h : DataW.Trod enc Tryz.prog W 0 sp true 49 v d p) :
    ∃ k a b hh, v = .agg #[.int .u8 k, .int .i8 a, .int .i8 b, .bool hh] ∧ p = [] ∧ 0 ≤ k ∧ ∀ (W' : World) (sp' : Nat → Bool), DataW.Trod enc Tryz.prog W' 0 sp' true 49 v d [] := by
  unfold Value.okWide at hv
  rw [Tryz.underlying49] at hv
  obtain ⟨cs, rfl, hsz, _⟩ := hv
  obtain ⟨fuel, h⟩ := h
  obtain ⟨y0, y1, y2, n, hx, hl, q0, q1, q2⟩ := trod_struct3 Tryz.underlying49 h
  have c1 : Tryz.prog.cellsOf 46 = 1 := by kernel_rfl
  have c2 : Tryz.prog.cellsOf 47 = 2 := by kernel_rfl
  have c5 : Tryz.prog.cellsOf 5 = 1 := by kernel_rfl
  have c4 : Tryz.prog.cellsOf 4 = 1 := by kernel_rfl
  have c3 : Tryz.prog.cellsOf 49 = 4 := by kernel_rfl
  rw [c3] at hsz
  simp only [c5, c4, c2] at q0 q1 q2
  obtain ⟨l⟩ := cs
  match l, hsz with
  | [u0, u1, u2, u3], _ =>
    obtain ⟨k, a1, a2, wk⟩ := DataW.trod_int Tryz.underlying5 (show DataW.trod enc Tryz.prog W 0 sp true n 5 [u0] = some y0 from q0)
    obtain ⟨hh, b1, b2⟩ := DataW.trod_bool Tryz.underlying4 (show DataW.trod enc Tryz.prog W 0 sp true n 4 [u3] = some y2 from q2)
    obtain ⟨xs, m, e, hxs, _, hn, hel⟩ := DataW.trod_array Tryz.underlying47 (show DataW.trod enc Tryz.prog W 0 sp true n 47 [u1, u2] = some y1 from q1)
    match xs, hn with
    | [z0, z1], _ =>
      have e0 := hel 0 (by decide)
      have e1 := hel 1 (by decide)
      rw [c1] at e0 e1
      obtain ⟨a, d1, d2, wa⟩ := DataW.trod_int Tryz.underlying46 (show DataW.trod enc Tryz.prog W 0 sp true m 46 [u1] = some z0 from e0)
      obtain ⟨b, f1, f2, wb⟩ := DataW.trod_int Tryz.underlying46 (show DataW.trod enc Tryz.prog W 0 sp true m 46 [u2] = some z1 from e1)
      cases a1; cases b1; cases d1; cases f1; subst a2; subst b2; subst d2; subst f2
      subst hxs
      simp only [Prod.mk.injEq, List.map_cons, List.map_nil, List.flatMap_cons, List.flatMap_nil, List.append_nil, List.nil_append] at hx
      obtain ⟨rfl, rfl⟩ := hx
      have hk : 0 ≤ k := by
        have : (0 : Int) ≤ k ∧ k ≤ 255 := by simpa [Lit.wf, IntKind.min, IntKind.max, IntKind.signed, IntKind.bits] using wk
        exact this.1
      refine ⟨k, a, b, hh, rfl, rfl, hk, fun W' sp' => ⟨3, ?_⟩⟩
      have t1 : DataW.trod enc Tryz.prog W' 0 sp' true 2 47 [.int .i8 a, .int .i8 b] = some (.agg [.lit (.int .i8 a), .lit (.int .i8 b)], []) := by
        simp [DataW.trod, Tryz.underlying47, c1, c2, List.range_succ]
        simp [wa, wb, Tryz.underlying46]
      have t0 : DataW.trod enc Tryz.prog W' 0 sp' true 2 5 [.int .u8 k] = some (.lit (.int .u8 k), []) := by simp [DataW.trod, Tryz.underlying5, wk]
      have t2 : DataW.trod enc Tryz.prog W' 0 sp' true 2 4 [.bool hh] = some (.lit (.bool hh), []) := by simp [DataW.trod, Tryz.underlying4]
      have := trod_struct3_mk (cs := [.int .u8 k, .int .i8 a, .int .i8 b, .bool hh]) Tryz.underlying49 (by rw [c3]; rfl) (by simp only [c5]; exact t0) (by simp only [c2]; exact t1) (by simp only [c4]; exact t2)
      simpa [Value.cells] using this
theorem locates_lift (os : Os) (started : os.Started) (H : Type) (enc : TypeId × Value → H) :
    ReturnsInHanded {} Tryz.checked os 6 .any (fun w args => (Go.Proofs.YtampjkpdiojciaaGreatDoor.Rows.meshLocatesSpec.pre enc Tryz.prog Tryz.f6 [] false w args ∧ laidMetH Tryz.prog laidL w) ∧ sizedMet enc Tryz.prog Tryz.f6 (OpenSpec.ofChange Go.Proofs.YtampjkpdiojciaaGreatDoor.Rows.meshLocatesSpec) false w args)
      (Go.Proofs.YtampjkpdiojciaaGreatDoor.Rows.meshLocatesSpec.post enc Tryz.prog Tryz.f6 false true false false) := by
  refine lift (s := Go.Proofs.YtampjkpdiojciaaGreatDoor.Rows.meshLocatesSpec) rfl (fun H ds hds => ?_) Tryz.func6 (by kernel_rfl) (by kernel_rfl) (fun os H enc => ?_) (fun H enc W base args ds p hval hA => ?_) os started H enc
  · rw [Tryz.params6] at hds
    match ds, hds with
    | [d1, d2], _ => rfl
  · exact ChangeSpec.witness_shaped (enc := enc) (C := Tryz.checked) (os := os) (X := fun w _ => laidMetH Tryz.prog laidL w) false (World.doorLaid Tryz.prog 400 os) #[.agg #[.int .u8 0, .int .i8 0, .int .i8 0, .bool false], .agg #[.int .i8 0, .int .i8 0]] 8 rfl (World.shaped_of_RefB (by kernel_rfl) (by kernel_rfl)) (by kernel_rfl) (by kernel_rfl) (by kernel_rfl) (door_met os _)
  · rw [Tryz.params6] at hval hA ⊢
    obtain ⟨v0, v1, d0, d1, p0, p1, rfl, rfl, rfl, h0, h1⟩ := trodAll_two hA
    obtain ⟨k, a, b, hh, rfl, rfl, hk, back0⟩ := open_sheet (hval 0 _ v0 rfl rfl) h0
    obtain ⟨x, y, rfl, rfl, hx, hy, back1⟩ := open_at (hval 1 _ v1 rfl rfl) h1
    refine ⟨rfl, rfl, fun W' sp => trodAll_mk2 (back0 W' sp) (back1 W' sp), _, locates_ok k a b x y hh hk hx hy, fun E => ?_⟩
    exact .cons _ _ _ _ (.agg _ [.int .u8 k, .int .i8 a, .int .i8 b, .bool hh] (repL_vs E [.int .u8 k, .int .i8 a, .int .i8 b, .bool hh])) (.cons _ _ _ _ (.agg _ [.int .i8 x, .int .i8 y] (repL_vs E [.int .i8 x, .int .i8 y])) .nil)
end Go.Flow.Tryz
namespace Go.Proofs.YtampjkpdiojciaaGreatDoor
open Go
set_option maxRecDepth 100000
theorem meshLocates_holds : Rows.MeshLocatesSaid :=
  OpenClaim.holds_of_wide 6 Tryz.f6 rfl rfl rfl rfl rfl rfl rfl ⟨rfl, rfl, rfl, rfl, rfl⟩ rfl rfl rfl rfl rfl (by kernel_rfl) Tryz.func6 (by kernel_rfl)
    (of_decide_eq_true (by kernel_rfl)) (by unfold Func.isWrapper; first | (rw [if_pos (by decide +kernel)]; kernel_rfl) | (rw [if_neg (by decide +kernel)]; exact ⟨rfl, rfl⟩))
    (fun os started H enc _ => Go.Flow.Tryz.locates_lift os started H enc)
theorem meshLocates_card : Rows.MeshLocatesCardSaid :=
  Claim7.holds_tied_plain_at .later [] [.data, .data, .data, .sentinel, .sentinel] true (true, "3b7b7ba428c0e308d7c6856966ba4b8107515931d3b6d95eacead1c7e4c7cf91") true
    meshLocates_holds (fun _ h => by cases h) (by kernel_rfl) (fun _ h => by cases h) meshLocates_row_tie rfl ⟨rfl, rfl⟩ (by kernel_rfl) rfl
    (fun f fn hf hfn => by
      obtain rfl : f = 6 := Option.some.inj ((show Tryz.prog.funcNamed "klippe/klippelaw12.MeshLocates" = some 6 by kernel_rfl).symm.trans hf) |>.symm
      obtain rfl : fn = Tryz.f6 := (Option.some.inj (Tryz.func6.symm.trans hfn)).symm
      exact ⟨by kernel_rfl, fun j t ht => by
        rw [Tryz.params6] at ht
        have hm : t ∈ [49, 47] := by simpa using Array.mem_of_getElem? ht
        have hall : ([49, 47].all fun u => !Tryz.prog.wantsStandIn u) = true := by kernel_rfl
        exact (show Tryz.prog.wantsStandIn t = false by simpa using List.all_eq_true.1 hall t hm)⟩)
    (by kernel_rfl)
#print axioms meshLocates_card
end Go.Proofs.YtampjkpdiojciaaGreatDoor
