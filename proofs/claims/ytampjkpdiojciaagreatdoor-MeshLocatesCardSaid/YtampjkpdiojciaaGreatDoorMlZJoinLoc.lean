/- The row of MeshLocates holds: for every sheet and every shift the law answers true, and the arguments read as they did. -/
import Derived.Test.YtampjkpdiojciaaGreatDoorCards
import Derived.Test.YtampjkpdiojciaaGreatDoorMlA
import Derived.Test.YtampjkpdiojciaaGreatDoorMlB
import Derived.Test.YtampjkpdiojciaaGreatDoorMlC
import Derived.Test.YtampjkpdiojciaaGreatDoorMlD
import Derived.Test.YtampjkpdiojciaaGreatDoorMlE
import Derived.Test.YtampjkpdiojciaaGreatDoorMlF
import Derived.Test.YtampjkpdiojciaaGreatDoorMlG
namespace Go.Flow.Tryz
open Go Go.Proofs Go.RowKit Go.Flow
set_option maxRecDepth 100000
variable {pts : List Pt} {tris : List Tri} {c0 : Int} {rest : List Int}
abbrev mlT (is : Bool) (us : List Value) (wa : AV) (i : Int) : List AV := st 103 [.any, .any, .any, .any, .any, .op 0 0, .op 1 0, bv is, iv 0, .ls us, iv 0, bv false, iv 2, nilS, iv 2, wa, iv i]
abbrev mlE (is : Bool) (us : List Value) (wa : AV) (i : Int) : List AV := st 103 [.any, .any, .any, .any, .any, .any, .any, bv is, iv 0, .ls us, iv 0, bv false, iv 2, nilS, iv 2, wa, iv i]
abbrev mlH (ps ts : List (List Value)) (p1 p2 : List UInt8) : Heap := [some (.box false 34 [.ps 2 ps, .ps 3 ts]), some (.box false 24 [sv p1, sv p2])]
theorem Sheet.ml_loop (s : Sheet pts tris c0 rest) {N : Nat} (hN : 0 < N) (hN4 : N < 10000) (p : Pt) (hp : smallP p) (is : Bool) (us : List Value) :
    Goes Tryz.prog (loopAt Tryz.f6 0) (mlT is us nilS 0) (mlH (pts.map (ptR N)) (tris.map triR) (fT p.1 N) (fT p.2 N)) (.exit 0)
      (mlT is us (outV (hits pts tris p tris.length)) tris.length) (mlH (pts.map (ptR N)) (tris.map triR) (fT p.1 N) (fT p.2 N) ++ outH (hits pts tris p tris.length)) := by
  have hloop : loopAt Tryz.f6 0 = .loop (bodyOf (loopAt Tryz.f6 0)) := by kernel_rfl
  rw [hloop]
  have hl2 : (((tris.map triR).map rowAV).length : Int) = tris.length := by simp
  have key : ∀ (m i : Nat), i + m = tris.length → Rounds Tryz.prog (bodyOf (loopAt Tryz.f6 0)) (m + 1) (mlT is us (outV (hits pts tris p i)) i) (mlH (pts.map (ptR N)) (tris.map triR) (fT p.1 N) (fT p.2 N) ++ outH (hits pts tris p i)) (.exit 0)
      (mlT is us (outV (hits pts tris p tris.length)) tris.length) (mlH (pts.map (ptR N)) (tris.map triR) (fT p.1 N) (fT p.2 N) ++ outH (hits pts tris p tris.length)) := by
    intro m
    induction m with
    | zero =>
      intro i hi
      have hi : i = tris.length := by omega
      subst hi
      have hd : decide ((tris.length : Int) < (((tris.map triR).map rowAV).length : Int)) = false := by rw [hl2]; exact decide_eq_false (by omega)
      by_cases h : hits pts tris p tris.length = []
      · rw [h]
        exact ml_end0_out _ _ _ _ _ _ _ 0 ⟨hd, trivial⟩
      · rw [outV_cons h, outH_cons h]
        have := ml_end_out (pts.map (ptR N)) (tris.map triR) (fT p.1 N) (fT p.2 N) is us ((hits pts tris p tris.length).map fun x => iv x) tris.length 0 ⟨hd, trivial⟩
        rw [ren_ivs] at this
        exact this
    | succ m ih =>
      intro i hi
      have hil : i < tris.length := by omega
      have hc := s.lcorners N hil
      obtain ⟨sa, sb, sc⟩ := s.corner_small hil
      have hin := linside N hN hN4 _ _ _ p sa sb sc hp
      have w1 : IntKind.i64.wrap ((i : Int) + 1) = (i : Int) + 1 := by have := s.tl; rw [w64]; omega
      have hlt : decide ((i : Int) < (((tris.map triR).map rowAV).length : Int)) = true := by rw [hl2]; exact decide_eq_true (by omega)
      have hlen := hits_length pts tris p i
      have nxt := ih (i + 1) (by omega)
      rw [show ((i + 1 : Nat) : Int) = (i : Int) + 1 by push_cast; rfl] at nxt
      simp only [hits] at nxt
      have hin : CallsTo _ _ _ (bv (hit pts tris p i)) := hin
      cases hh : hit pts tris p i with
      | true =>
        rw [hh] at hin nxt
        simp only [if_true] at nxt
        rw [outV_cons (by simp), outH_cons (by simp)] at nxt
        by_cases h : hits pts tris p i = []
        · rw [h] at nxt ⊢
          refine ml_in0_step _ _ _ _ (fT (corA pts tris i).1 N) (fT (corA pts tris i).2 N) (fT (corB pts tris i).1 N) (fT (corB pts tris i).2 N) (fT (corC pts tris i).1 N) (fT (corC pts tris i).2 N) is us i _ ?_ nxt
          repeat' first | exact AllP.nil | refine AllP.cons ?_ ?_
          all_goals first | exact hlt | exact hc | exact hin | exact w1 | rfl | exact ⟨by decide, by decide⟩
        · rw [outV_cons h, outH_cons h]
          refine ml_in_step _ _ _ _ (fT (corA pts tris i).1 N) (fT (corA pts tris i).2 N) (fT (corB pts tris i).1 N) (fT (corB pts tris i).2 N) (fT (corC pts tris i).1 N) (fT (corC pts tris i).2 N) is us ((hits pts tris p i).map fun x => iv x) i _ ?_ (by
            rw [show ((hits pts tris p i).map fun x => iv x) ++ [iv (i : Int)] = (hits pts tris p i ++ [(i : Int)]).map fun x => iv x by simp, ren_ivs]
            exact nxt)
          have hcap : ((hits pts tris p i).map fun x => iv x).length + 1 ≤ 9223372036854775807 ∧ (((hits pts tris p i).map fun x => iv x).length + 1) * 8 ≤ 140737488355328 := by
            have := s.tl
            simp only [List.length_map]
            omega
          repeat' first | exact AllP.nil | refine AllP.cons ?_ ?_
          all_goals first | exact hlt | exact hc | exact hin | exact w1 | rfl | exact hcap
      | false =>
        rw [hh] at hin nxt
        simp only [Bool.false_eq_true, if_false] at nxt
        by_cases h : hits pts tris p i = []
        · rw [h] at nxt ⊢
          refine ml_no0_step _ _ _ _ (fT (corA pts tris i).1 N) (fT (corA pts tris i).2 N) (fT (corB pts tris i).1 N) (fT (corB pts tris i).2 N) (fT (corC pts tris i).1 N) (fT (corC pts tris i).2 N) is us i _ ?_ nxt
          repeat' first | exact AllP.nil | refine AllP.cons ?_ ?_
          all_goals first | exact hlt | exact hc | exact hin | exact w1 | rfl
        · rw [outV_cons h, outH_cons h] at nxt ⊢
          refine ml_no_step _ _ _ _ (fT (corA pts tris i).1 N) (fT (corA pts tris i).2 N) (fT (corB pts tris i).1 N) (fT (corB pts tris i).2 N) (fT (corC pts tris i).1 N) (fT (corC pts tris i).2 N) is us ((hits pts tris p i).map fun x => iv x) i _ ?_ (by rw [ren_ivs]; exact nxt)
          repeat' first | exact AllP.nil | refine AllP.cons ?_ ?_
          all_goals first | exact hlt | exact hc | exact hin | exact w1 | rfl
  exact Goes.loop (key tris.length 0 (by omega))
theorem rep_nil_ls (E : Env) (u : Value) (h : Rep E nilS u) : Rep E (.ls []) u := by
  rw [h.inv_v]
  exact .ls _ _ (.lst0 _ _ _)
theorem Sheet.locate' (s : Sheet pts tris c0 rest) {N : Nat} (hN : 0 < N) (hN4 : N < 10000) (p : Pt) (hp : smallP p) :
    CallsTo Tryz.prog 31 [meshAV N pts tris, .agg (ptS N p)] (.tup [.ls (cyV (hits pts tris p tris.length)), iv 0]) := by
  refine CallsTo.rep (s.locate hN hN4 p hp) fun E v hv => ?_
  unfold locR at hv
  split at hv
  · rename_i h
    rw [h]
    obtain ⟨us, rfl, hr⟩ := hv.inv_tup
    cases hr with
    | cons _ u0 _ us0 q0 qr => exact .tup _ _ (.cons _ _ _ _ (rep_nil_ls _ _ q0) qr)
  · exact hv
theorem locates_ok (k a b x y : Int) (h : Bool) (hk : 0 ≤ k) (hx : x.natAbs ≤ 128) (hy : y.natAbs ≤ 128) : CallsTo Tryz.prog 6 [sheetAV k a b h, i8x2 x y] (bv true) := by
  have hlt : k.toNat % 8 < 8 := Nat.mod_lt _ (by decide)
  have hm := make_ok k a b h hk
  have s := mkSheet hlt a b h
  generalize k.toNat % 8 = i at hm s
  have hp := place_ok k a b x y h 6 (if h then 1 else 2) hx hy (by decide) (by decide) (by split <;> decide) (by cases h <;> decide)
  have ta := tmod8 a
  have tb := tmod8 b
  have sp : smallP ((x + Int.tmod a 8 * (6 : Nat)) * (if h then 1 else 2 : Nat), (y + Int.tmod b 8 * (6 : Nat)) * (if h then 1 else 2 : Nat)) := by
    constructor <;> cases h <;> simp <;> omega
  generalize ((x + Int.tmod a 8 * (6 : Nat)) * (if h then 1 else 2 : Nat), (y + Int.tmod b 8 * (6 : Nat)) * (if h then 1 else 2 : Nat)) = p at hp sp
  have hN : 0 < 12 := by decide
  have hN4 : 12 < 10000 := by decide
  have cn := s.contains hN hN4 p sp
  have lc := s.locate' hN hN4 p sp
  have bad := point_bad2 (fT p.1 12) [49, 47, 49] (rcheck_ok p.1 12 (by decide) (by have := sp.1; omega) (by decide)) check_11
  have cb := s.contains_bad hN hN4 (fT p.1 12) [49, 47, 49] bad
  have lb := s.locate_bad hN hN4 (fT p.1 12) [49, 47, 49] bad
  have lp := s.ml_loop hN hN4 p sp (decide (hits (mkP i a b h) (shT i) p (shT i).length ≠ [])) (cyV (hits (mkP i a b h) (shT i) p (shT i).length))
  have hl := hits_length (mkP i a b h) (shT i) p (shT i).length
  have tl := s.tl
  have sm := same_ok (hits (mkP i a b h) (shT i) p (shT i).length) (hits (mkP i a b h) (shT i) p (shT i).length) (by omega)
  rw [decide_eq_true rfl] at sm
  generalize hz : hits (mkP i a b h) (shT i) p (shT i).length = hs at *
  have lp' : Goes Tryz.prog (loopAt Tryz.f6 0) (mlT (decide (hs ≠ [])) (cyV hs) nilS 0) (mlH ((mkP i a b h).map (ptR 12)) ((shT i).map triR) (fT p.1 12) (fT p.2 12)) (.exit 0) (mlE (decide (hs ≠ [])) (cyV hs) (.ls (cyV hs)) (shT i).length) [] := by
    by_cases h0 : hs = []
    · subst h0
      refine Goes.same lp ?_
      refine Same.trans (Same.slot 15 (x := nilS) (y := .ls []) rfl fun E u h => rep_nil_ls E u h) ?_
      exact Same.trans (Same.ren [] rfl) (same_cast (Same.mask (List.replicate 7 false ++ List.replicate 10 true)) (by kernel_rfl) (by kernel_rfl))
    · rw [outV_cons h0, outH_cons h0] at lp
      have e : (hs.map fun x => iv x) = (cyV hs).map AV.v := by rw [List.map_map]; rfl
      rw [e] at lp
      refine Goes.same lp ?_
      refine Same.trans (Same.shut 15 2 (y := .ls (cyV hs)) (fr := false) (e := 3) (sz := 1) (es := (cyV hs).map AV.v) rfl rfl rep_lst_ls') ?_
      exact Same.trans (Same.ren [] rfl) (same_cast (Same.mask (List.replicate 7 false ++ List.replicate 10 true)) (by kernel_rfl) (by kernel_rfl))
  have e : decide (hs ≠ []) = decide ((((cyV hs).map AV.v).length : Int) > 0) := by
    refine decide_eq_decide.2 ?_
    rw [← List.length_pos_iff]
    simp [cyV]
  refine ml_f_ok k a b x y (shT i).length h (decide (hs ≠ [])) ((mkP i a b h).map (ptR 12)) ((shT i).map triR) (fT p.1 12) (fT p.2 12) (cyV hs) (cyV hs) ?_
  have lp2 : Goes Tryz.prog (loopAt Tryz.f6 0) (st 103 [sheetAV k a b h, i8x2 x y, .op 0 0, .op 1 0, bv false, .op 2 0, .op 3 0, bv (decide (hs ≠ [])), iv 0, .ls (cyV hs), iv 0, bv false, iv 2, nilS, iv 2, nilS, iv 0])
      [some (.box false 49 [.v (.int .u8 k), .v (.int .i8 a), .v (.int .i8 b), bv h]), some (.box false 47 [.v (.int .i8 x), .v (.int .i8 y)]), some (.box false 34 [.ps 2 ((mkP i a b h).map (ptR 12)), .ps 3 ((shT i).map triR)]), some (.box false 24 (ptS 12 p))] (.exit 0) (mlE (decide (hs ≠ [])) (cyV hs) (.ls (cyV hs)) (shT i).length) [] :=
    Same.goes (Same.trans (Same.ren [2, 3] rfl) (same_cast (Same.mask (List.replicate 5 false ++ List.replicate 12 true)) (T1 := mlT (decide (hs ≠ [])) (cyV hs) nilS 0) (by kernel_rfl) (by kernel_rfl))) lp'
  repeat' first | exact AllP.nil | refine AllP.cons ?_ ?_
  all_goals first
    | rfl | exact known_ok | exact hm | exact hp | exact cn | exact lc | exact cb | exact lb | exact lp2 | exact sm
    | exact pure_eql_bool_true rfl (by kernel_rfl) rfl rfl e
end Go.Flow.Tryz
namespace Go.Flow.Tryz
open Go Go.Proofs Go.RowKit Go.Flow Go.ChangeShapes Go.WideShapes Go.ChangeAt Go.Deep
set_option maxRecDepth 100000
theorem open_at {H : Type} {enc : TypeId × Value → H} {W : World} {base : Nat} {sp : Nat → Bool} {v : Value} {d : DataW H} {p : List MemPlace}
    (hv : Value.okWide Tryz.prog W .any base 47 v) (h : DataW.Trod enc Tryz.prog W 0 sp true 47 v d p) :
    ∃ x y, v = .agg #[.int .i8 x, .int .i8 y] ∧ p = [] ∧ x.natAbs ≤ 128 ∧ y.natAbs ≤ 128 ∧ ∀ (W' : World) (sp' : Nat → Bool), DataW.Trod enc Tryz.prog W' 0 sp' true 47 v d [] := by
  unfold Value.okWide at hv
  rw [Tryz.underlying47] at hv
  obtain ⟨cs, rfl, hsz, _⟩ := hv
  obtain ⟨fuel, h⟩ := h
  obtain ⟨xs, m, rfl, hx, hl, hn, hel⟩ := DataW.trod_array Tryz.underlying47 h
  have c1 : Tryz.prog.cellsOf 46 = 1 := by kernel_rfl
  have c2 : Tryz.prog.cellsOf 47 = 2 := by kernel_rfl
  rw [c2] at hsz
  obtain ⟨l⟩ := cs
  match l, hsz with
  | [u0, u1], _ =>
    match xs, hn with
    | [y0, y1], _ =>
      have e0 := hel 0 (by decide)
      have e1 := hel 1 (by decide)
      rw [c1] at e0 e1
      obtain ⟨x, a1, a2, wx⟩ := DataW.trod_int Tryz.underlying46 (show DataW.trod enc Tryz.prog W 0 sp true m 46 [u0] = some y0 from e0)
      obtain ⟨y, b1, b2, wy⟩ := DataW.trod_int Tryz.underlying46 (show DataW.trod enc Tryz.prog W 0 sp true m 46 [u1] = some y1 from e1)
      cases a1; cases b1; subst a2; subst b2
      simp only [Prod.mk.injEq, List.map_cons, List.map_nil, List.flatMap_cons, List.flatMap_nil, List.append_nil] at hx
      obtain ⟨rfl, rfl⟩ := hx
      have bx := bounds_i8 wx
      have by' := bounds_i8 wy
      refine ⟨x, y, rfl, rfl, by omega, by omega, fun W' sp' => ⟨2, ?_⟩⟩
      have m0 : ∀ n, DataW.trod enc Tryz.prog W' 0 sp' true (n + 1) 46 [.int .i8 x] = some (.lit (.int .i8 x), []) := fun n => by simp [DataW.trod, Tryz.underlying46, wx]
      have m1 : ∀ n, DataW.trod enc Tryz.prog W' 0 sp' true (n + 1) 46 [.int .i8 y] = some (.lit (.int .i8 y), []) := fun n => by simp [DataW.trod, Tryz.underlying46, wy]
      simp [DataW.trod, Value.cells, Tryz.underlying47, c1, c2, List.range_succ]
      simp [wx, wy, Tryz.underlying46]
theorem open_sheet {H : Type} {enc : TypeId × Value → H} {W : World} {base : Nat} {sp : Nat → Bool} {v : Value} {d : DataW H} {p : List MemPlace}
    (hv : Value.okWide Tryz.prog W .any base 49 v) (h : DataW.Trod enc Tryz.prog W 0 sp true 49 v d p) :
    ∃ k a b hh, v = .agg #[.int .u8 k, .int .i8 a, .int .i8 b, .bool hh] ∧ p = [] ∧ 0 ≤ k ∧ ∀ (W' : World) (sp' : Nat → Bool), DataW.Trod enc Tryz.prog W' 0 sp' true 49 v d [] := by
  unfold Value.okWide at hv
  rw [Tryz.underlying49] at hv
  obtain ⟨cs, rfl, hsz, _⟩ := hv
  obtain ⟨fuel, h⟩ := h
  obtain ⟨y0, y1, y2, n, hx, hl, q0, q1, q2⟩ := trod_struct3 Tryz.underlying49 h
  have c1 : Tryz.prog.cellsOf 46 = 1 := by kernel_rfl
  have c2 : Tryz.prog.cellsOf 47 = 2 := by kernel_rfl
  have c5 : Tryz.prog.cellsOf 5 = 1 := by kernel_rfl
  have c4 : Tryz.prog.cellsOf 4 = 1 := by kernel_rfl
  have c3 : Tryz.prog.cellsOf 49 = 4 := by kernel_rfl
  rw [c3] at hsz
  simp only [c5, c4, c2] at q0 q1 q2
  obtain ⟨l⟩ := cs
  match l, hsz with
  | [u0, u1, u2, u3], _ =>
    obtain ⟨k, a1, a2, wk⟩ := DataW.trod_int Tryz.underlying5 (show DataW.trod enc Tryz.prog W 0 sp true n 5 [u0] = some y0 from q0)
    obtain ⟨hh, b1, b2⟩ := DataW.trod_bool Tryz.underlying4 (show DataW.trod enc Tryz.prog W 0 sp true n 4 [u3] = some y2 from q2)
    obtain ⟨xs, m, e, hxs, _, hn, hel⟩ := DataW.trod_array Tryz.underlying47 (show DataW.trod enc Tryz.prog W 0 sp true n 47 [u1, u2] = some y1 from q1)
    match xs, hn with
    | [z0, z1], _ =>
      have e0 := hel 0 (by decide)
      have e1 := hel 1 (by decide)
      rw [c1] at e0 e1
      obtain ⟨a, d1, d2, wa⟩ := DataW.trod_int Tryz.underlying46 (show DataW.trod enc Tryz.prog W 0 sp true m 46 [u1] = some z0 from e0)
      obtain ⟨b, f1, f2, wb⟩ := DataW.trod_int Tryz.underlying46 (show DataW.trod enc Tryz.prog W 0 sp true m 46 [u2] = some z1 from e1)
      cases a1; cases b1; cases d1; cases f1; subst a2; subst b2; subst d2; subst f2
      subst hxs
      simp only [Prod.mk.injEq, List.map_cons, List.map_nil, List.flatMap_cons, List.flatMap_nil, List.append_nil, List.nil_append] at hx
      obtain ⟨rfl, rfl⟩ := hx
      have hk : 0 ≤ k := by
        have : (0 : Int) ≤ k ∧ k ≤ 255 := by simpa [Lit.wf, IntKind.min, IntKind.max, IntKind.signed, IntKind.bits] using wk
        exact this.1
      refine ⟨k, a, b, hh, rfl, rfl, hk, fun W' sp' => ⟨3, ?_⟩⟩
      have t1 : DataW.trod enc Tryz.prog W' 0 sp' true 2 47 [.int .i8 a, .int .i8 b] = some (.agg [.lit (.int .i8 a), .lit (.int .i8 b)], []) := by
        simp [DataW.trod, Tryz.underlying47, c1, c2, List.range_succ]
        simp [wa, wb, Tryz.underlying46]
      have t0 : DataW.trod enc Tryz.prog W' 0 sp' true 2 5 [.int .u8 k] = some (.lit (.int .u8 k), []) := by simp [DataW.trod, Tryz.underlying5, wk]
      have t2 : DataW.trod enc Tryz.prog W' 0 sp' true 2 4 [.bool hh] = some (.lit (.bool hh), []) := by simp [DataW.trod, Tryz.underlying4]
      have := trod_struct3_mk (cs := [.int .u8 k, .int .i8 a, .int .i8 b, .bool hh]) Tryz.underlying49 (by rw [c3]; rfl) (by simp only [c5]; exact t0) (by simp only [c2]; exact t1) (by simp only [c4]; exact t2)
      simpa [Value.cells] using this
theorem locates_lift (os : Os) (started : os.Started) (H : Type) (enc : TypeId × Value → H) :
    ReturnsInHanded {} Tryz.checked os 6 .any (fun w args => (Go.Proofs.YtampjkpdiojciaaGreatDoor.Rows.meshLocatesSpec.pre enc Tryz.prog Tryz.f6 [] false w args ∧ laidMetH Tryz.prog laidL w) ∧ sizedMet enc Tryz.prog Tryz.f6 (OpenSpec.ofChange Go.Proofs.YtampjkpdiojciaaGreatDoor.Rows.meshLocatesSpec) false w args)
      (Go.Proofs.YtampjkpdiojciaaGreatDoor.Rows.meshLocatesSpec.post enc Tryz.prog Tryz.f6 false true false false) := by
  refine lift (s := Go.Proofs.YtampjkpdiojciaaGreatDoor.Rows.meshLocatesSpec) rfl (fun H ds hds => ?_) Tryz.func6 (by kernel_rfl) (by kernel_rfl) (fun os H enc => ?_) (fun H enc W base args ds p hval hA => ?_) os started H enc
  · rw [Tryz.params6] at hds
    match ds, hds with
    | [d1, d2], _ => rfl
  · exact ChangeSpec.witness_shaped (enc := enc) (C := Tryz.checked) (os := os) (X := fun w _ => laidMetH Tryz.prog laidL w) false (World.doorLaid Tryz.prog 400 os) #[.agg #[.int .u8 0, .int .i8 0, .int .i8 0, .bool false], .agg #[.int .i8 0, .int .i8 0]] 8 rfl (World.shaped_of_RefB (by kernel_rfl) (by kernel_rfl)) (by kernel_rfl) (by kernel_rfl) (by kernel_rfl) (door_met os _)
  · rw [Tryz.params6] at hval hA ⊢
    obtain ⟨v0, v1, d0, d1, p0, p1, rfl, rfl, rfl, h0, h1⟩ := trodAll_two hA
    obtain ⟨k, a, b, hh, rfl, rfl, hk, back0⟩ := open_sheet (hval 0 _ v0 rfl rfl) h0
    obtain ⟨x, y, rfl, rfl, hx, hy, back1⟩ := open_at (hval 1 _ v1 rfl rfl) h1
    refine ⟨rfl, rfl, fun W' sp => trodAll_mk2 (back0 W' sp) (back1 W' sp), _, locates_ok k a b x y hh hk hx hy, fun E => ?_⟩
    exact .cons _ _ _ _ (.agg _ [.int .u8 k, .int .i8 a, .int .i8 b, .bool hh] (repL_vs E [.int .u8 k, .int .i8 a, .int .i8 b, .bool hh])) (.cons _ _ _ _ (.agg _ [.int .i8 x, .int .i8 y] (repL_vs E [.int .i8 x, .int .i8 y])) .nil)
end Go.Flow.Tryz
namespace Go.Proofs.YtampjkpdiojciaaGreatDoor
open Go
set_option maxRecDepth 100000
theorem meshLocates_holds : Rows.MeshLocatesSaid :=
  OpenClaim.holds_of_wide 6 Tryz.f6 rfl rfl rfl rfl rfl rfl rfl ⟨rfl, rfl, rfl, rfl, rfl⟩ rfl rfl rfl rfl rfl (by kernel_rfl) Tryz.func6 (by kernel_rfl)
    (of_decide_eq_true (by kernel_rfl)) (by unfold Func.isWrapper; first | (rw [if_pos (by decide +kernel)]; kernel_rfl) | (rw [if_neg (by decide +kernel)]; exact ⟨rfl, rfl⟩))
    (fun os started H enc _ => Go.Flow.Tryz.locates_lift os started H enc)
theorem meshLocates_card : Rows.MeshLocatesCardSaid :=
  Claim7.holds_tied_plain_at .later [] [.data, .data, .data, .sentinel, .sentinel] true (true, "3b7b7ba428c0e308d7c6856966ba4b8107515931d3b6d95eacead1c7e4c7cf91") true
    meshLocates_holds (fun _ h => by cases h) (by kernel_rfl) (fun _ h => by cases h) meshLocates_row_tie rfl ⟨rfl, rfl⟩ (by kernel_rfl) rfl
    (fun f fn hf hfn => by
      obtain rfl : f = 6 := Option.some.inj ((show Tryz.prog.funcNamed "klippe/klippelaw12.MeshLocates" = some 6 by kernel_rfl).symm.trans hf) |>.symm
      obtain rfl : fn = Tryz.f6 := (Option.some.inj (Tryz.func6.symm.trans hfn)).symm
      exact ⟨by kernel_rfl, fun j t ht => by
        rw [Tryz.params6] at ht
        have hm : t ∈ [49, 47] := by simpa using Array.mem_of_getElem? ht
        have hall : ([49, 47].all fun u => !Tryz.prog.wantsStandIn u) = true := by kernel_rfl
        exact (show Tryz.prog.wantsStandIn t = false by simpa using List.all_eq_true.1 hall t hm)⟩)
    (by kernel_rfl)
#print axioms meshLocates_card
end Go.Proofs.YtampjkpdiojciaaGreatDoor
