/- Part 7 of the proofs of the mesh laws: what their code computes. No conditions. -/
import Derived.Test.YtampjkpdiojciaaGreatDoorMlA
import Derived.Test.YtampjkpdiojciaaGreatDoorMlB
import Derived.Test.YtampjkpdiojciaaGreatDoorMlC
import Derived.Test.YtampjkpdiojciaaGreatDoorMlD
import Derived.Test.YtampjkpdiojciaaGreatDoorMlE
import Derived.Test.YtampjkpdiojciaaGreatDoorMlF
namespace Go.Flow.Tryz
open Go Go.Proofs Go.RowKit Go.Flow
set_option maxRecDepth 100000
abbrev saT (us vs : List Value) (i : Int) : List AV := st 26 [.ls us, .ls vs, .any, .any, .any, iv i]
abbrev saM : List Bool := [true, true, false, false, false, true]
theorem cyV_at {l : List Int} {i : Nat} (h : i < l.length) : (((cyV l).map AV.v)[i]?) = some (iv (l.getD i 0)) := by
  simp [cyV, List.getD, List.getElem?_eq_getElem h]
theorem same_ok (l m : List Int) (hl : l.length < 1000000) : CallsTo Tryz.prog 33 [.ls (cyV l), .ls (cyV m)] (bv (decide (l = m))) := by
  have e1 : (((cyV l).map AV.v).length : Int) = l.length := by simp [cyV]
  have e2 : (((cyV m).map AV.v).length : Int) = m.length := by simp [cyV]
  by_cases hlen : l.length = m.length
  · have hd : ((((cyV l).map AV.v).length : Int) != (((cyV m).map AV.v).length : Int)) = false := by rw [e1, e2]; simp; omega
    have hloop : loopAt Tryz.f33 0 = .loop (bodyOf (loopAt Tryz.f33 0)) := by kernel_rfl
    have key : ∀ (k i : Nat), i + k = l.length → (∀ j < i, l.getD j 0 = m.getD j 0) → ∃ ex T', ((l = m ∧ ex = .exit 0 ∧ T' = saT (cyV l) (cyV m) l.length) ∨ (l ≠ m ∧ ex = .ret ∧ T' = st 26 [.any, .any, .any, .any, bv false])) ∧
        Rounds Tryz.prog (bodyOf (loopAt Tryz.f33 0)) (k + 1) (saT (cyV l) (cyV m) i) [] ex T' [] := by
      intro k
      induction k with
      | zero =>
        intro i hi heq
        have hi : i = l.length := by omega
        subst hi
        refine ⟨_, _, .inl ⟨?_, rfl, rfl⟩, sa_end_out (cyV l) (cyV m) l.length 0 ⟨by rw [e1]; exact decide_eq_false (by omega), trivial⟩⟩
        refine List.ext_getElem hlen fun j h1 h2 => ?_
        have := heq j h1
        simpa [List.getD, List.getElem?_eq_getElem h1, List.getElem?_eq_getElem h2] using this
      | succ k ih =>
        intro i hi heq
        have hil : i < l.length := by omega
        have him : i < m.length := by omega
        have hlt : decide ((i : Int) < (((cyV l).map AV.v).length : Int)) = true := by rw [e1]; exact decide_eq_true (by omega)
        have g1 : 0 ≤ (i : Int) ∧ (((cyV l).map AV.v)[Int.toNat (i : Int)]?) = some (iv (l.getD i 0)) := ⟨by omega, by rw [Int.toNat_natCast]; exact cyV_at hil⟩
        have g2 : 0 ≤ (i : Int) ∧ (((cyV m).map AV.v)[Int.toNat (i : Int)]?) = some (iv (m.getD i 0)) := ⟨by omega, by rw [Int.toNat_natCast]; exact cyV_at him⟩
        have w1 : IntKind.i64.wrap ((i : Int) + 1) = (i : Int) + 1 := by rw [w64]; omega
        by_cases hx : l.getD i 0 = m.getD i 0
        · have hne : (l.getD i 0 != m.getD i 0) = false := by rw [hx]; exact bne_self_eq_false _
          obtain ⟨ex, T', h1, h2⟩ := ih (i + 1) (by omega) (fun j hj => by
            rcases Nat.lt_succ_iff_lt_or_eq.1 hj with h | h
            · exact heq j h
            · subst h; exact hx)
          refine ⟨ex, T', h1, sa_st_step (cyV l) (cyV m) i (l.getD i 0) (m.getD i 0) _ ?_ h2⟩
          repeat' first | exact AllP.nil | refine AllP.cons ?_ ?_
          all_goals first | exact hlt | exact g1 | exact g2 | exact hne | exact w1 | rfl
        · have hne : (l.getD i 0 != m.getD i 0) = true := by simp only [bne_iff_ne, ne_eq]; exact hx
          refine ⟨_, _, .inr ⟨fun e => hx (by rw [e]), rfl, rfl⟩, Rounds.to (sa_no_out (cyV l) (cyV m) i (l.getD i 0) (m.getD i 0) _ ?_) (same_cast (Same.mask [false, false, false, false, true]) (T1 := st 26 [.any, .any, .any, .any, bv false]) (by kernel_rfl) rfl)⟩
          repeat' first | exact AllP.nil | refine AllP.cons ?_ ?_
          all_goals first | exact hlt | exact g1 | exact g2 | exact hne | rfl
    obtain ⟨ex, T', h1, h2⟩ := key l.length 0 (by omega) (fun j hj => absurd hj (by omega))
    have hg := Goes.loop h2
    rw [← hloop] at hg
    rcases h1 with ⟨e, rfl, rfl⟩ | ⟨e, rfl, rfl⟩
    · rw [decide_eq_true e]
      refine sa_lp_ok (cyV l) (cyV m) l.length ⟨hd, ?_, trivial⟩
      exact (same_cast (Same.mask saM) (T1 := saT (cyV l) (cyV m) 0) (by kernel_rfl) rfl).goes hg
    · rw [decide_eq_false e]
      refine sa_lf_ok (cyV l) (cyV m) ⟨hd, ?_, trivial⟩
      exact (same_cast (Same.mask saM) (T1 := saT (cyV l) (cyV m) 0) (by kernel_rfl) rfl).goes hg
  · rw [decide_eq_false (fun e => hlen (by rw [e]))]
    refine sa_ne_ok (cyV l) (cyV m) ⟨?_, trivial⟩
    rw [e1, e2]
    simp only [bne_iff_ne, ne_eq]
    omega
theorem fT_whole (x : Int) : fT x 1 = zT x := by
  unfold fT rT
  rw [Nat.gcd_one_right]
  simp
theorem lpoint (x y : Int) (hx : x.natAbs < 1000) (hy : y.natAbs < 1000) : CallsTo Tryz.prog 48 [iv x, iv y] (.agg (ptS 1 (x, y))) := by
  show CallsTo _ _ _ (.agg [sv (fT x 1), sv (fT y 1)])
  rw [fT_whole, fT_whole]
  exact lpoint_ok x y _ _ ⟨whole_ok x (by omega) (by omega), whole_ok y (by omega) (by omega), trivial⟩
theorem grid_at (a b i : Int) (n : Nat) (hn : 0 < n) (hn9 : n < 100) (ha : a.natAbs < 100) (hb : b.natAbs < 100) (hi : i.natAbs < 100) {c : Int} (hc : fT (a * n + i * (b - a)) n = fT c 1) : CallsTo Tryz.prog 57 [sv (fT a 1), sv (fT b 1), iv i, iv n] (sv (fT c 1)) := by
  have o := of_ok i n hn (by omega) (by omega)
  have s := sub_same b a 1 (by decide) (by omega) (by omega) (by decide)
  have m := mul_ok i (b - a) n 1 hn (by decide) (by omega) (by omega) (by omega) (by decide)
  have hp := prod_bound (a := i) (b := b - a) (M := 100) (N := 200) hi (by omega) (by decide)
  rw [Nat.mul_one] at m
  have ad := add_ok a (i * (b - a)) 1 n (by decide) hn (by omega) (by omega) (by decide) (by omega)
  rw [Nat.one_mul, Int.natCast_one, Int.mul_one, hc] at ad
  exact grid1_ok _ _ (fT i n) (fT (b - a) 1) (fT (i * (b - a)) n) _ i n ⟨o, s, m, ad, trivial⟩
def pts4 : List Pt := [(0, 0), (2, 0), (4, 0), (0, 2), (2, 2), (4, 2)]
def tri4 : List Tri := [(0, 1, 4), (0, 4, 3), (1, 2, 5), (1, 5, 4)]
theorem grid_known : CallsTo Tryz.prog 15 [.agg (ptS 1 (0, 0)), .agg (ptS 1 (4, 2)), iv 2, iv 1] (.tup [meshAV 1 pts4 tri4, iv 0]) := by
  have pk : ∀ x y : Int, x.natAbs < 100 → y.natAbs < 100 → CallsTo Tryz.prog 56 [.agg [sv (fT x 1), sv (fT y 1)]] (iv 0) := fun x y hx hy =>
    point_ok x y 1 1 (by decide) (by decide) (by omega) (by omega) (by decide) (by decide)
  have c1 := cmp_ok 0 4 1 1 (by decide) (by decide) (by decide) (by decide) (by decide) (by decide)
  have c2 := cmp_ok 0 2 1 1 (by decide) (by decide) (by decide) (by decide) (by decide) (by decide)
  have p0 := pk 0 0 (by decide) (by decide)
  have p1 := pk 2 0 (by decide) (by decide)
  have p2 := pk 4 0 (by decide) (by decide)
  have p3 := pk 0 2 (by decide) (by decide)
  have p4 := pk 2 2 (by decide) (by decide)
  have p5 := pk 4 2 (by decide) (by decide)
  have x0 := grid_at 0 4 0 2 (by decide) (by decide) (by decide) (by decide) (by decide) (c := 0) (by kernel_rfl)
  have x1 := grid_at 0 4 1 2 (by decide) (by decide) (by decide) (by decide) (by decide) (c := 2) (by kernel_rfl)
  have x2 := grid_at 0 4 2 2 (by decide) (by decide) (by decide) (by decide) (by decide) (c := 4) (by kernel_rfl)
  have y0 := grid_at 0 2 0 1 (by decide) (by decide) (by decide) (by decide) (by decide) (c := 0) (by kernel_rfl)
  have y1 := grid_at 0 2 1 1 (by decide) (by decide) (by decide) (by decide) (by decide) (c := 2) (by kernel_rfl)
  refine CallsTo.rep (grid21_ok (fT 0 1) (fT 0 1) (fT 4 1) (fT 2 1) (fT 0 1) (fT 0 1) (fT 2 1) (fT 0 1) (fT 4 1) (fT 0 1) (fT 0 1) (fT 2 1) (fT 2 1) (fT 2 1) (fT 4 1) (fT 2 1) ?_) fun E v hv => ?_
  · repeat' first | exact AllP.nil | refine AllP.cons ?_ ?_
    all_goals first | rfl | exact p0 | exact p1 | exact p2 | exact p3 | exact p4 | exact p5 | exact c1 | exact c2 | exact x0 | exact x1 | exact x2 | exact y0 | exact y1 | exact ⟨by decide, by decide⟩ | decide
  · obtain ⟨us, rfl, hr⟩ := hv.inv_tup
    cases hr with
    | cons _ u0 _ us0 q0 qr => exact .tup _ _ (.cons _ _ _ _ (rep_mkmesh q0) qr)
theorem along_known : alongQ (spansQ pts4 tri4 (-1, 1) (3, 1) 4) = [(1, 1/4, 1/2), (0, 1/2, 3/4), (3, 3/4, 1)] := by decide +kernel
theorem nT_two : nT 2 = [50] := by
  unfold nT
  rw [Lib.decDigits]
  rfl
theorem nT_four : nT 4 = [52] := by
  unfold nT
  rw [Lib.decDigits]
  rfl
theorem t_half : rT 1 2 = [49, 47, 50] := by
  unfold rT
  rw [if_neg (by decide), nT_two, show zT 1 = nT 1 from zT_nat 1, nT_one]
  rfl
theorem t_quarter : rT 1 4 = [49, 47, 52] := by
  unfold rT
  rw [if_neg (by decide), nT_four, show zT 1 = nT 1 from zT_nat 1, nT_one]
  rfl
theorem known_ok : CallsTo Tryz.prog 12 [] (bv true) := by
  have sh := sheet4
  have hd := grid_known
  have ck := sh.check (N := 1) (by decide) (by decide)
  have bd := bdry_ok (pts4.map (ptR 1)) (tri4.map triR) _ _ ⟨ck, rfl, sh.owners 1, sh.outer 1, trivial⟩
  have wt := sh.shares (N := 1) (by decide) (by decide) (1, 1) (by decide) (i := 0) (by decide)
  have al := sh.along (N := 1) (by decide) (by decide) (-1, 1) (3, 1) (by decide) (by decide) (by decide)
  have al' : CallsTo Tryz.prog 25 [meshAV 1 pts4 tri4, .agg (ptS 1 (-1, 1)), .agg (ptS 1 (3, 1))] (.tup [.ps 3 (([(1, 1/4, 1/2), (0, 1/2, 3/4), (3, 3/4, 1)] : List Sp).map spR), iv 0]) := by
    rw [← along_known]
    exact al
  have g0 := lpoint 0 0 (by decide) (by decide)
  have g1 := lpoint 4 2 (by decide) (by decide)
  have g2 := lpoint 1 1 (by decide) (by decide)
  have g3 := lpoint (-1) 1 (by decide) (by decide)
  have g4 := lpoint 3 1 (by decide) (by decide)
  have hw : CallsTo Tryz.prog 28 [meshAV 1 pts4 tri4, iv 0, .agg (ptS 1 (1, 1))] (.tup [.agg [sv [49, 47, 50], sv [48], sv [49, 47, 50]], iv 0]) := by
    have e1 : fT 2 4 = [49, 47, 50] := by rw [← t_half]; kernel_rfl
    have e0 : fT 0 4 = [48] := fT_zero 4 (by decide)
    have h : CallsTo Tryz.prog 28 [meshAV 1 pts4 tri4, iv 0, .agg (ptS 1 (1, 1))] (.tup [.agg [sv (fT 2 4), sv (fT 0 4), sv (fT 2 4)], iv 0]) := wt
    rwa [e1, e0] at h
  have sm : CallsTo Tryz.prog 33 [.ls (cyV [0, 1, 2, 5, 4, 3]), .lst 1 [iv 0, iv 1, iv 2, iv 5, iv 4, iv 3]] (bv true) := by
    have h := same_ok [0, 1, 2, 5, 4, 3] [0, 1, 2, 5, 4, 3] (by decide)
    rw [decide_eq_true rfl] at h
    refine CallsTo.args h fun E us hu => ?_
    cases hu with
    | cons _ u0 _ us0 h0 hl =>
      cases hl with
      | cons _ u1 _ us1 h1 hl => exact .cons _ _ _ _ h0 (.cons _ _ _ _ (.ls _ _ h1) hl)
  have q1 : qT (1/4) = [49, 47, 52] := by rw [← t_quarter]; kernel_rfl
  have q2 : qT (1/2) = [49, 47, 50] := by rw [← t_half]; kernel_rfl
  refine knownf_ok (fT 0 1) (fT 0 1) (fT 4 1) (fT 2 1) (fT 1 1) (fT 1 1) (fT (-1) 1) (fT 1 1) (fT 3 1) (fT 1 1) (pts4.map (ptR 1)) (tri4.map triR) [49, 47, 50] [48] [49, 47, 50] (cyV [0, 1, 2, 5, 4, 3]) (([(1, 1/4, 1/2), (0, 1/2, 3/4), (3, 3/4, 1)] : List Sp).map spR) 1 5 4 1 3 (qT (1/4)) (qT (1/2)) (qT (3/4)) (qT 1) ?_
  repeat' first | exact AllP.nil | refine AllP.cons ?_ ?_
  all_goals first
    | rfl | exact g0 | exact g1 | exact g2 | exact g3 | exact g4 | exact hd | exact bd | exact hw | exact al' | exact sm
    | exact pure_eql_agg (xv := [.int .i64 1, .int .i64 5, .int .i64 4]) (yv := [.int .i64 1, .int .i64 5, .int .i64 4]) rfl (by kernel_rfl) rfl rfl (fun w => (eq_tri 1 5 4 1 5 4 w))
    | exact pure_eql_agg (xv := [.string (bstr [49, 47, 50]), .string (bstr [48]), .string (bstr [49, 47, 50])]) (yv := [.string (bstr [49, 47, 50]), .string (bstr [48]), .string (bstr [49, 47, 50])]) rfl (by kernel_rfl) rfl rfl (fun w => eq_weights _ _ _ _ _ _ w)
    | (rw [q1, q2]; exact pure_eql_agg (xv := [.int .i64 1, .string (bstr [49, 47, 52]), .string (bstr [49, 47, 50])]) (yv := [.int .i64 1, .string (bstr [49, 47, 52]), .string (bstr [49, 47, 50])]) rfl (by kernel_rfl) rfl rfl (fun w => eq_span _ _ _ _ _ _ w))
    | exact ⟨by decide, rfl⟩
    | decide
end Go.Flow.Tryz
namespace Go.Flow.Tryz
open Go Go.Proofs Go.RowKit Go.Flow
set_option maxRecDepth 100000
theorem check_11 : CallsTo Tryz.prog 13 [sv [49, 47, 49]] (iv 2) := by
  have hc := cut_ok [49, 47, 49] [47] (by decide)
  rw [show Lib.cut [49, 47, 49] [47] = ([49], [49], true) by decide +kernel] at hc
  have i1 := icheck_nat 1 (by decide)
  rw [nT_one] at i1
  have cm : CallsTo Tryz.prog 51 [sv [49], sv [49]] (iv 0) := by
    have hs1 := isign_ok (1 : Int)
    rw [if_neg (by omega), if_neg (by omega)] at hs1
    have e1 : zT 1 = [49] := by rw [show (1 : Int) = ((1 : Nat) : Int) from rfl, zT_nat]; exact nT_one
    rw [e1] at hs1
    have t2 := trimPrefix_nat 1
    rw [nT_one] at t2
    have hk := compare_ok [49] [49]
    rw [show Lib.compareBytes [49] [49] = 0 by decide +kernel] at hk
    have h := icmp_same_ok [49] 0 (by
      repeat' first | exact AllP.nil | refine AllP.cons ?_ ?_
      all_goals first | exact hs1 | rfl | exact t2 | exact hk | decide)
    exact h
  refine rchk_one_ok [49, 47, 49] ?_
  repeat' first | exact AllP.nil | refine AllP.cons ?_ ?_
  all_goals first | exact hc | exact i1 | exact cm | rfl | decide
theorem check_00 : CallsTo Tryz.prog 13 [sv [48, 48]] (iv 2) := by
  have hc := cut_ok [48, 48] [47] (by decide)
  rw [show Lib.cut [48, 48] [47] = ([48, 48], [], false) by decide +kernel] at hc
  have hp := cutPrefix_ok [48, 48] [45]
  rw [show Lib.trimPrefix [48, 48] [45] = [48, 48] by decide +kernel, show Lib.hasPrefix [48, 48] [45] = false by decide +kernel] at hp
  have hi : CallsTo Tryz.prog 50 [sv [48, 48]] (iv 2) := by
    refine chk_00_ok [48, 48] ?_
    repeat' first | exact AllP.nil | refine AllP.cons ?_ ?_
    all_goals first | exact hp | rfl | decide
  refine rchk_bad_ok [48, 48] [48, 48] [] false ?_
  repeat' first | exact AllP.nil | refine AllP.cons ?_ ?_
  all_goals first | exact hc | exact hi | rfl | decide
theorem point_bad2 (a b : List UInt8) (h1 : CallsTo Tryz.prog 13 [sv a] (iv 0)) (h : CallsTo Tryz.prog 13 [sv b] (iv 2)) : CallsTo Tryz.prog 56 [.agg [sv a, sv b]] (iv 2) :=
  ckp_ok a b 2 ⟨nums_bad2_ok a b ⟨rfl, ⟨by decide, rfl⟩, h1, rfl, by decide, rfl, ⟨by decide, rfl⟩, h, rfl, trivial⟩, trivial⟩
end Go.Flow.Tryz
