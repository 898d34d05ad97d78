/- Part 5 of the proofs of the mesh laws: what their code computes. No conditions. -/
import Derived.Shelf.SlicesG.CompactS
import Derived.Sort.OwnSorted
import Derived.Lib.RowBridge
import Derived.Test.YtampjkpdiojciaaGreatDoorMlA
import Derived.Test.YtampjkpdiojciaaGreatDoorMlB
import Derived.Test.YtampjkpdiojciaaGreatDoorMlC
import Derived.Test.YtampjkpdiojciaaGreatDoorMlD
namespace Go.Flow.Tryz
open Go Go.Proofs Go.RowKit Go.Flow
set_option maxRecDepth 100000
theorem Rounds.same {P : Program} {c : Code} {n : Nat} {T T1 T' : List AV} {H H1 H' : Heap} {ex : Ex} (h : Same T H T1 H1) (g : Rounds P c n T1 H1 ex T' H') : Rounds P c n T H ex T' H' := fun B S0 w0 α a w s hf Q hQ => by
  obtain ⟨α1, s1, f1⟩ := h B S0 w0 α a w s hf
  exact g B S0 w0 α1 a w s1 f1 Q hQ
def ptR (N : Nat) (p : Pt) : List Value := [.string (bstr (fT p.1 N)), .string (bstr (fT p.2 N))]
def ptAt (pts : List Pt) (cyc : List Int) (i : Nat) : Pt := pts.getD (cyc.getD (i % cyc.length) 0).toNat (0, 0)
def upB (p q : Pt) : Bool := decide (q.2 > p.2) || (decide (q.2 = p.2) && decide (q.1 > p.1))
def upAt (pts : List Pt) (cyc : List Int) (i : Nat) : Bool := upB (ptAt pts cyc i) (ptAt pts cyc (i + 1))
def turnsUp (pts : List Pt) (cyc : List Int) : Nat → Int
  | 0 => 0
  | i + 1 => turnsUp pts cyc i + (if !upAt pts cyc i && upAt pts cyc (i + 1) then 1 else 0)
abbrev cyV (cyc : List Int) : List Value := cyc.map fun x => .int .i64 x
theorem ptR_get {N : Nat} {pts : List Pt} {k : Int} (h0 : 0 ≤ k) (hk : k.toNat < pts.length) : ((pts.map (ptR N)).map rowAV)[k.toNat]? = some (.agg (ptS N (pts.getD k.toNat (0, 0)))) := by
  rw [List.getElem?_map, List.getElem?_map, List.getElem?_eq_getElem hk]
  simp [List.getD, List.getElem?_eq_getElem hk, ptR, rowAV, ptS]
theorem ptAt_in {pts : List Pt} {cyc : List Int} (hc : 0 < cyc.length) (hcy : ∀ x ∈ cyc, 0 ≤ x ∧ x.toNat < pts.length) (i : Nat) : ptAt pts cyc i ∈ pts := by
  have hm : i % cyc.length < cyc.length := Nat.mod_lt _ hc
  have := hcy _ (List.getElem_mem hm)
  unfold ptAt
  simp only [List.getD, List.getElem?_eq_getElem hm, Option.getD_some, List.getElem?_eq_getElem this.2]
  exact List.getElem_mem _
theorem point1_ok (N : Nat) (pts : List Pt) (ts : List (List Value)) (cyc : List Int) (hc : 0 < cyc.length) (hcy : ∀ x ∈ cyc, 0 ≤ x ∧ x.toNat < pts.length) (i : Nat) :
    CallsTo Tryz.prog 139 [iv i, .lp [.ps 2 (pts.map (ptR N)), .ps 3 ts], .lp [.ls (cyV cyc)], .lp [iv cyc.length]] (.agg (ptS N (ptAt pts cyc i))) := by
  have hm : i % cyc.length < cyc.length := Nat.mod_lt _ hc
  have hx := hcy _ (List.getElem_mem hm)
  have ht : Int.tmod (i : Int) cyc.length = ((i % cyc.length : Nat) : Int) := by rw [Int.tmod_eq_emod_of_nonneg (by omega)]; rfl
  have hg : cyc.getD (i % cyc.length) 0 = cyc[i % cyc.length] := by simp [List.getD, List.getElem?_eq_getElem hm]
  refine once1_ok _ ts (cyV cyc) i cyc.length (cyc.getD (i % cyc.length) 0) _ _ ⟨by omega, ⟨by rw [ht]; omega, ?_⟩, ⟨by rw [hg]; exact hx.1, ?_⟩, trivial⟩
  · rw [ht, Int.toNat_natCast, hg]
    simp [List.getElem?_eq_getElem hm]
  · rw [hg]
    have := ptR_get (N := N) hx.1 hx.2
    rw [this]
    unfold ptAt
    rw [hg]
theorem upper_ok (N : Nat) (hN : 0 < N) (hN4 : N < 10000) (pts : List Pt) (ts : List (List Value)) (cyc : List Int) (hc : 0 < cyc.length) (hcy : ∀ x ∈ cyc, 0 ≤ x ∧ x.toNat < pts.length) (hsm : ∀ p ∈ pts, smallP p) (i : Nat) (hi : i < 100000) :
    CallsTo Tryz.prog 140 [iv i, .lp [.fn 139 [.lp [.ps 2 (pts.map (ptR N)), .ps 3 ts], .lp [.ls (cyV cyc)], .lp [iv cyc.length]]]] (bv (upAt pts cyc i)) := by
  have p0 := point1_ok N pts ts cyc hc hcy i
  have p1 := point1_ok N pts ts cyc hc hcy (i + 1)
  have w1 : IntKind.i64.wrap ((i : Int) + 1) = (i : Int) + 1 := by rw [w64]; omega
  have s0 := hsm _ (ptAt_in hc hcy i)
  have s1 := hsm _ (ptAt_in hc hcy (i + 1))
  rw [show ((i + 1 : Nat) : Int) = (i : Int) + 1 by push_cast; rfl] at p1
  have cy := cmp_ok (ptAt pts cyc (i + 1)).2 (ptAt pts cyc i).2 N N hN hN (by have := s1.2; omega) (by have := s0.2; omega) (by omega) (by omega)
  have cx := cmp_ok (ptAt pts cyc (i + 1)).1 (ptAt pts cyc i).1 N N hN hN (by have := s1.1; omega) (by have := s0.1; omega) (by omega) (by omega)
  have hNp : (0 : Int) < N := by omega
  have mul_lt : ∀ a b : Int, a * N < b * N ↔ a < b := fun a b => ⟨fun h => Int.lt_of_mul_lt_mul_right h (by omega), fun h => Int.mul_lt_mul_of_pos_right h hNp⟩
  have gt : ∀ a b : Int, (cmpZ (a * N) (b * N) > 0) ↔ a > b := fun a b => (cmpZ_gt _ _).trans (mul_lt b a)
  have lt : ∀ a b : Int, (cmpZ (a * N) (b * N) < 0) ↔ a < b := fun a b => (cmpZ_lt _ _).trans (mul_lt a b)
  unfold upAt upB
  by_cases hgt : (ptAt pts cyc (i + 1)).2 > (ptAt pts cyc i).2
  · have d := decide_eq_true ((gt _ _).2 hgt)
    rw [decide_eq_true hgt, Bool.true_or]
    exact once2_gt_ok _ ts (cyV cyc) i cyc.length _ _ _ _ _ ⟨w1, p1, p0, cy, d, d, d, d, d, trivial⟩
  · have d := decide_eq_false (fun h => hgt ((gt _ _).1 h))
    rw [decide_eq_false hgt, Bool.false_or]
    by_cases heq : (ptAt pts cyc (i + 1)).2 = (ptAt pts cyc i).2
    · have z : cmpZ ((ptAt pts cyc (i + 1)).2 * N) ((ptAt pts cyc i).2 * N) = 0 := by
        have h1 : ¬ (cmpZ ((ptAt pts cyc (i + 1)).2 * N) ((ptAt pts cyc i).2 * N) > 0) := fun h => hgt ((gt (ptAt pts cyc (i + 1)).2 (ptAt pts cyc i).2).1 h)
        have h2 : ¬ (cmpZ ((ptAt pts cyc (i + 1)).2 * N) ((ptAt pts cyc i).2 * N) < 0) := fun h => (show ¬ (ptAt pts cyc (i + 1)).2 < (ptAt pts cyc i).2 by omega) ((lt (ptAt pts cyc (i + 1)).2 (ptAt pts cyc i).2).1 h)
        omega
      have e : (cmpZ ((ptAt pts cyc (i + 1)).2 * N) ((ptAt pts cyc i).2 * N) == 0) = true := by simp [z]
      rw [decide_eq_true heq, Bool.true_and, show decide ((ptAt pts cyc (i + 1)).1 > (ptAt pts cyc i).1) = decide (cmpZ ((ptAt pts cyc (i + 1)).1 * N) ((ptAt pts cyc i).1 * N) > 0) from (decide_eq_decide.2 (gt _ _)).symm]
      refine once2_eq_ok _ ts (cyV cyc) i cyc.length (cmpZ ((ptAt pts cyc (i + 1)).2 * N) ((ptAt pts cyc i).2 * N)) (cmpZ ((ptAt pts cyc (i + 1)).1 * N) ((ptAt pts cyc i).1 * N)) (fT (ptAt pts cyc i).1 N) (fT (ptAt pts cyc i).2 N) (fT (ptAt pts cyc (i + 1)).1 N) (fT (ptAt pts cyc (i + 1)).2 N) ?_
      repeat' first | exact AllP.nil | refine AllP.cons ?_ ?_
      all_goals first | exact w1 | exact p1 | exact p0 | exact cy | exact cx | exact d | exact e
    · have e : (cmpZ ((ptAt pts cyc (i + 1)).2 * N) ((ptAt pts cyc i).2 * N) == 0) = false := by
        have h2 := (lt (ptAt pts cyc (i + 1)).2 (ptAt pts cyc i).2).2 (by omega)
        simp only [beq_eq_false_iff_ne, ne_eq]
        omega
      rw [decide_eq_false heq, Bool.false_and]
      refine once2_lt_ok _ ts (cyV cyc) i cyc.length (cmpZ ((ptAt pts cyc (i + 1)).2 * N) ((ptAt pts cyc i).2 * N)) (fT (ptAt pts cyc i).1 N) (fT (ptAt pts cyc i).2 N) (fT (ptAt pts cyc (i + 1)).1 N) (fT (ptAt pts cyc (i + 1)).2 N) ?_
      repeat' first | exact AllP.nil | refine AllP.cons ?_ ?_
      all_goals first | exact w1 | exact p1 | exact p0 | exact cy | exact d | exact e
abbrev oneT (n r i : Int) : List AV := st 46 [.any, .any, .op 0 0, .op 1 0, bv false, .op 2 0, .op 3 0, .fn 140 [.op 3 0], iv r, .any, .any, .any, .any, .any, iv n, iv i]
abbrev oneH (ps ts : List (List Value)) (cy : List Value) (n : Int) : Heap := [some (.box false 34 [.ps 2 ps, .ps 3 ts]), some (.box false 70 [.ls cy]), some (.box false 3 [iv n]), some (.box false 194 [.fn 139 [.op 0 0, .op 1 0, .op 2 0]])]
abbrev oneM : List Bool := [false, false, true, true, true, true, true, true, true, false, false, false, false, false, true, true]
theorem mesh_once_ok (N : Nat) (hN : 0 < N) (hN4 : N < 10000) (pts : List Pt) (ts : List (List Value)) (cyc : List Int) (hc : 0 < cyc.length) (hl : cyc.length ≤ 1000) (hcy : ∀ x ∈ cyc, 0 ≤ x ∧ x.toNat < pts.length) (hsm : ∀ p ∈ pts, smallP p)
    (hdet : ∀ i < cyc.length, 0 ≤ det (ptAt pts cyc i) (ptAt pts cyc (i + 1)) (ptAt pts cyc (i + 2))) :
    CallsTo Tryz.prog 114 [.agg [.ps 2 (pts.map (ptR N)), .ps 3 ts], .ls (cyV cyc)] (bv (turnsUp pts cyc cyc.length == 1)) := by
  have hb : ∀ i, 0 ≤ turnsUp pts cyc i ∧ turnsUp pts cyc i ≤ i := by
    intro i
    induction i with
    | zero => exact ⟨Int.le_refl _, Int.le_refl _⟩
    | succ i ih => simp only [turnsUp]; split <;> (push_cast; omega)
  have key : ∀ (m i : Nat), i + m = cyc.length → Rounds Tryz.prog (bodyOf (loopAt Tryz.f114 0)) (m + 1) (oneT cyc.length (turnsUp pts cyc i) i) (oneH (pts.map (ptR N)) ts (cyV cyc) cyc.length) (.exit 0)
      (oneT cyc.length (turnsUp pts cyc cyc.length) cyc.length) (oneH (pts.map (ptR N)) ts (cyV cyc) cyc.length) := by
    intro m
    induction m with
    | zero =>
      intro i hi
      have hi : i = cyc.length := by omega
      subst hi
      exact on_end_out _ ts (cyV cyc) _ _ _ 0 ⟨by simp, trivial⟩
    | succ m ih =>
      intro i hi
      have p0 := point1_ok N pts ts cyc hc hcy i
      have p1 := point1_ok N pts ts cyc hc hcy (i + 1)
      have p2 := point1_ok N pts ts cyc hc hcy (i + 2)
      have u0 := upper_ok N hN hN4 pts ts cyc hc hcy hsm i (by omega)
      have u1 := upper_ok N hN hN4 pts ts cyc hc hcy hsm (i + 1) (by omega)
      rw [show ((i + 1 : Nat) : Int) = (i : Int) + 1 by push_cast; rfl] at p1 u1
      rw [show ((i + 2 : Nat) : Int) = (i : Int) + 2 by push_cast; rfl] at p2
      have w1 : IntKind.i64.wrap ((i : Int) + 1) = (i : Int) + 1 := by rw [w64]; omega
      have w2 : IntKind.i64.wrap ((i : Int) + 2) = (i : Int) + 2 := by rw [w64]; omega
      have wr : IntKind.i64.wrap (turnsUp pts cyc i + 1) = turnsUp pts cyc i + 1 := by have := hb i; rw [w64]; omega
      have ht := turn_ok N hN hN4 (ptAt pts cyc i) (ptAt pts cyc (i + 1)) (ptAt pts cyc (i + 2)) (hsm _ (ptAt_in hc hcy _)) (hsm _ (ptAt_in hc hcy _)) (hsm _ (ptAt_in hc hcy _))
      have hs : decide ((det (ptAt pts cyc i) (ptAt pts cyc (i + 1)) (ptAt pts cyc (i + 2))).sign < 0) = false := by
        have h1 := sign_nonneg (det (ptAt pts cyc i) (ptAt pts cyc (i + 1)) (ptAt pts cyc (i + 2)))
        rw [decide_eq_true (show det _ _ _ ≥ 0 from hdet i (by omega))] at h1
        have := of_decide_eq_true h1
        exact decide_eq_false (by omega)
      have hlt : decide ((i : Int) < cyc.length) = true := decide_eq_true (by omega)
      have nxt := ih (i + 1) (by omega)
      rw [show ((i + 1 : Nat) : Int) = (i : Int) + 1 by push_cast; rfl] at nxt
      simp only [turnsUp] at nxt
      cases hu0 : upAt pts cyc i with
      | true =>
        rw [hu0] at u0 nxt
        simp only [Bool.not_true, Bool.false_and, Bool.false_eq_true, if_false, Int.add_zero] at nxt
        refine on_up_step _ ts (cyV cyc) cyc.length _ i (det (ptAt pts cyc i) (ptAt pts cyc (i + 1)) (ptAt pts cyc (i + 2))).sign (fT (ptAt pts cyc i).1 N) (fT (ptAt pts cyc i).2 N) (fT (ptAt pts cyc (i + 1)).1 N) (fT (ptAt pts cyc (i + 1)).2 N) (fT (ptAt pts cyc (i + 2)).1 N) (fT (ptAt pts cyc (i + 2)).2 N) _ ?_ (Rounds.same (same_cast (Same.mask oneM) (T1 := oneT cyc.length (turnsUp pts cyc i) (i + 1)) (by kernel_rfl) rfl) nxt)
        repeat' first | exact AllP.nil | refine AllP.cons ?_ ?_
        all_goals first | exact hlt | exact p0 | exact p1 | exact p2 | exact w1 | exact w2 | exact ht | exact hs | exact u0 | rfl
      | false =>
        rw [hu0] at u0 nxt
        cases hu1 : upAt pts cyc (i + 1) with
        | true =>
          rw [hu1] at u1 nxt
          simp only [Bool.not_false, Bool.true_and, if_true] at nxt
          refine on_du_step _ ts (cyV cyc) cyc.length _ i (det (ptAt pts cyc i) (ptAt pts cyc (i + 1)) (ptAt pts cyc (i + 2))).sign (fT (ptAt pts cyc i).1 N) (fT (ptAt pts cyc i).2 N) (fT (ptAt pts cyc (i + 1)).1 N) (fT (ptAt pts cyc (i + 1)).2 N) (fT (ptAt pts cyc (i + 2)).1 N) (fT (ptAt pts cyc (i + 2)).2 N) _ ?_ (Rounds.same (same_cast (Same.mask oneM) (T1 := oneT cyc.length (turnsUp pts cyc i + 1) (i + 1)) (by kernel_rfl) rfl) nxt)
          repeat' first | exact AllP.nil | refine AllP.cons ?_ ?_
          all_goals first | exact hlt | exact p0 | exact p1 | exact p2 | exact w1 | exact w2 | exact ht | exact hs | exact u0 | exact u1 | exact wr | rfl
        | false =>
          rw [hu1] at u1 nxt
          simp only [Bool.not_false, Bool.true_and, Bool.false_eq_true, if_false, Int.add_zero] at nxt
          refine on_dd_step _ ts (cyV cyc) cyc.length _ i (det (ptAt pts cyc i) (ptAt pts cyc (i + 1)) (ptAt pts cyc (i + 2))).sign (fT (ptAt pts cyc i).1 N) (fT (ptAt pts cyc i).2 N) (fT (ptAt pts cyc (i + 1)).1 N) (fT (ptAt pts cyc (i + 1)).2 N) (fT (ptAt pts cyc (i + 2)).1 N) (fT (ptAt pts cyc (i + 2)).2 N) _ ?_ (Rounds.same (same_cast (Same.mask oneM) (T1 := oneT cyc.length (turnsUp pts cyc i) (i + 1)) (by kernel_rfl) rfl) nxt)
          repeat' first | exact AllP.nil | refine AllP.cons ?_ ?_
          all_goals first | exact hlt | exact p0 | exact p1 | exact p2 | exact w1 | exact w2 | exact ht | exact hs | exact u0 | exact u1 | rfl
  have hlen : (cyV cyc).length = cyc.length := by simp
  have hloop : loopAt Tryz.f114 0 = .loop (bodyOf (loopAt Tryz.f114 0)) := by kernel_rfl
  refine once_ok _ ts (cyV cyc) (turnsUp pts cyc cyc.length) ⟨?_, trivial⟩
  simp only [hlen, List.length_map]
  rw [hloop]
  refine (same_cast (Same.mask oneM) (T1 := oneT cyc.length 0 0) (by kernel_rfl) rfl).goes (Goes.loop (key cyc.length 0 (by omega)))
end Go.Flow.Tryz
namespace Go.Flow.Tryz
open Go Go.Proofs Go.RowKit Go.Flow
set_option maxRecDepth 100000
theorem u24 : ∃ f g : Field, Tryz.prog.underlying 24 = some (.struct #[f, g]) ∧ f.type = 22 ∧ f.offset = 0 ∧ (f.name == "_") = false ∧ g.type = 22 ∧ g.offset = 1 ∧ (g.name == "_") = false := by
  refine ⟨{ name := "X", type := 22, offset := 0, embedded := false, tag := "", pkgPath := "", byteOffset := 0 }, { name := "Y", type := 22, offset := 1, embedded := false, tag := "", pkgPath := "", byteOffset := 16 }, by kernel_rfl, rfl, rfl, by decide, rfl, rfl, by decide⟩
theorem u22 : Tryz.prog.underlying 22 = some .string := by kernel_rfl
theorem c24 : Tryz.prog.cellsOf 24 = 2 := by kernel_rfl
theorem c22 : Tryz.prog.cellsOf 22 = 1 := by kernel_rfl
theorem kt24 : Tryz.prog.keyType 24 = true := by kernel_rfl
theorem keyed24 : Maps.Keyed Tryz.prog 24 := .of_law (deep_law_laid laidOut (m := 3) (by decide) (Nat.le_of_ble_eq_true (by kernel_rfl)) (by kernel_rfl) (by kernel_rfl))
abbrev pKey (x y : ByteArray) : Value := .agg #[.string x, .string y]
theorem key24 {x y : ByteArray} (hx : x.size ≤ maxLen) (hy : y.size ≤ maxLen) : ∃ l, keyOf Tryz.prog 24 (pKey x y) = some l := by
  obtain ⟨f, g, hu, f1, f2, f3, g1, g2, g3⟩ := u24
  have l22 : ∀ d (z : ByteArray), z.size ≤ maxLen → Tryz.prog.keyLits (d + 1) 22 [.string z] = some [.string z.data.toList] := fun d z hz => by
    simp [Program.keyLits, u22, hz]
  have l24 : ∀ d, Tryz.prog.keyLits (d + 2) 24 [.string x, .string y] = some [.string x.data.toList, .string y.data.toList] := fun d => by
    unfold Program.keyLits
    simp only [hu, c24]
    have hn : (#[f, g].all fun f => f.name != "_") = true := by simp [bne, f3, g3]
    simp [hn, f1, f2, g1, g2, c22, l22 d x hx, l22 d y hy]
    simp_all
  have hs : 0 < Tryz.prog.types.size := Nat.le_of_ble_eq_true (by kernel_rfl)
  have hd : Tryz.prog.types.size + 1 = (Tryz.prog.types.size - 1) + 2 := by omega
  refine ⟨.string (keyBytes [.string x.data.toList, .string y.data.toList]), ?_⟩
  unfold keyOf
  simp only [hu]
  rw [if_pos (by simp [kt24, Value.formed, hu, c24]), hd]
  show Option.map _ (Tryz.prog.keyLits ((Tryz.prog.types.size - 1) + 2) 24 [.string x, .string y]) = _
  rw [l24]
  rfl
theorem fT_inj {k l : Int} {N : Nat} (hN : 0 < N) (h : fT k N = fT l N) : k = l := by
  obtain ⟨p, q, g, hg, hq, h1, h2, h3, _⟩ := fT_parts k N hN
  obtain ⟨p', q', g', hg', hq', h1', h2', h3', _⟩ := fT_parts l N hN
  rw [h3, h3'] at h
  obtain ⟨e1, e2⟩ := rT_inj h
  subst e1 e2
  have : g = g' := Nat.eq_of_mul_eq_mul_left hq (h2.symm.trans h2')
  rw [h1, h1', this]
theorem bstr_inj {a b : List UInt8} (h : bstr a = bstr b) : a = b := by
  have := congrArg (fun z : ByteArray => z.data.toList) h
  simpa [bstr] using this
def ptK (N : Nat) (p : Pt) : Value × Value := (pKey (bstr (fT p.1 N)) (bstr (fT p.2 N)), .bool true)
theorem foundP {N : Nat} (hN : 0 < N) {pre : List Pt} {p : Pt} (h : p ∉ pre) : Found (pre.map (ptK N)) (pKey (bstr (fT p.1 N)) (bstr (fT p.2 N))) none := by
  intro v hv e
  obtain ⟨q, hq, rfl⟩ := List.mem_map.1 hv
  have e : pKey (bstr (fT q.1 N)) (bstr (fT q.2 N)) = pKey (bstr (fT p.1 N)) (bstr (fT p.2 N)) := e
  simp only [Value.agg.injEq, Array.mk.injEq, List.cons.injEq, Value.string.injEq, and_true] at e
  have h1 := fT_inj hN (bstr_inj e.1)
  have h2 := fT_inj hN (bstr_inj e.2)
  exact h ((Prod.ext h1 h2 : q = p) ▸ hq)
theorem fitP {N : Nat} (hN4 : N < 10000) {pre : List Pt} {p : Pt} (hp : smallP p) (hpre : ∀ q ∈ pre, smallP q) : KeyFit Tryz.prog 24 (pre.map (ptK N)) (pKey (bstr (fT p.1 N)) (bstr (fT p.2 N))) := by
  have len : ∀ k : Int, k.natAbs < 10000 → (bstr (fT k N)).size ≤ maxLen := fun k hk => by
    have := fT_length k N (by omega) (by omega)
    rw [bstr_size]
    unfold maxLen
    omega
  exact ⟨keyed24, key24 (len _ hp.1) (len _ hp.2), fun v hv => by
    obtain ⟨q, hq, rfl⟩ := List.mem_map.1 hv
    exact key24 (len _ (hpre q hq).1) (len _ (hpre q hq).2)⟩
abbrev checkT (ps : List (List Value)) (len i : Int) : List AV := st 105 ([.any, .op 0 0, iv 0, .mp 1] ++ List.replicate 26 .any ++ [.ps 2 ps, iv len, iv i])
abbrev checkE (ps : List (List Value)) (len i : Int) : List AV := st 105 ([.any, .op 0 0, iv 0] ++ List.replicate 27 .any ++ [.ps 2 ps, iv len, iv i])
abbrev checkS (ts : List (List Value)) (len i : Int) : List AV := st 105 ([.any, .op 0 0, iv 0] ++ List.replicate 43 .any ++ [.ps 3 ts, iv len, iv i])
abbrev checkH (ps ts : List (List Value)) : Heap := [some (.box false 34 [.ps 2 ps, .ps 3 ts])]
theorem check_points (N : Nat) (hN : 0 < N) (hN4 : N < 10000) (pts : List Pt) (ts : List (List Value)) (hl : pts.length ≤ 400) (hsm : ∀ p ∈ pts, smallP p) (hnd : pts.Nodup) :
    Goes Tryz.prog (loopAt Tryz.f22 0) (checkT (pts.map (ptR N)) pts.length 0) (wuH (pts.map (ptR N)) ts []) (.exit 1) (checkE (pts.map (ptR N)) pts.length pts.length) (checkH (pts.map (ptR N)) ts) := by
  have hloop : loopAt Tryz.f22 0 = .loop (bodyOf (loopAt Tryz.f22 0)) := by kernel_rfl
  rw [hloop]
  have key : ∀ (rest pre : List Pt), pts = pre ++ rest → Rounds Tryz.prog (bodyOf (loopAt Tryz.f22 0)) (rest.length + 1) (checkT (pts.map (ptR N)) pts.length pre.length) (wuH (pts.map (ptR N)) ts (pre.reverse.map (ptK N))) (.exit 1) (checkE (pts.map (ptR N)) pts.length pts.length) (checkH (pts.map (ptR N)) ts) := by
    intro rest
    induction rest with
    | nil =>
      intro pre hp
      have hp : pre = pts := by simpa using hp.symm
      subst hp
      exact ck_pend_out _ ts _ _ _ 0 ⟨by simp, trivial⟩
    | cons p rest ih =>
      intro pre hp
      have hlen : pts.length = pre.length + (rest.length + 1) := by rw [hp]; simp
      have hpm : p ∈ pts := by rw [hp]; simp
      have hps := hsm p hpm
      have hnp : p ∉ pre.reverse := by
        rw [hp] at hnd
        have := (List.nodup_append.1 hnd).2.2
        intro h
        exact this p (List.mem_reverse.1 h) p (by simp) rfl
      have hg : ((pts.map (ptR N)).map rowAV)[((pre.length : Nat) : Int).toNat]? = some (.agg (ptS N p)) := by
        rw [hp, Int.toNat_natCast, List.getElem?_map, List.getElem?_map, List.getElem?_append_right (Nat.le_refl _)]
        simp [ptR, rowAV, ptS]
      have hf := foundP hN hnp
      have hk := fitP (N := N) hN4 hps (pre := pre.reverse) (fun q hq => hsm q (by rw [hp]; simp [List.mem_reverse.1 hq]))
      have nxt := ih (pre ++ [p]) (by rw [hp]; simp)
      rw [show (pre ++ [p]).length = pre.length + 1 by simp, show (pre ++ [p]).reverse = p :: pre.reverse by simp, show ((pre.length + 1 : Nat) : Int) = (pre.length : Int) + 1 by push_cast; rfl] at nxt
      refine ck_pt_step _ ts (pre.reverse.map (ptK N)) (fT p.1 N) (fT p.2 N) pts.length pre.length _ ?_ nxt
      exact ⟨decide_eq_true (by omega), ⟨by omega, hg⟩, point_ok p.1 p.2 N N hN hN (by have := hps.1; omega) (by have := hps.2; omega) (by omega) (by omega), rfl, hf, hk, rfl, hf, hk, by rw [w64]; omega, trivial⟩
  exact Goes.loop (key pts [] rfl)
theorem check_tris (N : Nat) (hN : 0 < N) (hN4 : N < 10000) (pts : List Pt) (tris : List Tri) (hl : tris.length ≤ 800) (hsm : ∀ p ∈ pts, smallP p)
    (hin : ∀ t ∈ tris, (0 ≤ t.1 ∧ t.1.toNat < pts.length) ∧ (0 ≤ t.2.1 ∧ t.2.1.toNat < pts.length) ∧ (0 ≤ t.2.2 ∧ t.2.2.toNat < pts.length))
    (hdet : ∀ t ∈ tris, 0 < det (pts.getD t.1.toNat (0, 0)) (pts.getD t.2.1.toNat (0, 0)) (pts.getD t.2.2.toNat (0, 0))) :
    Goes Tryz.prog (loopAt Tryz.f22 1) (checkS (tris.map triR) tris.length 0) (checkH (pts.map (ptR N)) (tris.map triR)) (.exit 3) (checkS (tris.map triR) tris.length tris.length) (checkH (pts.map (ptR N)) (tris.map triR)) := by
  have hloop : loopAt Tryz.f22 1 = .loop (bodyOf (loopAt Tryz.f22 1)) := by kernel_rfl
  rw [hloop]
  have hgd : ∀ k : Int, k.toNat < pts.length → smallP (pts.getD k.toNat (0, 0)) := fun k hk => by
    simp only [List.getD, List.getElem?_eq_getElem hk, Option.getD_some]
    exact hsm _ (List.getElem_mem _)
  have key : ∀ (rest pre : List Tri), tris = pre ++ rest → Rounds Tryz.prog (bodyOf (loopAt Tryz.f22 1)) (rest.length + 1) (checkS (tris.map triR) tris.length pre.length) (checkH (pts.map (ptR N)) (tris.map triR)) (.exit 3) (checkS (tris.map triR) tris.length tris.length) (checkH (pts.map (ptR N)) (tris.map triR)) := by
    intro rest
    induction rest with
    | nil =>
      intro pre hp
      have hp : pre = tris := by simpa using hp.symm
      subst hp
      exact ck_tend_out _ _ _ _ 0 ⟨by simp, trivial⟩
    | cons t rest ih =>
      intro pre hp
      have hlen : tris.length = pre.length + (rest.length + 1) := by rw [hp]; simp
      have htm : t ∈ tris := by rw [hp]; simp
      obtain ⟨⟨a0, a1⟩, ⟨b0, b1⟩, ⟨c0, c1⟩⟩ := hin t htm
      have hd := hdet t htm
      have hg : ((tris.map triR).map rowAV)[((pre.length : Nat) : Int).toNat]? = some (.agg [iv t.1, iv t.2.1, iv t.2.2]) := by
        rw [hp, Int.toNat_natCast, List.getElem?_map, List.getElem?_map, List.getElem?_append_right (Nat.le_refl _)]
        simp [triR, rowAV]
      have ht := turn_ok N hN hN4 _ _ _ (hgd _ a1) (hgd _ b1) (hgd _ c1)
      have nxt := ih (pre ++ [t]) (by rw [hp]; simp)
      rw [show (pre ++ [t]).length = pre.length + 1 by simp] at nxt
      have lt : ∀ k : Int, 0 ≤ k → decide (k < 0) = false := fun k h => decide_eq_false (by omega)
      have ge : ∀ k : Int, 0 ≤ k → k.toNat < pts.length → decide (k ≥ (((pts.map (ptR N)).map rowAV).length : Int)) = false := fun k h h' => decide_eq_false (by simp; omega)
      have hs : decide ((det (pts.getD t.1.toNat (0, 0)) (pts.getD t.2.1.toNat (0, 0)) (pts.getD t.2.2.toNat (0, 0))).sign ≤ 0) = false := by
        rw [Int.sign_eq_one_of_pos hd]; rfl
      refine ck_tri_step _ _ t.1 t.2.1 t.2.2 (det (pts.getD t.1.toNat (0, 0)) (pts.getD t.2.1.toNat (0, 0)) (pts.getD t.2.2.toNat (0, 0))).sign (fT (pts.getD t.1.toNat (0, 0)).1 N) (fT (pts.getD t.1.toNat (0, 0)).2 N) (fT (pts.getD t.2.1.toNat (0, 0)).1 N) (fT (pts.getD t.2.1.toNat (0, 0)).2 N) (fT (pts.getD t.2.2.toNat (0, 0)).1 N) (fT (pts.getD t.2.2.toNat (0, 0)).2 N) tris.length pre.length _ ?_
        (Rounds.same (same_cast (Same.mask ([false, true, true] ++ List.replicate 43 false ++ [true, true, true])) (T1 := checkS (tris.map triR) tris.length (pre.length + 1)) (by kernel_rfl) rfl) (by simpa using nxt))
      repeat' first | exact AllP.nil | refine AllP.cons ?_ ?_
      all_goals first
        | exact lt _ a0 | exact lt _ b0 | exact lt _ c0 | exact ge _ a0 a1 | exact ge _ b0 b1 | exact ge _ c0 c1 | exact hs | exact ht
        | exact ⟨a0, ptR_get a0 a1⟩ | exact ⟨b0, ptR_get b0 b1⟩ | exact ⟨c0, ptR_get c0 c1⟩ | exact ⟨by omega, hg⟩ | rfl | decide | exact decide_eq_true (by omega) | (rw [w64]; omega)
  exact Goes.loop (key tris [] rfl)
end Go.Flow.Tryz
namespace Go.Flow.Tryz
open Go Go.Proofs Go.RowKit Go.Flow
set_option maxRecDepth 100000
abbrev meshAV (N : Nat) (pts : List Pt) (tris : List Tri) : AV := .agg [.ps 2 (pts.map (ptR N)), .ps 3 (tris.map triR)]
theorem mesh_check_ok (N : Nat) (hN : 0 < N) (hN4 : N < 10000) (pts : List Pt) (tris : List Tri) (hpl : pts.length ≤ 400) (htl : tris.length ≤ 800) (ht0 : tris ≠ []) (hsm : ∀ p ∈ pts, smallP p) (hnd : pts.Nodup)
    (hin : ∀ t ∈ tris, (0 ≤ t.1 ∧ t.1.toNat < pts.length) ∧ (0 ≤ t.2.1 ∧ t.2.1.toNat < pts.length) ∧ (0 ≤ t.2.2 ∧ t.2.2.toNat < pts.length))
    (hdet : ∀ t ∈ tris, 0 < det (pts.getD t.1.toNat (0, 0)) (pts.getD t.2.1.toNat (0, 0)) (pts.getD t.2.2.toNat (0, 0)))
    (hwh : CallsTo Tryz.prog 65 [meshAV N pts tris] (bv true)) :
    CallsTo Tryz.prog 22 [meshAV N pts tris] (iv 0) := by
  have hl1 : ((pts.map (ptR N)).map rowAV).length = pts.length := by simp
  have hl2 : ((tris.map triR).map rowAV).length = tris.length := by simp
  have hl3 : (pts.map (ptR N)).length = pts.length := by simp
  have hl4 : (tris.map triR).length = tris.length := by simp
  have hpos : 0 < tris.length := List.length_pos_iff.2 ht0
  have d1 : ((((tris.map triR).map rowAV).length : Int) == 0) = false := by rw [hl2]; simp only [beq_eq_false_iff_ne, ne_eq]; omega
  have d2 : decide ((((tris.map triR).map rowAV).length : Int) > 800) = false := by rw [hl2]; exact decide_eq_false (by omega)
  have d3 : decide ((((pts.map (ptR N)).map rowAV).length : Int) > 400) = false := by rw [hl1]; exact decide_eq_false (by omega)
  refine checkf_ok (pts.map (ptR N)) (tris.map triR) ⟨d1, d2, d2, d2, d2, d2, d3, ?_, ?_, hwh, rfl, trivial⟩
  · simp only [hl1, hl2, hl3, hl4]
    exact (same_cast (Same.mask ([false, true, true, true] ++ List.replicate 26 false ++ [true, true, true])) (T1 := checkT (pts.map (ptR N)) pts.length 0) (by kernel_rfl) rfl).goes (check_points N hN hN4 pts (tris.map triR) hpl hsm hnd)
  · simp only [hl1, hl2, hl3, hl4]
    exact (same_cast (Same.mask ([false, true, true] ++ List.replicate 43 false ++ [true, true, true])) (T1 := checkS (tris.map triR) tris.length 0) (by kernel_rfl) rfl).goes (check_tris N hN hN4 pts tris htl hsm hin hdet)
theorem hf_rows (rs : List (List Value)) : (rs.map rowAV).all (hf 9) = true := by
  rw [List.all_eq_true]
  intro x hx
  obtain ⟨r, _, rfl⟩ := List.mem_map.1 hx
  show (r.map AV.v).all (hf 8) = true
  rw [List.all_eq_true]
  intro y hy
  obtain ⟨v, _, rfl⟩ := List.mem_map.1 hy
  rfl
theorem tri_rows (tris : List Tri) : (tris.map triR).map rowAV = tris.map triAV := by
  rw [List.map_map]
  exact List.map_congr_left fun _ _ => rfl
theorem rep_mesh {E : Env} {a b : List (List Value)} {u : Value} (h : Rep E (.agg [.ps 2 a, .ps 3 b]) u) : Rep E (.agg [.lst 2 (a.map rowAV), .lst 3 (b.map rowAV)]) u := by
  obtain ⟨us, rfl, hl⟩ := h.inv_agg
  cases hl with
  | cons _ u0 _ us0 h0 hl =>
    cases hl with
    | cons _ u1 _ us1 h1 hl => exact .agg _ _ (.cons _ _ _ _ h0.inv_ps (.cons _ _ _ _ h1.inv_ps hl))
theorem owners_ps (N : Nat) (pts : List Pt) (tris : List Tri) (h4 : tris.length ≤ 4) (hin : ∀ t ∈ tris, triIn t) (hnd : (tris.reverse.flatMap sidesL).Nodup) :
    CallsTo Tryz.prog 83 [meshAV N pts tris] (.tup [.mv (encM (ownP 0 tris [])), bv true]) := by
  refine CallsTo.args (owners_ok (ps := (pts.map (ptR N)).map rowAV) (hf_rows _) tris h4 hin hnd) fun E us h => ?_
  cases h with
  | cons _ u0 _ us0 h0 hl =>
    have := rep_mesh h0
    rw [tri_rows] at this
    exact .cons _ _ _ _ this hl
theorem outer_ps (N : Nat) (pts : List Pt) (tris : List Tri) (m : PM) (hin : ∀ e ∈ m, inR e.1.1 ∧ inR e.1.2) {c0 : Int} {rest : List Int} (hnd : (c0 :: rest).Nodup) (hl : (c0 :: rest).length ≤ 1000) (hmin : ∀ x ∈ rest, c0 ≤ x)
    (hcyc : ((m.filter (isBorder m)).map (·.1)).Perm (chain (c0 :: rest) c0)) :
    CallsTo Tryz.prog 91 [meshAV N pts tris, .mv (encM m)] (.tup [.ls (cyV (c0 :: rest)), bv true]) := by
  have h := outer_ok ((pts.map (ptR N)).map rowAV) ((tris.map triR).map rowAV) m hin hnd hl hmin hcyc
  have h2 := CallsTo.args (ys' := [meshAV N pts tris, .mv (encM m)]) h fun E us hu => by
    cases hu with
    | cons _ u0 _ us0 h0 hl => exact .cons _ _ _ _ (rep_mesh h0) hl
  refine CallsTo.rep h2 fun E v hv => ?_
  obtain ⟨us, rfl, hl⟩ := hv.inv_tup
  cases hl with
  | cons _ u0 _ us0 h0 hl =>
    have e : ((c0 :: rest).map fun x => iv x) = (cyV (c0 :: rest)).map AV.v := by rw [List.map_map]; rfl
    rw [e] at h0
    exact .tup _ _ (.cons _ _ _ _ (.ls _ _ h0) hl)
structure Sheet (pts : List Pt) (tris : List Tri) (c0 : Int) (rest : List Int) : Prop where
  small : ∀ p ∈ pts, smallP p
  nodup : pts.Nodup
  pl : pts.length ≤ 400
  tl : tris.length ≤ 4
  t0 : tris ≠ []
  inn : ∀ t ∈ tris, (0 ≤ t.1 ∧ t.1.toNat < pts.length) ∧ (0 ≤ t.2.1 ∧ t.2.1.toNat < pts.length) ∧ (0 ≤ t.2.2 ∧ t.2.2.toNat < pts.length)
  pos : ∀ t ∈ tris, 0 < det (pts.getD t.1.toNat (0, 0)) (pts.getD t.2.1.toNat (0, 0)) (pts.getD t.2.2.toNat (0, 0))
  sides : (tris.reverse.flatMap sidesL).Nodup
  cyc : (((ownP 0 tris []).filter (isBorder (ownP 0 tris []))).map (·.1)).Perm (chain (c0 :: rest) c0)
  cnd : (c0 :: rest).Nodup
  cl : (c0 :: rest).length ≤ 400
  cmin : ∀ x ∈ rest, c0 ≤ x
  cin : ∀ x ∈ c0 :: rest, 0 ≤ x ∧ x.toNat < pts.length
  left : ∀ i < (c0 :: rest).length, 0 ≤ det (ptAt pts (c0 :: rest) i) (ptAt pts (c0 :: rest) (i + 1)) (ptAt pts (c0 :: rest) (i + 2))
  round : turnsUp pts (c0 :: rest) (c0 :: rest).length = 1
  used : (tris.foldl usedOne []).length = pts.length
theorem own_keys_in {tris : List Tri} (hin : ∀ t ∈ tris, triIn t) : ∀ e ∈ ownP 0 tris [], inR e.1.1 ∧ inR e.1.2 := by
  intro e he
  have : e.1 ∈ (ownP 0 tris []).map (·.1) := List.mem_map.2 ⟨e, he, rfl⟩
  rw [ownP_keys] at this
  simp only [List.map_nil, List.append_nil, List.mem_flatMap, List.mem_reverse] at this
  obtain ⟨u, hu, h⟩ := this
  obtain ⟨h1, h2, h3⟩ := hin u hu
  simp only [sidesL, List.mem_cons, List.not_mem_nil, or_false] at h
  rcases h with h | h | h <;> rw [h] <;> exact ⟨by assumption, by assumption⟩
variable {pts : List Pt} {tris : List Tri} {c0 : Int} {rest : List Int}
theorem Sheet.triIn (s : Sheet pts tris c0 rest) : ∀ t ∈ tris, triIn t := fun t ht => by
  obtain ⟨⟨a0, a1⟩, ⟨b0, b1⟩, ⟨c0, c1⟩⟩ := s.inn t ht
  have := s.pl
  exact ⟨⟨a0, by omega⟩, ⟨b0, by omega⟩, ⟨c0, by omega⟩⟩
theorem Sheet.owners (s : Sheet pts tris c0 rest) (N : Nat) : CallsTo Tryz.prog 83 [meshAV N pts tris] (.tup [.mv (encM (ownP 0 tris [])), bv true]) := owners_ps N pts tris s.tl s.triIn s.sides
theorem Sheet.outer (s : Sheet pts tris c0 rest) (N : Nat) : CallsTo Tryz.prog 91 [meshAV N pts tris, .mv (encM (ownP 0 tris []))] (.tup [.ls (cyV (c0 :: rest)), bv true]) :=
  outer_ps N pts tris _ (own_keys_in s.triIn) s.cnd (by have := s.cl; omega) s.cmin s.cyc
theorem Sheet.whole (s : Sheet pts tris c0 rest) {N : Nat} (hN : 0 < N) (hN4 : N < 10000) : CallsTo Tryz.prog 65 [meshAV N pts tris] (bv true) := by
  have h := mesh_once_ok N hN hN4 pts (tris.map triR) (c0 :: rest) (by simp) (by have := s.cl; omega) s.cin s.small s.left
  rw [s.round] at h
  exact mesh_whole_ok (pts.map (ptR N)) tris _ (cyV (c0 :: rest)) true s.triIn (by have := s.tl; omega) (s.owners N) (s.outer N) (by rw [s.used, List.length_map]) h
theorem Sheet.check (s : Sheet pts tris c0 rest) {N : Nat} (hN : 0 < N) (hN4 : N < 10000) : CallsTo Tryz.prog 22 [meshAV N pts tris] (iv 0) :=
  mesh_check_ok N hN hN4 pts tris s.pl (by have := s.tl; omega) s.t0 s.small s.nodup s.inn s.pos (s.whole hN hN4)
end Go.Flow.Tryz
namespace Go.Flow.Tryz
open Go Go.Proofs Go.RowKit Go.Flow
set_option maxRecDepth 100000
theorem ct_ok_ok (ps : List (List Value)) (ts : List (List Value)) (i : Int) (h : AllP
    [CallsTo Tryz.prog (22 : Nat) [AV.agg [AV.ps 2 ps, AV.ps 3 ts]] (iv 0),
     false = false,
     decide (i < (0 : Int)) = false,
     decide (i < (0 : Int)) = false,
     decide (i < (0 : Int)) = false,
     decide (i < (0 : Int)) = false,
     decide (i < (0 : Int)) = false,
     decide (i < (0 : Int)) = false,
     decide (i ≥ (↑(List.length (List.map rowAV ts)) : Int)) = false]) :
    CallsTo Tryz.prog 79 [AV.agg [AV.ps 2 ps, AV.ps 3 ts], iv (i)] (iv 0) :=
  fn_ok fits hmix Tryz.func79 (by kernel_rfl)
    [Orc.a (iv 0), Orc.b false, Orc.b false, Orc.b false, Orc.b false, Orc.b false, Orc.b false, Orc.b false, Orc.b false] (by kernel_rfl) h
theorem ct_neg_ok (ps : List (List Value)) (ts : List (List Value)) (i : Int) (h : AllP
    [CallsTo Tryz.prog (22 : Nat) [AV.agg [AV.ps 2 ps, AV.ps 3 ts]] (iv 0),
     false = false,
     decide (i < (0 : Int)) = true,
     decide (i < (0 : Int)) = true,
     decide (i < (0 : Int)) = true,
     decide (i < (0 : Int)) = true,
     decide (i < (0 : Int)) = true,
     decide (i < (0 : Int)) = true,
     true = true]) :
    CallsTo Tryz.prog 79 [AV.agg [AV.ps 2 ps, AV.ps 3 ts], iv (i)] (iv 3) :=
  fn_ok fits hmix Tryz.func79 (by kernel_rfl)
    [Orc.a (iv 0), Orc.b false, Orc.b true, Orc.b true, Orc.b true, Orc.b true, Orc.b true, Orc.b true, Orc.b true] (by kernel_rfl) h
theorem ct_big_ok (ps : List (List Value)) (ts : List (List Value)) (i : Int) (h : AllP
    [CallsTo Tryz.prog (22 : Nat) [AV.agg [AV.ps 2 ps, AV.ps 3 ts]] (iv 0),
     false = false,
     decide (i < (0 : Int)) = false,
     decide (i < (0 : Int)) = false,
     decide (i < (0 : Int)) = false,
     decide (i < (0 : Int)) = false,
     decide (i < (0 : Int)) = false,
     decide (i < (0 : Int)) = false,
     decide (i ≥ (↑(List.length (List.map rowAV ts)) : Int)) = true]) :
    CallsTo Tryz.prog 79 [AV.agg [AV.ps 2 ps, AV.ps 3 ts], iv (i)] (iv 3) :=
  fn_ok fits hmix Tryz.func79 (by kernel_rfl)
    [Orc.a (iv 0), Orc.b false, Orc.b false, Orc.b false, Orc.b false, Orc.b false, Orc.b false, Orc.b false, Orc.b true] (by kernel_rfl) h
theorem pcorn_ok (ps : List (List Value)) (ts : List (List Value)) (i : Int) (a : Int) (b : Int) (c : Int) (x1 : List UInt8) (y1 : List UInt8) (x2 : List UInt8) (y2 : List UInt8) (x3 : List UInt8) (y3 : List UInt8) (h : AllP
    [(0 : Int) ≤ i ∧ (List.map rowAV ts)[Int.toNat i]? = some (AV.agg [iv (a), iv (b), iv (c)]),
     (0 : Int) ≤ (0 : Int) ∧ (0 : Int) < (↑(3 : Nat) : Int),
     (0 : Int) ≤ a ∧ (List.map rowAV ps)[Int.toNat a]? = some (AV.agg [sv x1, sv y1]),
     (0 : Int) ≤ (1 : Int) ∧ (1 : Int) < (↑(3 : Nat) : Int),
     (0 : Int) ≤ b ∧ (List.map rowAV ps)[Int.toNat b]? = some (AV.agg [sv x2, sv y2]),
     (0 : Int) ≤ (2 : Int) ∧ (2 : Int) < (↑(3 : Nat) : Int),
     (0 : Int) ≤ c ∧ (List.map rowAV ps)[Int.toNat c]? = some (AV.agg [sv x3, sv y3])]) :
    CallsTo Tryz.prog 69 [AV.agg [AV.ps 2 ps, AV.ps 3 ts], iv (i)] (AV.agg [sv x1, sv y1, sv x2, sv y2, sv x3, sv y3]) :=
  fn_ok fits hmix Tryz.func69 (by kernel_rfl)
    [Orc.a (AV.agg [iv (a), iv (b), iv (c)]), Orc.a (AV.agg [sv x1, sv y1]), Orc.a (AV.agg [sv x2, sv y2]), Orc.a (AV.agg [sv x3, sv y3])] (by kernel_rfl) h
theorem lo_in0_step (ps : List (List Value)) (ts : List (List Value)) (x : List UInt8) (y : List UInt8) (c1 : List UInt8) (c2 : List UInt8) (c3 : List UInt8) (c4 : List UInt8) (c5 : List UInt8) (c6 : List UInt8) (len : Int) (i : Int) {ex : Ex} {T2 : List AV} {H2 : Heap} (m : Nat) (h : AllP
    [decide (i < len) = true,
     CallsTo Tryz.prog (69 : Nat) [AV.agg [AV.ps 2 ps, AV.ps 3 ts], iv (i)] (AV.agg [sv c1, sv c2, sv c3, sv c4, sv c5, sv c6]),
     CallsTo Tryz.prog (82 : Nat) [AV.agg [sv c1, sv c2, sv c3, sv c4, sv c5, sv c6], AV.agg [sv x, sv y]] (bv (true)),
     true = true,
     nat_lit 1 ≤ nat_lit 9223372036854775807 ∧ nat_lit 8 ≤ nat_lit 140737488355328,
     IntKind.wrap IntKind.i64 (i + (1 : Int)) = i + (1 : Int)])
    (h2 : Rounds Tryz.prog (bodyOf (loopAt Tryz.f31 (0 : Nat))) m (st 34 [AV.any, AV.any, AV.op 0 0, AV.op 1 0, AV.v (Value.slice none 0 0), iv 0, AV.any, AV.own 2, iv (i), AV.any, AV.any, AV.any, AV.any, AV.any, AV.any, AV.any, AV.any, AV.any, AV.ps 3 ts, iv (len), iv ((i + (1 : Int)))]) [some (AObj.box false 34 [AV.ps 2 ps, AV.ps 3 ts]), some (AObj.box false 24 [sv x, sv y]), some (AObj.row false 3 1 [iv (i)])] ex T2 H2) :
    Rounds Tryz.prog (bodyOf (loopAt Tryz.f31 (0 : Nat))) (m + 1) (st 34 [AV.any, AV.any, AV.op 0 0, AV.op 1 0, AV.v (Value.slice none 0 0), iv 0, AV.any, AV.v (Value.slice none 0 0), AV.any, AV.any, AV.any, AV.any, AV.any, AV.any, AV.any, AV.any, AV.any, AV.any, AV.ps 3 ts, iv (len), iv (i)]) [some (AObj.box false 34 [AV.ps 2 ps, AV.ps 3 ts]), some (AObj.box false 24 [sv x, sv y])] ex T2 H2 :=
  Rounds.step_of fits hmix [Orc.b true, Orc.a (AV.agg [sv c1, sv c2, sv c3, sv c4, sv c5, sv c6]), Orc.a (bv (true)), Orc.b true] (21 : Nat) [(0 : Nat), (1 : Nat), (3 : Nat)] (by kernel_rfl) h h2
theorem lo_no0_step (ps : List (List Value)) (ts : List (List Value)) (x : List UInt8) (y : List UInt8) (c1 : List UInt8) (c2 : List UInt8) (c3 : List UInt8) (c4 : List UInt8) (c5 : List UInt8) (c6 : List UInt8) (len : Int) (i : Int) {ex : Ex} {T2 : List AV} {H2 : Heap} (m : Nat) (h : AllP
    [decide (i < len) = true,
     CallsTo Tryz.prog (69 : Nat) [AV.agg [AV.ps 2 ps, AV.ps 3 ts], iv (i)] (AV.agg [sv c1, sv c2, sv c3, sv c4, sv c5, sv c6]),
     CallsTo Tryz.prog (82 : Nat) [AV.agg [sv c1, sv c2, sv c3, sv c4, sv c5, sv c6], AV.agg [sv x, sv y]] (bv (false)),
     false = false,
     IntKind.wrap IntKind.i64 (i + (1 : Int)) = i + (1 : Int)])
    (h2 : Rounds Tryz.prog (bodyOf (loopAt Tryz.f31 (0 : Nat))) m (st 34 [AV.any, AV.any, AV.op 0 0, AV.op 1 0, AV.v (Value.slice none 0 0), iv 0, AV.any, AV.v (Value.slice none 0 0), iv (i), AV.any, AV.any, AV.any, AV.any, AV.any, AV.any, AV.any, AV.any, AV.any, AV.ps 3 ts, iv (len), iv ((i + (1 : Int)))]) [some (AObj.box false 34 [AV.ps 2 ps, AV.ps 3 ts]), some (AObj.box false 24 [sv x, sv y])] ex T2 H2) :
    Rounds Tryz.prog (bodyOf (loopAt Tryz.f31 (0 : Nat))) (m + 1) (st 34 [AV.any, AV.any, AV.op 0 0, AV.op 1 0, AV.v (Value.slice none 0 0), iv 0, AV.any, AV.v (Value.slice none 0 0), AV.any, AV.any, AV.any, AV.any, AV.any, AV.any, AV.any, AV.any, AV.any, AV.any, AV.ps 3 ts, iv (len), iv (i)]) [some (AObj.box false 34 [AV.ps 2 ps, AV.ps 3 ts]), some (AObj.box false 24 [sv x, sv y])] ex T2 H2 :=
  Rounds.step_of fits hmix [Orc.b true, Orc.a (AV.agg [sv c1, sv c2, sv c3, sv c4, sv c5, sv c6]), Orc.a (bv (false)), Orc.b false] (21 : Nat) [(0 : Nat), (1 : Nat)] (by kernel_rfl) h h2
theorem lo_in_step (ps : List (List Value)) (ts : List (List Value)) (x : List UInt8) (y : List UInt8) (xs : List AV) (c1 : List UInt8) (c2 : List UInt8) (c3 : List UInt8) (c4 : List UInt8) (c5 : List UInt8) (c6 : List UInt8) (len : Int) (i : Int) {ex : Ex} {T2 : List AV} {H2 : Heap} (m : Nat) (h : AllP
    [decide (i < len) = true,
     CallsTo Tryz.prog (69 : Nat) [AV.agg [AV.ps 2 ps, AV.ps 3 ts], iv (i)] (AV.agg [sv c1, sv c2, sv c3, sv c4, sv c5, sv c6]),
     CallsTo Tryz.prog (82 : Nat) [AV.agg [sv c1, sv c2, sv c3, sv c4, sv c5, sv c6], AV.agg [sv x, sv y]] (bv (true)),
     true = true,
     List.length xs + nat_lit 1 ≤ nat_lit 9223372036854775807 ∧ (List.length xs + nat_lit 1) * nat_lit 8 ≤ nat_lit 140737488355328,
     IntKind.wrap IntKind.i64 (i + (1 : Int)) = i + (1 : Int)])
    (h2 : Rounds Tryz.prog (bodyOf (loopAt Tryz.f31 (0 : Nat))) m (st 34 [AV.any, AV.any, AV.op 0 0, AV.op 1 0, AV.v (Value.slice none 0 0), iv 0, AV.any, AV.own 2, iv (i), AV.any, AV.any, AV.any, AV.any, AV.any, AV.any, AV.any, AV.any, AV.any, AV.ps 3 ts, iv (len), iv ((i + (1 : Int)))]) [some (AObj.box false 34 [AV.ps 2 ps, AV.ps 3 ts]), some (AObj.box false 24 [sv x, sv y]), some (AObj.row false 3 1 (List.map (ren [(0 : Nat), (1 : Nat), (4 : Nat)] (9 : Nat)) (xs ++ [iv (i)])))] ex T2 H2) :
    Rounds Tryz.prog (bodyOf (loopAt Tryz.f31 (0 : Nat))) (m + 1) (st 34 [AV.any, AV.any, AV.op 0 0, AV.op 1 0, AV.v (Value.slice none 0 0), iv 0, AV.any, AV.own 2, AV.any, AV.any, AV.any, AV.any, AV.any, AV.any, AV.any, AV.any, AV.any, AV.any, AV.ps 3 ts, iv (len), iv (i)]) [some (AObj.box false 34 [AV.ps 2 ps, AV.ps 3 ts]), some (AObj.box false 24 [sv x, sv y]), some (AObj.row false 3 1 xs)] ex T2 H2 :=
  Rounds.step_of fits hmix [Orc.b true, Orc.a (AV.agg [sv c1, sv c2, sv c3, sv c4, sv c5, sv c6]), Orc.a (bv (true)), Orc.b true] (21 : Nat) [(0 : Nat), (1 : Nat), (4 : Nat)] (by kernel_rfl) h h2
theorem lo_no_step (ps : List (List Value)) (ts : List (List Value)) (x : List UInt8) (y : List UInt8) (xs : List AV) (c1 : List UInt8) (c2 : List UInt8) (c3 : List UInt8) (c4 : List UInt8) (c5 : List UInt8) (c6 : List UInt8) (len : Int) (i : Int) {ex : Ex} {T2 : List AV} {H2 : Heap} (m : Nat) (h : AllP
    [decide (i < len) = true,
     CallsTo Tryz.prog (69 : Nat) [AV.agg [AV.ps 2 ps, AV.ps 3 ts], iv (i)] (AV.agg [sv c1, sv c2, sv c3, sv c4, sv c5, sv c6]),
     CallsTo Tryz.prog (82 : Nat) [AV.agg [sv c1, sv c2, sv c3, sv c4, sv c5, sv c6], AV.agg [sv x, sv y]] (bv (false)),
     false = false,
     IntKind.wrap IntKind.i64 (i + (1 : Int)) = i + (1 : Int)])
    (h2 : Rounds Tryz.prog (bodyOf (loopAt Tryz.f31 (0 : Nat))) m (st 34 [AV.any, AV.any, AV.op 0 0, AV.op 1 0, AV.v (Value.slice none 0 0), iv 0, AV.any, AV.own 2, iv (i), AV.any, AV.any, AV.any, AV.any, AV.any, AV.any, AV.any, AV.any, AV.any, AV.ps 3 ts, iv (len), iv ((i + (1 : Int)))]) [some (AObj.box false 34 [AV.ps 2 ps, AV.ps 3 ts]), some (AObj.box false 24 [sv x, sv y]), some (AObj.row false 3 1 (List.map (ren [(0 : Nat), (1 : Nat), (2 : Nat)] (9 : Nat)) xs))] ex T2 H2) :
    Rounds Tryz.prog (bodyOf (loopAt Tryz.f31 (0 : Nat))) (m + 1) (st 34 [AV.any, AV.any, AV.op 0 0, AV.op 1 0, AV.v (Value.slice none 0 0), iv 0, AV.any, AV.own 2, AV.any, AV.any, AV.any, AV.any, AV.any, AV.any, AV.any, AV.any, AV.any, AV.any, AV.ps 3 ts, iv (len), iv (i)]) [some (AObj.box false 34 [AV.ps 2 ps, AV.ps 3 ts]), some (AObj.box false 24 [sv x, sv y]), some (AObj.row false 3 1 xs)] ex T2 H2 :=
  Rounds.step_of fits hmix [Orc.b true, Orc.a (AV.agg [sv c1, sv c2, sv c3, sv c4, sv c5, sv c6]), Orc.a (bv (false)), Orc.b false] (21 : Nat) [(0 : Nat), (1 : Nat), (2 : Nat)] (by kernel_rfl) h h2
theorem lo_end0_out (ps : List (List Value)) (ts : List (List Value)) (x : List UInt8) (y : List UInt8) (len : Int) (i : Int) (m : Nat) (h : AllP
    [decide (i < len) = false]) :
    Rounds Tryz.prog (bodyOf (loopAt Tryz.f31 (0 : Nat))) (m + 1) (st 34 [AV.any, AV.any, AV.op 0 0, AV.op 1 0, AV.v (Value.slice none 0 0), iv 0, AV.any, AV.v (Value.slice none 0 0), AV.any, AV.any, AV.any, AV.any, AV.any, AV.any, AV.any, AV.any, AV.any, AV.any, AV.ps 3 ts, iv (len), iv (i)]) [some (AObj.box false 34 [AV.ps 2 ps, AV.ps 3 ts]), some (AObj.box false 24 [sv x, sv y])] (Ex.exit (0 : Nat)) (st 34 [AV.any, AV.any, AV.op 0 0, AV.op 1 0, AV.v (Value.slice none 0 0), iv 0, AV.any, AV.v (Value.slice none 0 0), AV.any, AV.any, AV.any, AV.any, AV.any, AV.any, AV.any, AV.any, AV.any, AV.any, AV.ps 3 ts, iv (len), iv (i)]) [some (AObj.box false 34 [AV.ps 2 ps, AV.ps 3 ts]), some (AObj.box false 24 [sv x, sv y])] :=
  Rounds.out_of fits hmix [Orc.b false] (21 : Nat) [(0 : Nat), (1 : Nat)] m (by simp) (by kernel_rfl) h
theorem lo_end_out (ps : List (List Value)) (ts : List (List Value)) (x : List UInt8) (y : List UInt8) (xs : List AV) (len : Int) (i : Int) (m : Nat) (h : AllP
    [decide (i < len) = false]) :
    Rounds Tryz.prog (bodyOf (loopAt Tryz.f31 (0 : Nat))) (m + 1) (st 34 [AV.any, AV.any, AV.op 0 0, AV.op 1 0, AV.v (Value.slice none 0 0), iv 0, AV.any, AV.own 2, AV.any, AV.any, AV.any, AV.any, AV.any, AV.any, AV.any, AV.any, AV.any, AV.any, AV.ps 3 ts, iv (len), iv (i)]) [some (AObj.box false 34 [AV.ps 2 ps, AV.ps 3 ts]), some (AObj.box false 24 [sv x, sv y]), some (AObj.row false 3 1 xs)] (Ex.exit (0 : Nat)) (st 34 [AV.any, AV.any, AV.op 0 0, AV.op 1 0, AV.v (Value.slice none 0 0), iv 0, AV.any, AV.own 2, AV.any, AV.any, AV.any, AV.any, AV.any, AV.any, AV.any, AV.any, AV.any, AV.any, AV.ps 3 ts, iv (len), iv (i)]) [some (AObj.box false 34 [AV.ps 2 ps, AV.ps 3 ts]), some (AObj.box false 24 [sv x, sv y]), some (AObj.row false 3 1 (List.map (ren [(0 : Nat), (1 : Nat), (2 : Nat)] (9 : Nat)) xs))] :=
  Rounds.out_of fits hmix [Orc.b false] (21 : Nat) [(0 : Nat), (1 : Nat), (2 : Nat)] m (by simp) (by kernel_rfl) h
theorem loc_none_ok (ps : List (List Value)) (ts : List (List Value)) (x : List UInt8) (y : List UInt8) (h : AllP
    [CallsTo Tryz.prog (22 : Nat) [AV.agg [AV.ps 2 ps, AV.ps 3 ts]] (iv 0),
     false = false,
     CallsTo Tryz.prog (56 : Nat) [AV.agg [sv x, sv y]] (iv 0),
     false = false,
     Goes Tryz.prog (loopAt Tryz.f31 (0 : Nat)) (st 34 [AV.agg [AV.ps 2 ps, AV.ps 3 ts], AV.agg [sv x, sv y], AV.op 0 0, AV.op 1 0, AV.v (Value.slice none 0 0), iv 0, iv 0, AV.v (Value.slice none 0 0), uu, AV.agg [AV.ps 2 ps, AV.ps 3 ts], iv 0, iv 0, bv (false), uu, AV.agg [sv x, sv y], iv 0, bv (false), AV.op 0 1, AV.ps 3 ts, iv ((↑(List.length (List.map rowAV ts)) : Int)), iv 0]) [some (AObj.box false 34 [AV.ps 2 ps, AV.ps 3 ts]), some (AObj.box false 24 [sv x, sv y])] (Ex.exit (0 : Nat)) (st 34 [AV.any, AV.any, AV.op 0 0, AV.op 1 0, AV.v (Value.slice none 0 0), iv 0, AV.any, AV.v (Value.slice none 0 0), AV.any, AV.any, AV.any, AV.any, AV.any, AV.any, AV.any, AV.any, AV.any, AV.any, AV.ps 3 ts, iv ((↑(List.length ts) : Int)), iv ((↑(List.length ts) : Int))]) [some (AObj.box false 34 [AV.ps 2 ps, AV.ps 3 ts]), some (AObj.box false 24 [sv x, sv y])]]) :
    CallsTo Tryz.prog 31 [AV.agg [AV.ps 2 ps, AV.ps 3 ts], AV.agg [sv x, sv y]] (AV.tup [AV.v (Value.slice none 0 0), iv 0]) :=
  fn_ok fits hmix Tryz.func31 (by kernel_rfl)
    [Orc.a (iv 0), Orc.b false, Orc.a (iv 0), Orc.b false, .s (21 : Nat) (Ex.exit (0 : Nat)) (st 34 [AV.any, AV.any, AV.op 0 0, AV.op 1 0, AV.v (Value.slice none 0 0), iv 0, AV.any, AV.v (Value.slice none 0 0), AV.any, AV.any, AV.any, AV.any, AV.any, AV.any, AV.any, AV.any, AV.any, AV.any, AV.ps 3 ts, iv ((↑(List.length ts) : Int)), iv ((↑(List.length ts) : Int))]) [some (AObj.box false 34 [AV.ps 2 ps, AV.ps 3 ts]), some (AObj.box false 24 [sv x, sv y])]] (by kernel_rfl) h
theorem loc_some_ok (ps : List (List Value)) (ts : List (List Value)) (us : List Value) (x : List UInt8) (y : List UInt8) (h : AllP
    [CallsTo Tryz.prog (22 : Nat) [AV.agg [AV.ps 2 ps, AV.ps 3 ts]] (iv 0),
     false = false,
     CallsTo Tryz.prog (56 : Nat) [AV.agg [sv x, sv y]] (iv 0),
     false = false,
     Goes Tryz.prog (loopAt Tryz.f31 (0 : Nat)) (st 34 [AV.agg [AV.ps 2 ps, AV.ps 3 ts], AV.agg [sv x, sv y], AV.op 0 0, AV.op 1 0, AV.v (Value.slice none 0 0), iv 0, iv 0, AV.v (Value.slice none 0 0), uu, AV.agg [AV.ps 2 ps, AV.ps 3 ts], iv 0, iv 0, bv (false), uu, AV.agg [sv x, sv y], iv 0, bv (false), AV.op 0 1, AV.ps 3 ts, iv ((↑(List.length (List.map rowAV ts)) : Int)), iv 0]) [some (AObj.box false 34 [AV.ps 2 ps, AV.ps 3 ts]), some (AObj.box false 24 [sv x, sv y])] (Ex.exit (0 : Nat)) (st 34 [AV.any, AV.any, AV.op 0 0, AV.op 1 0, AV.v (Value.slice none 0 0), iv 0, AV.any, AV.own 2, AV.any, AV.any, AV.any, AV.any, AV.any, AV.any, AV.any, AV.any, AV.any, AV.any, AV.ps 3 ts, iv ((↑(List.length ts) : Int)), iv ((↑(List.length ts) : Int))]) [some (AObj.box false 34 [AV.ps 2 ps, AV.ps 3 ts]), some (AObj.box false 24 [sv x, sv y]), some (AObj.vrow false (3 : Nat) us)]]) :
    CallsTo Tryz.prog 31 [AV.agg [AV.ps 2 ps, AV.ps 3 ts], AV.agg [sv x, sv y]] (AV.tup [AV.ls us, iv 0]) :=
  fn_ok fits hmix Tryz.func31 (by kernel_rfl)
    [Orc.a (iv 0), Orc.b false, Orc.a (iv 0), Orc.b false, .s (21 : Nat) (Ex.exit (0 : Nat)) (st 34 [AV.any, AV.any, AV.op 0 0, AV.op 1 0, AV.v (Value.slice none 0 0), iv 0, AV.any, AV.own 2, AV.any, AV.any, AV.any, AV.any, AV.any, AV.any, AV.any, AV.any, AV.any, AV.any, AV.ps 3 ts, iv ((↑(List.length ts) : Int)), iv ((↑(List.length ts) : Int))]) [some (AObj.box false 34 [AV.ps 2 ps, AV.ps 3 ts]), some (AObj.box false 24 [sv x, sv y]), some (AObj.vrow false (3 : Nat) us)]] (by kernel_rfl) h
theorem loc_bad_ok (ps : List (List Value)) (ts : List (List Value)) (x : List UInt8) (y : List UInt8) (h : AllP
    [CallsTo Tryz.prog (22 : Nat) [AV.agg [AV.ps 2 ps, AV.ps 3 ts]] (iv 0),
     false = false,
     CallsTo Tryz.prog (56 : Nat) [AV.agg [sv x, sv y]] (iv 2),
     true = true]) :
    CallsTo Tryz.prog 31 [AV.agg [AV.ps 2 ps, AV.ps 3 ts], AV.agg [sv x, sv y]] (AV.tup [AV.v (Value.slice none 0 0), iv 2]) :=
  fn_ok fits hmix Tryz.func31 (by kernel_rfl)
    [Orc.a (iv 0), Orc.b false, Orc.a (iv 2), Orc.b true] (by kernel_rfl) h
theorem con_some_ok (ps : List (List Value)) (ts : List (List Value)) (us : List Value) (x : List UInt8) (y : List UInt8) (e : Int) (h : AllP
    [CallsTo Tryz.prog (31 : Nat) [AV.agg [AV.ps 2 ps, AV.ps 3 ts], AV.agg [sv x, sv y]] (AV.tup [AV.ls us, iv (e)])]) :
    CallsTo Tryz.prog 30 [AV.agg [AV.ps 2 ps, AV.ps 3 ts], AV.agg [sv x, sv y]] (AV.tup [bv ((decide ((↑(List.length (List.map AV.v us)) : Int) > (0 : Int)))), iv (e)]) :=
  fn_ok fits hmix Tryz.func30 (by kernel_rfl)
    [Orc.a (AV.tup [AV.ls us, iv (e)])] (by kernel_rfl) h
theorem con_none_ok (ps : List (List Value)) (ts : List (List Value)) (x : List UInt8) (y : List UInt8) (e : Int) (h : AllP
    [CallsTo Tryz.prog (31 : Nat) [AV.agg [AV.ps 2 ps, AV.ps 3 ts], AV.agg [sv x, sv y]] (AV.tup [AV.v (Value.slice none 0 0), iv (e)])]) :
    CallsTo Tryz.prog 30 [AV.agg [AV.ps 2 ps, AV.ps 3 ts], AV.agg [sv x, sv y]] (AV.tup [bv (false), iv (e)]) :=
  fn_ok fits hmix Tryz.func30 (by kernel_rfl)
    [Orc.a (AV.tup [AV.v (Value.slice none 0 0), iv (e)])] (by kernel_rfl) h
end Go.Flow.Tryz
namespace Go.Flow.Tryz
open Go Go.Proofs Go.RowKit Go.Flow
set_option maxRecDepth 100000
variable {pts : List Pt} {tris : List Tri} {c0 : Int} {rest : List Int}
def corA (pts : List Pt) (tris : List Tri) (i : Nat) : Pt := pts.getD (tris.getD i (0, 0, 0)).1.toNat (0, 0)
def corB (pts : List Pt) (tris : List Tri) (i : Nat) : Pt := pts.getD (tris.getD i (0, 0, 0)).2.1.toNat (0, 0)
def corC (pts : List Pt) (tris : List Tri) (i : Nat) : Pt := pts.getD (tris.getD i (0, 0, 0)).2.2.toNat (0, 0)
def hit (pts : List Pt) (tris : List Tri) (p : Pt) (i : Nat) : Bool := insideB (corA pts tris i) (corB pts tris i) (corC pts tris i) p
def hits (pts : List Pt) (tris : List Tri) (p : Pt) : Nat → List Int
  | 0 => []
  | i + 1 => if hit pts tris p i then hits pts tris p i ++ [(i : Int)] else hits pts tris p i
theorem hits_length (pts : List Pt) (tris : List Tri) (p : Pt) : ∀ n, (hits pts tris p n).length ≤ n
  | 0 => Nat.le_refl _
  | n + 1 => by
    have := hits_length pts tris p n
    simp only [hits]
    split <;> simp <;> omega
theorem Sheet.small_get (s : Sheet pts tris c0 rest) {k : Nat} (hk : k < pts.length) : smallP (pts.getD k (0, 0)) := by
  simp only [List.getD, List.getElem?_eq_getElem hk, Option.getD_some]
  exact s.small _ (List.getElem_mem _)
theorem Sheet.corner_small (s : Sheet pts tris c0 rest) {i : Nat} (hi : i < tris.length) : smallP (corA pts tris i) ∧ smallP (corB pts tris i) ∧ smallP (corC pts tris i) := by
  have e : tris.getD i (0, 0, 0) = tris[i] := by simp [List.getD, List.getElem?_eq_getElem hi]
  obtain ⟨⟨_, h1⟩, ⟨_, h2⟩, ⟨_, h3⟩⟩ := s.inn _ (List.getElem_mem hi)
  unfold corA corB corC
  rw [e]
  exact ⟨s.small_get h1, s.small_get h2, s.small_get h3⟩
theorem Sheet.corners (s : Sheet pts tris c0 rest) (N : Nat) {i : Nat} (hi : i < tris.length) :
    CallsTo Tryz.prog 69 [meshAV N pts tris, iv i] (.agg (ptS N (corA pts tris i) ++ ptS N (corB pts tris i) ++ ptS N (corC pts tris i))) := by
  have e : tris.getD i (0, 0, 0) = tris[i] := by simp [List.getD, List.getElem?_eq_getElem hi]
  obtain ⟨⟨a0, a1⟩, ⟨b0, b1⟩, ⟨c0, c1⟩⟩ := s.inn _ (List.getElem_mem hi)
  unfold corA corB corC
  rw [e]
  refine pcorn_ok _ _ i tris[i].1 tris[i].2.1 tris[i].2.2 _ _ _ _ _ _ ⟨⟨by omega, ?_⟩, by decide, ⟨a0, ptR_get a0 a1⟩, by decide, ⟨b0, ptR_get b0 b1⟩, by decide, ⟨c0, ptR_get c0 c1⟩, trivial⟩
  rw [Int.toNat_natCast, List.getElem?_map, List.getElem?_map, List.getElem?_eq_getElem hi]
  rfl
abbrev locT (o : AV) (ts : List (List Value)) (len i : Int) : List AV := st 34 ([.any, .any, .op 0 0, .op 1 0, .v (.slice none 0 0), iv 0, .any, o] ++ List.replicate 10 .any ++ [.ps 3 ts, iv len, iv i])
abbrev locH (ps ts : List (List Value)) (x y : List UInt8) : Heap := [some (.box false 34 [.ps 2 ps, .ps 3 ts]), some (.box false 24 [sv x, sv y])]
def outV (o : List Int) : AV := if o = [] then .v (.slice none 0 0) else .own 2
def outH (o : List Int) : Heap := if o = [] then [] else [some (.row false 3 1 (o.map fun x => iv x))]
abbrev locM : List Bool := [false, false, true, true, true, true, false, true] ++ List.replicate 10 false ++ [true, true, true]
theorem outV_cons {o : List Int} (h : o ≠ []) : outV o = .own 2 := if_neg h
theorem outH_cons {o : List Int} (h : o ≠ []) : outH o = [some (.row false 3 1 (o.map fun x => iv x))] := if_neg h
theorem Sheet.loc_loop (s : Sheet pts tris c0 rest) {N : Nat} (hN : 0 < N) (hN4 : N < 10000) (p : Pt) (hp : smallP p) :
    Goes Tryz.prog (loopAt Tryz.f31 0) (locT (.v (.slice none 0 0)) (tris.map triR) tris.length 0) (locH (pts.map (ptR N)) (tris.map triR) (fT p.1 N) (fT p.2 N)) (.exit 0)
      (locT (outV (hits pts tris p tris.length)) (tris.map triR) tris.length tris.length) (locH (pts.map (ptR N)) (tris.map triR) (fT p.1 N) (fT p.2 N) ++ outH (hits pts tris p tris.length)) := by
  have hloop : loopAt Tryz.f31 0 = .loop (bodyOf (loopAt Tryz.f31 0)) := by kernel_rfl
  rw [hloop]
  have key : ∀ (m i : Nat), i + m = tris.length → Rounds Tryz.prog (bodyOf (loopAt Tryz.f31 0)) (m + 1) (locT (outV (hits pts tris p i)) (tris.map triR) tris.length i) (locH (pts.map (ptR N)) (tris.map triR) (fT p.1 N) (fT p.2 N) ++ outH (hits pts tris p i)) (.exit 0)
      (locT (outV (hits pts tris p tris.length)) (tris.map triR) tris.length tris.length) (locH (pts.map (ptR N)) (tris.map triR) (fT p.1 N) (fT p.2 N) ++ outH (hits pts tris p tris.length)) := by
    intro m
    induction m with
    | zero =>
      intro i hi
      have hi : i = tris.length := by omega
      subst hi
      by_cases h : hits pts tris p tris.length = []
      · rw [h]
        exact lo_end0_out _ _ _ _ _ _ 0 ⟨by simp, trivial⟩
      · rw [outV_cons h, outH_cons h]
        have := lo_end_out (pts.map (ptR N)) (tris.map triR) (fT p.1 N) (fT p.2 N) ((hits pts tris p tris.length).map fun x => iv x) tris.length tris.length 0 ⟨by simp, trivial⟩
        rw [ren_ivs] at this
        exact this
    | succ m ih =>
      intro i hi
      have hil : i < tris.length := by omega
      have hc := s.corners N hil
      obtain ⟨sa, sb, sc⟩ := s.corner_small hil
      have hin := inside_ok N hN hN4 _ _ _ p sa sb sc hp
      have w1 : IntKind.i64.wrap ((i : Int) + 1) = (i : Int) + 1 := by have := s.tl; rw [w64]; omega
      have hlt : decide ((i : Int) < tris.length) = true := decide_eq_true (by omega)
      have hlen := hits_length pts tris p i
      have nxt := ih (i + 1) (by omega)
      rw [show ((i + 1 : Nat) : Int) = (i : Int) + 1 by push_cast; rfl] at nxt
      simp only [hits] at nxt
      cases hh : hit pts tris p i with
      | true =>
        have hin : CallsTo _ _ _ (bv (hit pts tris p i)) := hin
        rw [hh] at hin nxt
        simp only [if_true] at nxt
        rw [outV_cons (by simp), outH_cons (by simp)] at nxt
        by_cases h : hits pts tris p i = []
        · rw [h] at nxt ⊢
          refine lo_in0_step _ _ _ _ _ _ _ _ _ _ tris.length i _ ⟨hlt, hc, hin, rfl, by decide, w1, trivial⟩ (Rounds.same (same_cast (Same.mask locM) (T1 := locT (.own 2) (tris.map triR) tris.length (i + 1)) (by kernel_rfl) rfl) nxt)
        · rw [outV_cons h, outH_cons h]
          refine lo_in_step _ _ _ _ ((hits pts tris p i).map fun x => iv x) _ _ _ _ _ _ tris.length i _ ⟨hlt, hc, hin, rfl, ?_, w1, trivial⟩ (by
            rw [show ((hits pts tris p i).map fun x => iv x) ++ [iv (i : Int)] = (hits pts tris p i ++ [(i : Int)]).map fun x => iv x by simp, ren_ivs]
            exact Rounds.same (same_cast (Same.mask locM) (T1 := locT (.own 2) (tris.map triR) tris.length (i + 1)) (by kernel_rfl) rfl) nxt)
          have := s.tl
          simp only [List.length_map]
          constructor
          · show (hits pts tris p i).length + 1 ≤ 9223372036854775807; omega
          · show ((hits pts tris p i).length + 1) * 8 ≤ 140737488355328; omega
      | false =>
        have hin : CallsTo _ _ _ (bv (hit pts tris p i)) := hin
        rw [hh] at hin nxt
        simp only [Bool.false_eq_true, if_false] at nxt
        by_cases h : hits pts tris p i = []
        · rw [h] at nxt ⊢
          exact lo_no0_step _ _ _ _ _ _ _ _ _ _ tris.length i _ ⟨hlt, hc, hin, rfl, w1, trivial⟩ (Rounds.same (same_cast (Same.mask locM) (T1 := locT (.v (.slice none 0 0)) (tris.map triR) tris.length (i + 1)) (by kernel_rfl) rfl) nxt)
        · rw [outV_cons h, outH_cons h] at nxt ⊢
          refine lo_no_step _ _ _ _ ((hits pts tris p i).map fun x => iv x) _ _ _ _ _ _ tris.length i _ ⟨hlt, hc, hin, rfl, w1, trivial⟩ (by
            rw [ren_ivs]
            exact Rounds.same (same_cast (Same.mask locM) (T1 := locT (.own 2) (tris.map triR) tris.length (i + 1)) (by kernel_rfl) rfl) nxt)
  exact Goes.loop (key tris.length 0 (by omega))
def locR (o : List Int) : AV := if o = [] then .v (.slice none 0 0) else .ls (cyV o)
theorem Sheet.locate (s : Sheet pts tris c0 rest) {N : Nat} (hN : 0 < N) (hN4 : N < 10000) (p : Pt) (hp : smallP p) :
    CallsTo Tryz.prog 31 [meshAV N pts tris, .agg (ptS N p)] (.tup [locR (hits pts tris p tris.length), iv 0]) := by
  have hck := s.check hN hN4
  have hpt := point_ok p.1 p.2 N N hN hN (by have := hp.1; omega) (by have := hp.2; omega) (by omega) (by omega)
  have hl := s.loc_loop hN hN4 p hp
  have hl2 : ((tris.map triR).map rowAV).length = tris.length := by simp
  have hl4 : (tris.map triR).length = tris.length := by simp
  by_cases h : hits pts tris p tris.length = []
  · rw [h] at hl ⊢
    refine loc_none_ok (pts.map (ptR N)) (tris.map triR) (fT p.1 N) (fT p.2 N) ⟨hck, rfl, hpt, rfl, ?_, trivial⟩
    simp only [hl2, hl4]
    exact (same_cast (Same.mask locM) (T1 := locT (.v (.slice none 0 0)) (tris.map triR) tris.length 0) (by kernel_rfl) rfl).goes hl
  · unfold locR
    rw [if_neg h]
    rw [outV_cons h, outH_cons h] at hl
    refine loc_some_ok (pts.map (ptR N)) (tris.map triR) (cyV (hits pts tris p tris.length)) (fT p.1 N) (fT p.2 N) ⟨hck, rfl, hpt, rfl, ?_, trivial⟩
    simp only [hl2, hl4]
    refine (same_cast (Same.mask locM) (T1 := locT (.v (.slice none 0 0)) (tris.map triR) tris.length 0) (by kernel_rfl) rfl).goes (Goes.same hl ?_)
    have e : ((hits pts tris p tris.length).map fun x => iv x) = (cyV (hits pts tris p tris.length)).map AV.v := by rw [List.map_map]; rfl
    rw [e]
    exact Same.vrow 2 rfl
theorem Sheet.contains (s : Sheet pts tris c0 rest) {N : Nat} (hN : 0 < N) (hN4 : N < 10000) (p : Pt) (hp : smallP p) :
    CallsTo Tryz.prog 30 [meshAV N pts tris, .agg (ptS N p)] (.tup [bv (decide (hits pts tris p tris.length ≠ [])), iv 0]) := by
  have hl := s.locate hN hN4 p hp
  by_cases h : hits pts tris p tris.length = []
  · rw [h] at hl ⊢
    exact con_none_ok _ _ _ _ _ ⟨hl, trivial⟩
  · unfold locR at hl
    rw [if_neg h] at hl
    have := con_some_ok (pts.map (ptR N)) (tris.map triR) (cyV (hits pts tris p tris.length)) (fT p.1 N) (fT p.2 N) 0 ⟨hl, trivial⟩
    rw [decide_eq_true h]
    rwa [decide_eq_true (show (((cyV (hits pts tris p tris.length)).map AV.v).length : Int) > 0 by have := List.length_pos_iff.2 h; simp <;> omega)] at this
theorem Sheet.locate_bad (s : Sheet pts tris c0 rest) {N : Nat} (hN : 0 < N) (hN4 : N < 10000) (x y : List UInt8) (h : CallsTo Tryz.prog 56 [.agg [sv x, sv y]] (iv 2)) :
    CallsTo Tryz.prog 31 [meshAV N pts tris, .agg [sv x, sv y]] (.tup [.v (.slice none 0 0), iv 2]) := by
  refine loc_bad_ok (pts.map (ptR N)) (tris.map triR) x y ?_
  have hck := s.check hN hN4
  repeat' first | exact AllP.nil | refine AllP.cons ?_ ?_
  all_goals first | exact hck | exact h | rfl
theorem Sheet.contains_bad (s : Sheet pts tris c0 rest) {N : Nat} (hN : 0 < N) (hN4 : N < 10000) (x y : List UInt8) (h : CallsTo Tryz.prog 56 [.agg [sv x, sv y]] (iv 2)) :
    CallsTo Tryz.prog 30 [meshAV N pts tris, .agg [sv x, sv y]] (.tup [bv false, iv 2]) :=
  con_none_ok _ _ _ _ _ ⟨s.locate_bad hN hN4 x y h, trivial⟩
end Go.Flow.Tryz
namespace Go.Flow.Tryz
open Go Go.Proofs Go.RowKit Go.Flow
set_option maxRecDepth 100000
theorem right_ok (x : List UInt8) (h : AllP
    [CallsTo Tryz.prog (13 : Nat) [sv x] (iv 0),
     false = false]) :
    CallsTo Tryz.prog 81 [sv x] (AV.tup [sv x, iv 0]) :=
  fn_ok fits hmix Tryz.func81 (by kernel_rfl)
    [Orc.a (iv 0), Orc.b false] (by kernel_rfl) h
theorem shares_ok (ps : List (List Value)) (ts : List (List Value)) (i : Int) (x : List UInt8) (y : List UInt8) (c1 : List UInt8) (c2 : List UInt8) (c3 : List UInt8) (c4 : List UInt8) (c5 : List UInt8) (c6 : List UInt8) (a1 : List UInt8) (a2 : List UInt8) (a3 : List UInt8) (d : List UInt8) (w1 : List UInt8) (w2 : List UInt8) (w3 : List UInt8) (h : AllP
    [CallsTo Tryz.prog (79 : Nat) [AV.agg [AV.ps 2 ps, AV.ps 3 ts], iv (i)] (iv 0),
     false = false,
     CallsTo Tryz.prog (56 : Nat) [AV.agg [sv x, sv y]] (iv 0),
     false = false,
     CallsTo Tryz.prog (69 : Nat) [AV.agg [AV.ps 2 ps, AV.ps 3 ts], iv (i)] (AV.agg [sv c1, sv c2, sv c3, sv c4, sv c5, sv c6]),
     true = true,
     IntKind.wrap IntKind.i64 ((0 : Int) + (1 : Int)) = (0 : Int) + (1 : Int),
     (3 : Int) ≠ (0 : Int),
     (0 : Int) ≤ Int.tmod ((0 : Int) + (1 : Int)) (3 : Int) ∧ Int.tmod ((0 : Int) + (1 : Int)) (3 : Int) < (↑(3 : Nat) : Int),
     IntKind.wrap IntKind.i64 ((0 : Int) + (2 : Int)) = (0 : Int) + (2 : Int),
     (3 : Int) ≠ (0 : Int),
     (0 : Int) ≤ Int.tmod ((0 : Int) + (2 : Int)) (3 : Int) ∧ Int.tmod ((0 : Int) + (2 : Int)) (3 : Int) < (↑(3 : Nat) : Int),
     CallsTo Tryz.prog (80 : Nat) [AV.agg [sv x, sv y], AV.agg [sv c3, sv c4], AV.agg [sv c5, sv c6]] (sv a1),
     (0 : Int) ≤ (0 : Int) ∧ (0 : Int) < (↑(3 : Nat) : Int),
     (0 : Int) ≤ (1 : Int) ∧ (1 : Int) < (↑(3 : Nat) : Int),
     (0 : Int) ≤ (2 : Int) ∧ (2 : Int) < (↑(3 : Nat) : Int),
     CallsTo Tryz.prog (80 : Nat) [AV.agg [sv c1, sv c2], AV.agg [sv c3, sv c4], AV.agg [sv c5, sv c6]] (sv d),
     CallsTo Tryz.prog (76 : Nat) [sv a1, sv d] (AV.tup [sv w1, iv 0]),
     (0 : Int) ≤ (0 : Int) ∧ (0 : Int) < (↑(3 : Nat) : Int),
     (0 : Int) ≤ (0 : Int) ∧ (0 : Int) < (↑(3 : Nat) : Int),
     CallsTo Tryz.prog (81 : Nat) [sv w1] (AV.tup [sv w1, iv 0]),
     false = false,
     IntKind.wrap IntKind.i64 ((0 : Int) + (1 : Int)) = (0 : Int) + (1 : Int),
     true = true,
     IntKind.wrap IntKind.i64 ((0 : Int) + (1 : Int) + (1 : Int)) = (0 : Int) + (1 : Int) + (1 : Int),
     (3 : Int) ≠ (0 : Int),
     (0 : Int) ≤ Int.tmod ((0 : Int) + (1 : Int) + (1 : Int)) (3 : Int) ∧ Int.tmod ((0 : Int) + (1 : Int) + (1 : Int)) (3 : Int) < (↑(3 : Nat) : Int),
     IntKind.wrap IntKind.i64 ((0 : Int) + (1 : Int) + (2 : Int)) = (0 : Int) + (1 : Int) + (2 : Int),
     (3 : Int) ≠ (0 : Int),
     (0 : Int) ≤ Int.tmod ((0 : Int) + (1 : Int) + (2 : Int)) (3 : Int) ∧ Int.tmod ((0 : Int) + (1 : Int) + (2 : Int)) (3 : Int) < (↑(3 : Nat) : Int),
     CallsTo Tryz.prog (80 : Nat) [AV.agg [sv x, sv y], AV.agg [sv c5, sv c6], AV.agg [sv c1, sv c2]] (sv a2),
     (0 : Int) ≤ (0 : Int) ∧ (0 : Int) < (↑(3 : Nat) : Int),
     (0 : Int) ≤ (1 : Int) ∧ (1 : Int) < (↑(3 : Nat) : Int),
     (0 : Int) ≤ (2 : Int) ∧ (2 : Int) < (↑(3 : Nat) : Int),
     CallsTo Tryz.prog (80 : Nat) [AV.agg [sv c1, sv c2], AV.agg [sv c3, sv c4], AV.agg [sv c5, sv c6]] (sv d),
     CallsTo Tryz.prog (76 : Nat) [sv a2, sv d] (AV.tup [sv w2, iv 0]),
     (0 : Int) ≤ (0 : Int) + (1 : Int) ∧ (0 : Int) + (1 : Int) < (↑(3 : Nat) : Int),
     (0 : Int) ≤ (0 : Int) + (1 : Int) ∧ (0 : Int) + (1 : Int) < (↑(3 : Nat) : Int),
     CallsTo Tryz.prog (81 : Nat) [sv w2] (AV.tup [sv w2, iv 0]),
     false = false,
     IntKind.wrap IntKind.i64 ((0 : Int) + (1 : Int) + (1 : Int)) = (0 : Int) + (1 : Int) + (1 : Int),
     true = true,
     IntKind.wrap IntKind.i64 ((0 : Int) + (1 : Int) + (1 : Int) + (1 : Int)) = (0 : Int) + (1 : Int) + (1 : Int) + (1 : Int),
     (3 : Int) ≠ (0 : Int),
     (0 : Int) ≤ Int.tmod ((0 : Int) + (1 : Int) + (1 : Int) + (1 : Int)) (3 : Int) ∧ Int.tmod ((0 : Int) + (1 : Int) + (1 : Int) + (1 : Int)) (3 : Int) < (↑(3 : Nat) : Int),
     IntKind.wrap IntKind.i64 ((0 : Int) + (1 : Int) + (1 : Int) + (2 : Int)) = (0 : Int) + (1 : Int) + (1 : Int) + (2 : Int),
     (3 : Int) ≠ (0 : Int),
     (0 : Int) ≤ Int.tmod ((0 : Int) + (1 : Int) + (1 : Int) + (2 : Int)) (3 : Int) ∧ Int.tmod ((0 : Int) + (1 : Int) + (1 : Int) + (2 : Int)) (3 : Int) < (↑(3 : Nat) : Int),
     CallsTo Tryz.prog (80 : Nat) [AV.agg [sv x, sv y], AV.agg [sv c1, sv c2], AV.agg [sv c3, sv c4]] (sv a3),
     (0 : Int) ≤ (0 : Int) ∧ (0 : Int) < (↑(3 : Nat) : Int),
     (0 : Int) ≤ (1 : Int) ∧ (1 : Int) < (↑(3 : Nat) : Int),
     (0 : Int) ≤ (2 : Int) ∧ (2 : Int) < (↑(3 : Nat) : Int),
     CallsTo Tryz.prog (80 : Nat) [AV.agg [sv c1, sv c2], AV.agg [sv c3, sv c4], AV.agg [sv c5, sv c6]] (sv d),
     CallsTo Tryz.prog (76 : Nat) [sv a3, sv d] (AV.tup [sv w3, iv 0]),
     (0 : Int) ≤ (0 : Int) + (1 : Int) + (1 : Int) ∧ (0 : Int) + (1 : Int) + (1 : Int) < (↑(3 : Nat) : Int),
     (0 : Int) ≤ (0 : Int) + (1 : Int) + (1 : Int) ∧ (0 : Int) + (1 : Int) + (1 : Int) < (↑(3 : Nat) : Int),
     CallsTo Tryz.prog (81 : Nat) [sv w3] (AV.tup [sv w3, iv 0]),
     false = false,
     IntKind.wrap IntKind.i64 ((0 : Int) + (1 : Int) + (1 : Int) + (1 : Int)) = (0 : Int) + (1 : Int) + (1 : Int) + (1 : Int),
     false = false]) :
    CallsTo Tryz.prog 28 [AV.agg [AV.ps 2 ps, AV.ps 3 ts], iv (i), AV.agg [sv x, sv y]] (AV.tup [AV.agg [sv w1, sv w2, sv w3], iv 0]) :=
  fn_ok fits hmix Tryz.func28 (by kernel_rfl)
    [Orc.a (iv 0), Orc.b false, Orc.a (iv 0), Orc.b false, Orc.a (AV.agg [sv c1, sv c2, sv c3, sv c4, sv c5, sv c6]), Orc.u (4 : Nat), Orc.b true, Orc.a (sv a1), Orc.a (sv d), Orc.a (AV.tup [sv w1, iv 0]), Orc.a (AV.tup [sv w1, iv 0]), Orc.b false, Orc.b true, Orc.a (sv a2), Orc.a (sv d), Orc.a (AV.tup [sv w2, iv 0]), Orc.a (AV.tup [sv w2, iv 0]), Orc.b false, Orc.b true, Orc.a (sv a3), Orc.a (sv d), Orc.a (AV.tup [sv w3, iv 0]), Orc.a (AV.tup [sv w3, iv 0]), Orc.b false, Orc.b false] (by kernel_rfl) h
theorem shares_bad_ok (ps : List (List Value)) (ts : List (List Value)) (i : Int) (x : List UInt8) (y : List UInt8) (h : AllP
    [CallsTo Tryz.prog (79 : Nat) [AV.agg [AV.ps 2 ps, AV.ps 3 ts], iv (i)] (iv 0),
     false = false,
     CallsTo Tryz.prog (56 : Nat) [AV.agg [sv x, sv y]] (iv 2),
     true = true]) :
    CallsTo Tryz.prog 28 [AV.agg [AV.ps 2 ps, AV.ps 3 ts], iv (i), AV.agg [sv x, sv y]] (AV.tup [AV.agg [strv ({ data := #[] }), strv ({ data := #[] }), strv ({ data := #[] })], iv 2]) :=
  fn_ok fits hmix Tryz.func28 (by kernel_rfl)
    [Orc.a (iv 0), Orc.b false, Orc.a (iv 2), Orc.b true] (by kernel_rfl) h
theorem shares_range_ok (ps : List (List Value)) (ts : List (List Value)) (i : Int) (x : List UInt8) (y : List UInt8) (h : AllP
    [CallsTo Tryz.prog (79 : Nat) [AV.agg [AV.ps 2 ps, AV.ps 3 ts], iv (i)] (iv 3),
     true = true]) :
    CallsTo Tryz.prog 28 [AV.agg [AV.ps 2 ps, AV.ps 3 ts], iv (i), AV.agg [sv x, sv y]] (AV.tup [AV.agg [strv ({ data := #[] }), strv ({ data := #[] }), strv ({ data := #[] })], iv 3]) :=
  fn_ok fits hmix Tryz.func28 (by kernel_rfl)
    [Orc.a (iv 3), Orc.b true] (by kernel_rfl) h
end Go.Flow.Tryz
namespace Go.Flow.Tryz
open Go Go.Proofs Go.RowKit Go.Flow
set_option maxRecDepth 100000
variable {pts : List Pt} {tris : List Tri} {c0 : Int} {rest : List Int}
theorem Sheet.triangle_ok (s : Sheet pts tris c0 rest) {N : Nat} (hN : 0 < N) (hN4 : N < 10000) {i : Nat} (hi : i < tris.length) : CallsTo Tryz.prog 79 [meshAV N pts tris, iv i] (iv 0) := by
  have hck := s.check hN hN4
  have d1 : decide ((i : Int) < 0) = false := decide_eq_false (by omega)
  have d2 : decide ((i : Int) ≥ (((tris.map triR).map rowAV).length : Int)) = false := decide_eq_false (by simp <;> omega)
  refine ct_ok_ok (pts.map (ptR N)) (tris.map triR) i ?_
  repeat' first | exact AllP.nil | refine AllP.cons ?_ ?_
  all_goals first | exact hck | exact d1 | exact d2 | rfl
theorem Sheet.triangle_bad (s : Sheet pts tris c0 rest) {N : Nat} (hN : 0 < N) (hN4 : N < 10000) {i : Int} (hi : i < 0 ∨ (tris.length : Int) ≤ i) : CallsTo Tryz.prog 79 [meshAV N pts tris, iv i] (iv 3) := by
  have hck := s.check hN hN4
  by_cases h : i < 0
  · have d1 : decide (i < 0) = true := decide_eq_true h
    refine ct_neg_ok (pts.map (ptR N)) (tris.map triR) i ?_
    repeat' first | exact AllP.nil | refine AllP.cons ?_ ?_
    all_goals first | exact hck | exact d1 | rfl
  · have d1 : decide (i < 0) = false := decide_eq_false h
    have d2 : decide (i ≥ (((tris.map triR).map rowAV).length : Int)) = true := decide_eq_true (by simp <;> omega)
    refine ct_big_ok (pts.map (ptR N)) (tris.map triR) i ?_
    repeat' first | exact AllP.nil | refine AllP.cons ?_ ?_
    all_goals first | exact hck | exact d1 | exact d2 | rfl
theorem det_small {a b c : Pt} (ha : smallP a) (hb : smallP b) (hc : smallP c) : (det a b c).natAbs < 800000000 := by
  obtain ⟨a1, a2⟩ := ha
  obtain ⟨b1, b2⟩ := hb
  obtain ⟨c1, c2⟩ := hc
  have m1 := mul_small (a := b.1 - a.1) (b := c.2 - a.2) (by omega) (by omega)
  have m2 := mul_small (a := b.2 - a.2) (b := c.1 - a.1) (by omega) (by omega)
  unfold det
  omega
theorem share_div (N : Nat) (hN : 0 < N) (hN4 : N < 10000) (k D : Int) (hk : k.natAbs < 800000000) (hD : 0 < D) (hD9 : D.natAbs < 800000000) :
    CallsTo Tryz.prog 76 [sv (fT k (N * N)), sv (fT D (N * N))] (.tup [sv (fT k D.toNat), iv 0]) := by
  have hNN : N * N < 100000000 := Nat.mul_lt_mul'' hN4 hN4
  have hNN0 : 0 < N * N := Nat.mul_pos hN hN
  have h := div_ok k D (N * N) (N * N) hNN0 hNN0 (by omega) (by omega) (by omega) (by omega) (by omega)
  have e1 : D.natAbs = D.toNat := by omega
  rw [Int.sign_eq_one_of_pos hD, Int.mul_one, e1, Nat.mul_comm (N * N) D.toNat, fT_mul _ _ _ hNN0] at h
  exact h
theorem right_fT (k : Int) (n : Nat) (hn : 0 < n) (hk : k.natAbs < 10 ^ 9) (hn9 : n < 10 ^ 9) : CallsTo Tryz.prog 81 [sv (fT k n)] (.tup [sv (fT k n), iv 0]) :=
  right_ok _ ⟨rcheck_ok k n hn hk hn9, rfl, trivial⟩
theorem Sheet.corner_pos (s : Sheet pts tris c0 rest) {i : Nat} (hi : i < tris.length) : 0 < det (corA pts tris i) (corB pts tris i) (corC pts tris i) := by
  have e : tris.getD i (0, 0, 0) = tris[i] := by simp [List.getD, List.getElem?_eq_getElem hi]
  unfold corA corB corC
  rw [e]
  exact s.pos _ (List.getElem_mem hi)
theorem Sheet.shares (s : Sheet pts tris c0 rest) {N : Nat} (hN : 0 < N) (hN4 : N < 10000) (p : Pt) (hp : smallP p) {i : Nat} (hi : i < tris.length) :
    CallsTo Tryz.prog 28 [meshAV N pts tris, iv i, .agg (ptS N p)]
      (.tup [.agg [sv (fT (det p (corB pts tris i) (corC pts tris i)) (det (corA pts tris i) (corB pts tris i) (corC pts tris i)).toNat), sv (fT (det p (corC pts tris i) (corA pts tris i)) (det (corA pts tris i) (corB pts tris i) (corC pts tris i)).toNat), sv (fT (det p (corA pts tris i) (corB pts tris i)) (det (corA pts tris i) (corB pts tris i) (corC pts tris i)).toNat)], iv 0]) := by
  obtain ⟨sa, sb, sc⟩ := s.corner_small hi
  have hD := s.corner_pos hi
  have bD := det_small sa sb sc
  have b1 := det_small hp sb sc
  have b2 := det_small hp sc sa
  have b3 := det_small hp sa sb
  have hck := s.triangle_ok hN hN4 hi
  have hpt := point_ok p.1 p.2 N N hN hN (by have := hp.1; omega) (by have := hp.2; omega) (by omega) (by omega)
  have hc := s.corners N hi
  have aD := area_ok N hN hN4 _ _ _ sa sb sc
  have a1 := area_ok N hN hN4 _ _ _ hp sb sc
  have a2 := area_ok N hN hN4 _ _ _ hp sc sa
  have a3 := area_ok N hN hN4 _ _ _ hp sa sb
  have q1 := share_div N hN hN4 _ _ b1 hD bD
  have q2 := share_div N hN hN4 _ _ b2 hD bD
  have q3 := share_div N hN hN4 _ _ b3 hD bD
  have r1 := right_fT (det p (corB pts tris i) (corC pts tris i)) (det (corA pts tris i) (corB pts tris i) (corC pts tris i)).toNat (by omega) (by omega) (by omega)
  have r2 := right_fT (det p (corC pts tris i) (corA pts tris i)) (det (corA pts tris i) (corB pts tris i) (corC pts tris i)).toNat (by omega) (by omega) (by omega)
  have r3 := right_fT (det p (corA pts tris i) (corB pts tris i)) (det (corA pts tris i) (corB pts tris i) (corC pts tris i)).toNat (by omega) (by omega) (by omega)
  refine shares_ok (pts.map (ptR N)) (tris.map triR) i (fT p.1 N) (fT p.2 N) (fT (corA pts tris i).1 N) (fT (corA pts tris i).2 N) (fT (corB pts tris i).1 N) (fT (corB pts tris i).2 N) (fT (corC pts tris i).1 N) (fT (corC pts tris i).2 N)
    (fT (det p (corB pts tris i) (corC pts tris i)) (N * N)) (fT (det p (corC pts tris i) (corA pts tris i)) (N * N)) (fT (det p (corA pts tris i) (corB pts tris i)) (N * N)) (fT (det (corA pts tris i) (corB pts tris i) (corC pts tris i)) (N * N)) _ _ _ ?_
  repeat' first | exact AllP.nil | refine AllP.cons ?_ ?_
  all_goals first | exact hck | exact hpt | exact hc | exact aD | exact a1 | exact a2 | exact a3 | exact q1 | exact q2 | exact q3 | exact r1 | exact r2 | exact r3 | rfl | decide
theorem Sheet.shares_bad (s : Sheet pts tris c0 rest) {N : Nat} (hN : 0 < N) (hN4 : N < 10000) (x y : List UInt8) (h : CallsTo Tryz.prog 56 [.agg [sv x, sv y]] (iv 2)) {i : Nat} (hi : i < tris.length) :
    CallsTo Tryz.prog 28 [meshAV N pts tris, iv i, .agg [sv x, sv y]] (.tup [.agg [sv [], sv [], sv []], iv 2]) :=
  shares_bad_ok (pts.map (ptR N)) (tris.map triR) i x y ⟨s.triangle_ok hN hN4 hi, rfl, h, rfl, trivial⟩
theorem Sheet.shares_range (s : Sheet pts tris c0 rest) {N : Nat} (hN : 0 < N) (hN4 : N < 10000) (x y : List UInt8) {i : Int} (hi : i < 0 ∨ (tris.length : Int) ≤ i) :
    CallsTo Tryz.prog 28 [meshAV N pts tris, iv i, .agg [sv x, sv y]] (.tup [.agg [sv [], sv [], sv []], iv 3]) :=
  shares_range_ok (pts.map (ptR N)) (tris.map triR) i x y ⟨s.triangle_bad hN hN4 hi, rfl, trivial⟩
end Go.Flow.Tryz
namespace Go.Flow.Tryz
open Go Go.Proofs Go.RowKit Go.Flow
set_option maxRecDepth 100000
theorem wi_out0_out (lo : List UInt8) (hi : List UInt8) (c1 : List UInt8) (c2 : List UInt8) (c3 : List UInt8) (c4 : List UInt8) (c5 : List UInt8) (c6 : List UInt8) (a : List UInt8) (a' : List UInt8) (b : List UInt8) (b' : List UInt8) (u : List UInt8) (v : List UInt8) (d : List UInt8) (s : Int) (m : Nat) (h : AllP
    [true = true,
     (0 : Int) ≤ (0 : Int) ∧ (0 : Int) < (↑(3 : Nat) : Int),
     IntKind.wrap IntKind.i64 ((0 : Int) + (1 : Int)) = (0 : Int) + (1 : Int),
     (3 : Int) ≠ (0 : Int),
     (0 : Int) ≤ Int.tmod ((0 : Int) + (1 : Int)) (3 : Int) ∧ Int.tmod ((0 : Int) + (1 : Int)) (3 : Int) < (↑(3 : Nat) : Int),
     CallsTo Tryz.prog (80 : Nat) [AV.agg [sv c1, sv c2], AV.agg [sv c3, sv c4], AV.agg [sv a, strv ((bstr (a')))]] (sv u),
     (0 : Int) ≤ (0 : Int) ∧ (0 : Int) < (↑(3 : Nat) : Int),
     IntKind.wrap IntKind.i64 ((0 : Int) + (1 : Int)) = (0 : Int) + (1 : Int),
     (3 : Int) ≠ (0 : Int),
     (0 : Int) ≤ Int.tmod ((0 : Int) + (1 : Int)) (3 : Int) ∧ Int.tmod ((0 : Int) + (1 : Int)) (3 : Int) < (↑(3 : Nat) : Int),
     CallsTo Tryz.prog (80 : Nat) [AV.agg [sv c1, sv c2], AV.agg [sv c3, sv c4], AV.agg [sv b, strv ((bstr (b')))]] (sv v),
     CallsTo Tryz.prog (20 : Nat) [sv u, sv v] (sv d),
     CallsTo Tryz.prog (76 : Nat) [sv u, sv d] (AV.tup [strv ((bstr ([]))), iv 17]),
     true = true,
     CallsTo Tryz.prog (75 : Nat) [sv u] (iv (s)),
     decide (s < (0 : Int)) = true]) :
    Rounds Tryz.prog (bodyOf (loopAt Tryz.f68 (0 : Nat))) (m + 1) (st 69 [AV.any, AV.any, AV.any, AV.op 0 0, AV.op 1 0, AV.op 2 0, sv lo, sv hi, bv (false), AV.any, AV.any, AV.any, AV.any, AV.any, iv 0]) [some (AObj.box false 57 [sv c1, sv c2, sv c3, sv c4, sv c5, sv c6]), some (AObj.box false 24 [sv a, strv ((bstr (a')))]), some (AObj.box false 24 [sv b, strv ((bstr (b')))])] (Ex.ret) (st 69 [AV.any, AV.any, AV.any, AV.op 0 0, AV.op 1 0, AV.op 2 0, strv ({ data := #[] }), strv ({ data := #[] }), bv (false), iv 0, sv u, sv v, strv ((bstr ([]))), iv 17, iv 0]) [some (AObj.box false 57 [sv c1, sv c2, sv c3, sv c4, sv c5, sv c6]), some (AObj.box false 24 [sv a, strv ((bstr (a')))]), some (AObj.box false 24 [sv b, strv ((bstr (b')))])] :=
  Rounds.out_of fits hmix [Orc.b true, Orc.a (sv u), Orc.a (sv v), Orc.a (sv d), Orc.a (AV.tup [strv ((bstr ([]))), iv 17]), Orc.b true, Orc.a (iv (s)), Orc.b true] (15 : Nat) [(0 : Nat), (1 : Nat), (2 : Nat)] m (by simp) (by kernel_rfl) h
theorem wi_par0_step (lo : List UInt8) (hi : List UInt8) (c1 : List UInt8) (c2 : List UInt8) (c3 : List UInt8) (c4 : List UInt8) (c5 : List UInt8) (c6 : List UInt8) (a : List UInt8) (a' : List UInt8) (b : List UInt8) (b' : List UInt8) (u : List UInt8) (v : List UInt8) (d : List UInt8) (s : Int) {ex : Ex} {T2 : List AV} {H2 : Heap} (m : Nat) (h : AllP
    [true = true,
     (0 : Int) ≤ (0 : Int) ∧ (0 : Int) < (↑(3 : Nat) : Int),
     IntKind.wrap IntKind.i64 ((0 : Int) + (1 : Int)) = (0 : Int) + (1 : Int),
     (3 : Int) ≠ (0 : Int),
     (0 : Int) ≤ Int.tmod ((0 : Int) + (1 : Int)) (3 : Int) ∧ Int.tmod ((0 : Int) + (1 : Int)) (3 : Int) < (↑(3 : Nat) : Int),
     CallsTo Tryz.prog (80 : Nat) [AV.agg [sv c1, sv c2], AV.agg [sv c3, sv c4], AV.agg [sv a, strv ((bstr (a')))]] (sv u),
     (0 : Int) ≤ (0 : Int) ∧ (0 : Int) < (↑(3 : Nat) : Int),
     IntKind.wrap IntKind.i64 ((0 : Int) + (1 : Int)) = (0 : Int) + (1 : Int),
     (3 : Int) ≠ (0 : Int),
     (0 : Int) ≤ Int.tmod ((0 : Int) + (1 : Int)) (3 : Int) ∧ Int.tmod ((0 : Int) + (1 : Int)) (3 : Int) < (↑(3 : Nat) : Int),
     CallsTo Tryz.prog (80 : Nat) [AV.agg [sv c1, sv c2], AV.agg [sv c3, sv c4], AV.agg [sv b, strv ((bstr (b')))]] (sv v),
     CallsTo Tryz.prog (20 : Nat) [sv u, sv v] (sv d),
     CallsTo Tryz.prog (76 : Nat) [sv u, sv d] (AV.tup [strv ((bstr ([]))), iv 17]),
     true = true,
     CallsTo Tryz.prog (75 : Nat) [sv u] (iv (s)),
     decide (s < (0 : Int)) = false,
     IntKind.wrap IntKind.i64 ((0 : Int) + (1 : Int)) = (0 : Int) + (1 : Int)])
    (h2 : Rounds Tryz.prog (bodyOf (loopAt Tryz.f68 (0 : Nat))) m (st 69 [AV.any, AV.any, AV.any, AV.op 0 0, AV.op 1 0, AV.op 2 0, sv lo, sv hi, bv (false), iv 0, sv u, sv v, strv ((bstr ([]))), iv 17, iv (((0 : Int) + (1 : Int)))]) [some (AObj.box false 57 [sv c1, sv c2, sv c3, sv c4, sv c5, sv c6]), some (AObj.box false 24 [sv a, strv ((bstr (a')))]), some (AObj.box false 24 [sv b, strv ((bstr (b')))])] ex T2 H2) :
    Rounds Tryz.prog (bodyOf (loopAt Tryz.f68 (0 : Nat))) (m + 1) (st 69 [AV.any, AV.any, AV.any, AV.op 0 0, AV.op 1 0, AV.op 2 0, sv lo, sv hi, bv (false), AV.any, AV.any, AV.any, AV.any, AV.any, iv 0]) [some (AObj.box false 57 [sv c1, sv c2, sv c3, sv c4, sv c5, sv c6]), some (AObj.box false 24 [sv a, strv ((bstr (a')))]), some (AObj.box false 24 [sv b, strv ((bstr (b')))])] ex T2 H2 :=
  Rounds.step_of fits hmix [Orc.b true, Orc.a (sv u), Orc.a (sv v), Orc.a (sv d), Orc.a (AV.tup [strv ((bstr ([]))), iv 17]), Orc.b true, Orc.a (iv (s)), Orc.b false] (15 : Nat) [(0 : Nat), (1 : Nat), (2 : Nat)] (by kernel_rfl) h h2
theorem wi_lo0_step (lo : List UInt8) (hi : List UInt8) (c1 : List UInt8) (c2 : List UInt8) (c3 : List UInt8) (c4 : List UInt8) (c5 : List UInt8) (c6 : List UInt8) (a : List UInt8) (a' : List UInt8) (b : List UInt8) (b' : List UInt8) (u : List UInt8) (v : List UInt8) (d : List UInt8) (s : List UInt8) (r : List UInt8) (c : Int) {ex : Ex} {T2 : List AV} {H2 : Heap} (m : Nat) (h : AllP
    [true = true,
     (0 : Int) ≤ (0 : Int) ∧ (0 : Int) < (↑(3 : Nat) : Int),
     IntKind.wrap IntKind.i64 ((0 : Int) + (1 : Int)) = (0 : Int) + (1 : Int),
     (3 : Int) ≠ (0 : Int),
     (0 : Int) ≤ Int.tmod ((0 : Int) + (1 : Int)) (3 : Int) ∧ Int.tmod ((0 : Int) + (1 : Int)) (3 : Int) < (↑(3 : Nat) : Int),
     CallsTo Tryz.prog (80 : Nat) [AV.agg [sv c1, sv c2], AV.agg [sv c3, sv c4], AV.agg [sv a, strv ((bstr (a')))]] (sv u),
     (0 : Int) ≤ (0 : Int) ∧ (0 : Int) < (↑(3 : Nat) : Int),
     IntKind.wrap IntKind.i64 ((0 : Int) + (1 : Int)) = (0 : Int) + (1 : Int),
     (3 : Int) ≠ (0 : Int),
     (0 : Int) ≤ Int.tmod ((0 : Int) + (1 : Int)) (3 : Int) ∧ Int.tmod ((0 : Int) + (1 : Int)) (3 : Int) < (↑(3 : Nat) : Int),
     CallsTo Tryz.prog (80 : Nat) [AV.agg [sv c1, sv c2], AV.agg [sv c3, sv c4], AV.agg [sv b, strv ((bstr (b')))]] (sv v),
     CallsTo Tryz.prog (20 : Nat) [sv u, sv v] (sv d),
     CallsTo Tryz.prog (76 : Nat) [sv u, sv d] (AV.tup [sv s, iv 0]),
     false = false,
     CallsTo Tryz.prog (14 : Nat) [sv u, sv v] (iv (c)),
     decide (c < (0 : Int)) = true,
     CallsTo Tryz.prog (77 : Nat) [sv lo, sv s] (sv r),
     IntKind.wrap IntKind.i64 ((0 : Int) + (1 : Int)) = (0 : Int) + (1 : Int)])
    (h2 : Rounds Tryz.prog (bodyOf (loopAt Tryz.f68 (0 : Nat))) m (st 69 [AV.any, AV.any, AV.any, AV.op 0 0, AV.op 1 0, AV.op 2 0, sv r, sv hi, bv (false), iv 0, sv u, sv v, sv s, iv 0, iv (((0 : Int) + (1 : Int)))]) [some (AObj.box false 57 [sv c1, sv c2, sv c3, sv c4, sv c5, sv c6]), some (AObj.box false 24 [sv a, strv ((bstr (a')))]), some (AObj.box false 24 [sv b, strv ((bstr (b')))])] ex T2 H2) :
    Rounds Tryz.prog (bodyOf (loopAt Tryz.f68 (0 : Nat))) (m + 1) (st 69 [AV.any, AV.any, AV.any, AV.op 0 0, AV.op 1 0, AV.op 2 0, sv lo, sv hi, bv (false), AV.any, AV.any, AV.any, AV.any, AV.any, iv 0]) [some (AObj.box false 57 [sv c1, sv c2, sv c3, sv c4, sv c5, sv c6]), some (AObj.box false 24 [sv a, strv ((bstr (a')))]), some (AObj.box false 24 [sv b, strv ((bstr (b')))])] ex T2 H2 :=
  Rounds.step_of fits hmix [Orc.b true, Orc.a (sv u), Orc.a (sv v), Orc.a (sv d), Orc.a (AV.tup [sv s, iv 0]), Orc.b false, Orc.a (iv (c)), Orc.b true, Orc.a (sv r)] (15 : Nat) [(0 : Nat), (1 : Nat), (2 : Nat)] (by kernel_rfl) h h2
theorem wi_hi0_step (lo : List UInt8) (hi : List UInt8) (c1 : List UInt8) (c2 : List UInt8) (c3 : List UInt8) (c4 : List UInt8) (c5 : List UInt8) (c6 : List UInt8) (a : List UInt8) (a' : List UInt8) (b : List UInt8) (b' : List UInt8) (u : List UInt8) (v : List UInt8) (d : List UInt8) (s : List UInt8) (r : List UInt8) (c : Int) {ex : Ex} {T2 : List AV} {H2 : Heap} (m : Nat) (h : AllP
    [true = true,
     (0 : Int) ≤ (0 : Int) ∧ (0 : Int) < (↑(3 : Nat) : Int),
     IntKind.wrap IntKind.i64 ((0 : Int) + (1 : Int)) = (0 : Int) + (1 : Int),
     (3 : Int) ≠ (0 : Int),
     (0 : Int) ≤ Int.tmod ((0 : Int) + (1 : Int)) (3 : Int) ∧ Int.tmod ((0 : Int) + (1 : Int)) (3 : Int) < (↑(3 : Nat) : Int),
     CallsTo Tryz.prog (80 : Nat) [AV.agg [sv c1, sv c2], AV.agg [sv c3, sv c4], AV.agg [sv a, strv ((bstr (a')))]] (sv u),
     (0 : Int) ≤ (0 : Int) ∧ (0 : Int) < (↑(3 : Nat) : Int),
     IntKind.wrap IntKind.i64 ((0 : Int) + (1 : Int)) = (0 : Int) + (1 : Int),
     (3 : Int) ≠ (0 : Int),
     (0 : Int) ≤ Int.tmod ((0 : Int) + (1 : Int)) (3 : Int) ∧ Int.tmod ((0 : Int) + (1 : Int)) (3 : Int) < (↑(3 : Nat) : Int),
     CallsTo Tryz.prog (80 : Nat) [AV.agg [sv c1, sv c2], AV.agg [sv c3, sv c4], AV.agg [sv b, strv ((bstr (b')))]] (sv v),
     CallsTo Tryz.prog (20 : Nat) [sv u, sv v] (sv d),
     CallsTo Tryz.prog (76 : Nat) [sv u, sv d] (AV.tup [sv s, iv 0]),
     false = false,
     CallsTo Tryz.prog (14 : Nat) [sv u, sv v] (iv (c)),
     decide (c < (0 : Int)) = false,
     CallsTo Tryz.prog (78 : Nat) [sv hi, sv s] (sv r),
     IntKind.wrap IntKind.i64 ((0 : Int) + (1 : Int)) = (0 : Int) + (1 : Int)])
    (h2 : Rounds Tryz.prog (bodyOf (loopAt Tryz.f68 (0 : Nat))) m (st 69 [AV.any, AV.any, AV.any, AV.op 0 0, AV.op 1 0, AV.op 2 0, sv lo, sv r, bv (false), iv 0, sv u, sv v, sv s, iv 0, iv (((0 : Int) + (1 : Int)))]) [some (AObj.box false 57 [sv c1, sv c2, sv c3, sv c4, sv c5, sv c6]), some (AObj.box false 24 [sv a, strv ((bstr (a')))]), some (AObj.box false 24 [sv b, strv ((bstr (b')))])] ex T2 H2) :
    Rounds Tryz.prog (bodyOf (loopAt Tryz.f68 (0 : Nat))) (m + 1) (st 69 [AV.any, AV.any, AV.any, AV.op 0 0, AV.op 1 0, AV.op 2 0, sv lo, sv hi, bv (false), AV.any, AV.any, AV.any, AV.any, AV.any, iv 0]) [some (AObj.box false 57 [sv c1, sv c2, sv c3, sv c4, sv c5, sv c6]), some (AObj.box false 24 [sv a, strv ((bstr (a')))]), some (AObj.box false 24 [sv b, strv ((bstr (b')))])] ex T2 H2 :=
  Rounds.step_of fits hmix [Orc.b true, Orc.a (sv u), Orc.a (sv v), Orc.a (sv d), Orc.a (AV.tup [sv s, iv 0]), Orc.b false, Orc.a (iv (c)), Orc.b false, Orc.a (sv r)] (15 : Nat) [(0 : Nat), (1 : Nat), (2 : Nat)] (by kernel_rfl) h h2
theorem wi_out1_out (lo : List UInt8) (hi : List UInt8) (c1 : List UInt8) (c2 : List UInt8) (c3 : List UInt8) (c4 : List UInt8) (c5 : List UInt8) (c6 : List UInt8) (a : List UInt8) (a' : List UInt8) (b : List UInt8) (b' : List UInt8) (u : List UInt8) (v : List UInt8) (d : List UInt8) (s : Int) (m : Nat) (h : AllP
    [true = true,
     (0 : Int) ≤ (1 : Int) ∧ (1 : Int) < (↑(3 : Nat) : Int),
     IntKind.wrap IntKind.i64 ((1 : Int) + (1 : Int)) = (1 : Int) + (1 : Int),
     (3 : Int) ≠ (0 : Int),
     (0 : Int) ≤ Int.tmod ((1 : Int) + (1 : Int)) (3 : Int) ∧ Int.tmod ((1 : Int) + (1 : Int)) (3 : Int) < (↑(3 : Nat) : Int),
     CallsTo Tryz.prog (80 : Nat) [AV.agg [sv c3, sv c4], AV.agg [sv c5, sv c6], AV.agg [sv a, strv ((bstr (a')))]] (sv u),
     (0 : Int) ≤ (1 : Int) ∧ (1 : Int) < (↑(3 : Nat) : Int),
     IntKind.wrap IntKind.i64 ((1 : Int) + (1 : Int)) = (1 : Int) + (1 : Int),
     (3 : Int) ≠ (0 : Int),
     (0 : Int) ≤ Int.tmod ((1 : Int) + (1 : Int)) (3 : Int) ∧ Int.tmod ((1 : Int) + (1 : Int)) (3 : Int) < (↑(3 : Nat) : Int),
     CallsTo Tryz.prog (80 : Nat) [AV.agg [sv c3, sv c4], AV.agg [sv c5, sv c6], AV.agg [sv b, strv ((bstr (b')))]] (sv v),
     CallsTo Tryz.prog (20 : Nat) [sv u, sv v] (sv d),
     CallsTo Tryz.prog (76 : Nat) [sv u, sv d] (AV.tup [strv ((bstr ([]))), iv 17]),
     true = true,
     CallsTo Tryz.prog (75 : Nat) [sv u] (iv (s)),
     decide (s < (0 : Int)) = true]) :
    Rounds Tryz.prog (bodyOf (loopAt Tryz.f68 (0 : Nat))) (m + 1) (st 69 [AV.any, AV.any, AV.any, AV.op 0 0, AV.op 1 0, AV.op 2 0, sv lo, sv hi, bv (false), AV.any, AV.any, AV.any, AV.any, AV.any, iv 1]) [some (AObj.box false 57 [sv c1, sv c2, sv c3, sv c4, sv c5, sv c6]), some (AObj.box false 24 [sv a, strv ((bstr (a')))]), some (AObj.box false 24 [sv b, strv ((bstr (b')))])] (Ex.ret) (st 69 [AV.any, AV.any, AV.any, AV.op 0 0, AV.op 1 0, AV.op 2 0, strv ({ data := #[] }), strv ({ data := #[] }), bv (false), iv 1, sv u, sv v, strv ((bstr ([]))), iv 17, iv 1]) [some (AObj.box false 57 [sv c1, sv c2, sv c3, sv c4, sv c5, sv c6]), some (AObj.box false 24 [sv a, strv ((bstr (a')))]), some (AObj.box false 24 [sv b, strv ((bstr (b')))])] :=
  Rounds.out_of fits hmix [Orc.b true, Orc.a (sv u), Orc.a (sv v), Orc.a (sv d), Orc.a (AV.tup [strv ((bstr ([]))), iv 17]), Orc.b true, Orc.a (iv (s)), Orc.b true] (15 : Nat) [(0 : Nat), (1 : Nat), (2 : Nat)] m (by simp) (by kernel_rfl) h
theorem wi_par1_step (lo : List UInt8) (hi : List UInt8) (c1 : List UInt8) (c2 : List UInt8) (c3 : List UInt8) (c4 : List UInt8) (c5 : List UInt8) (c6 : List UInt8) (a : List UInt8) (a' : List UInt8) (b : List UInt8) (b' : List UInt8) (u : List UInt8) (v : List UInt8) (d : List UInt8) (s : Int) {ex : Ex} {T2 : List AV} {H2 : Heap} (m : Nat) (h : AllP
    [true = true,
     (0 : Int) ≤ (1 : Int) ∧ (1 : Int) < (↑(3 : Nat) : Int),
     IntKind.wrap IntKind.i64 ((1 : Int) + (1 : Int)) = (1 : Int) + (1 : Int),
     (3 : Int) ≠ (0 : Int),
     (0 : Int) ≤ Int.tmod ((1 : Int) + (1 : Int)) (3 : Int) ∧ Int.tmod ((1 : Int) + (1 : Int)) (3 : Int) < (↑(3 : Nat) : Int),
     CallsTo Tryz.prog (80 : Nat) [AV.agg [sv c3, sv c4], AV.agg [sv c5, sv c6], AV.agg [sv a, strv ((bstr (a')))]] (sv u),
     (0 : Int) ≤ (1 : Int) ∧ (1 : Int) < (↑(3 : Nat) : Int),
     IntKind.wrap IntKind.i64 ((1 : Int) + (1 : Int)) = (1 : Int) + (1 : Int),
     (3 : Int) ≠ (0 : Int),
     (0 : Int) ≤ Int.tmod ((1 : Int) + (1 : Int)) (3 : Int) ∧ Int.tmod ((1 : Int) + (1 : Int)) (3 : Int) < (↑(3 : Nat) : Int),
     CallsTo Tryz.prog (80 : Nat) [AV.agg [sv c3, sv c4], AV.agg [sv c5, sv c6], AV.agg [sv b, strv ((bstr (b')))]] (sv v),
     CallsTo Tryz.prog (20 : Nat) [sv u, sv v] (sv d),
     CallsTo Tryz.prog (76 : Nat) [sv u, sv d] (AV.tup [strv ((bstr ([]))), iv 17]),
     true = true,
     CallsTo Tryz.prog (75 : Nat) [sv u] (iv (s)),
     decide (s < (0 : Int)) = false,
     IntKind.wrap IntKind.i64 ((1 : Int) + (1 : Int)) = (1 : Int) + (1 : Int)])
    (h2 : Rounds Tryz.prog (bodyOf (loopAt Tryz.f68 (0 : Nat))) m (st 69 [AV.any, AV.any, AV.any, AV.op 0 0, AV.op 1 0, AV.op 2 0, sv lo, sv hi, bv (false), iv 1, sv u, sv v, strv ((bstr ([]))), iv 17, iv (((1 : Int) + (1 : Int)))]) [some (AObj.box false 57 [sv c1, sv c2, sv c3, sv c4, sv c5, sv c6]), some (AObj.box false 24 [sv a, strv ((bstr (a')))]), some (AObj.box false 24 [sv b, strv ((bstr (b')))])] ex T2 H2) :
    Rounds Tryz.prog (bodyOf (loopAt Tryz.f68 (0 : Nat))) (m + 1) (st 69 [AV.any, AV.any, AV.any, AV.op 0 0, AV.op 1 0, AV.op 2 0, sv lo, sv hi, bv (false), AV.any, AV.any, AV.any, AV.any, AV.any, iv 1]) [some (AObj.box false 57 [sv c1, sv c2, sv c3, sv c4, sv c5, sv c6]), some (AObj.box false 24 [sv a, strv ((bstr (a')))]), some (AObj.box false 24 [sv b, strv ((bstr (b')))])] ex T2 H2 :=
  Rounds.step_of fits hmix [Orc.b true, Orc.a (sv u), Orc.a (sv v), Orc.a (sv d), Orc.a (AV.tup [strv ((bstr ([]))), iv 17]), Orc.b true, Orc.a (iv (s)), Orc.b false] (15 : Nat) [(0 : Nat), (1 : Nat), (2 : Nat)] (by kernel_rfl) h h2
theorem wi_lo1_step (lo : List UInt8) (hi : List UInt8) (c1 : List UInt8) (c2 : List UInt8) (c3 : List UInt8) (c4 : List UInt8) (c5 : List UInt8) (c6 : List UInt8) (a : List UInt8) (a' : List UInt8) (b : List UInt8) (b' : List UInt8) (u : List UInt8) (v : List UInt8) (d : List UInt8) (s : List UInt8) (r : List UInt8) (c : Int) {ex : Ex} {T2 : List AV} {H2 : Heap} (m : Nat) (h : AllP
    [true = true,
     (0 : Int) ≤ (1 : Int) ∧ (1 : Int) < (↑(3 : Nat) : Int),
     IntKind.wrap IntKind.i64 ((1 : Int) + (1 : Int)) = (1 : Int) + (1 : Int),
     (3 : Int) ≠ (0 : Int),
     (0 : Int) ≤ Int.tmod ((1 : Int) + (1 : Int)) (3 : Int) ∧ Int.tmod ((1 : Int) + (1 : Int)) (3 : Int) < (↑(3 : Nat) : Int),
     CallsTo Tryz.prog (80 : Nat) [AV.agg [sv c3, sv c4], AV.agg [sv c5, sv c6], AV.agg [sv a, strv ((bstr (a')))]] (sv u),
     (0 : Int) ≤ (1 : Int) ∧ (1 : Int) < (↑(3 : Nat) : Int),
     IntKind.wrap IntKind.i64 ((1 : Int) + (1 : Int)) = (1 : Int) + (1 : Int),
     (3 : Int) ≠ (0 : Int),
     (0 : Int) ≤ Int.tmod ((1 : Int) + (1 : Int)) (3 : Int) ∧ Int.tmod ((1 : Int) + (1 : Int)) (3 : Int) < (↑(3 : Nat) : Int),
     CallsTo Tryz.prog (80 : Nat) [AV.agg [sv c3, sv c4], AV.agg [sv c5, sv c6], AV.agg [sv b, strv ((bstr (b')))]] (sv v),
     CallsTo Tryz.prog (20 : Nat) [sv u, sv v] (sv d),
     CallsTo Tryz.prog (76 : Nat) [sv u, sv d] (AV.tup [sv s, iv 0]),
     false = false,
     CallsTo Tryz.prog (14 : Nat) [sv u, sv v] (iv (c)),
     decide (c < (0 : Int)) = true,
     CallsTo Tryz.prog (77 : Nat) [sv lo, sv s] (sv r),
     IntKind.wrap IntKind.i64 ((1 : Int) + (1 : Int)) = (1 : Int) + (1 : Int)])
    (h2 : Rounds Tryz.prog (bodyOf (loopAt Tryz.f68 (0 : Nat))) m (st 69 [AV.any, AV.any, AV.any, AV.op 0 0, AV.op 1 0, AV.op 2 0, sv r, sv hi, bv (false), iv 1, sv u, sv v, sv s, iv 0, iv (((1 : Int) + (1 : Int)))]) [some (AObj.box false 57 [sv c1, sv c2, sv c3, sv c4, sv c5, sv c6]), some (AObj.box false 24 [sv a, strv ((bstr (a')))]), some (AObj.box false 24 [sv b, strv ((bstr (b')))])] ex T2 H2) :
    Rounds Tryz.prog (bodyOf (loopAt Tryz.f68 (0 : Nat))) (m + 1) (st 69 [AV.any, AV.any, AV.any, AV.op 0 0, AV.op 1 0, AV.op 2 0, sv lo, sv hi, bv (false), AV.any, AV.any, AV.any, AV.any, AV.any, iv 1]) [some (AObj.box false 57 [sv c1, sv c2, sv c3, sv c4, sv c5, sv c6]), some (AObj.box false 24 [sv a, strv ((bstr (a')))]), some (AObj.box false 24 [sv b, strv ((bstr (b')))])] ex T2 H2 :=
  Rounds.step_of fits hmix [Orc.b true, Orc.a (sv u), Orc.a (sv v), Orc.a (sv d), Orc.a (AV.tup [sv s, iv 0]), Orc.b false, Orc.a (iv (c)), Orc.b true, Orc.a (sv r)] (15 : Nat) [(0 : Nat), (1 : Nat), (2 : Nat)] (by kernel_rfl) h h2
theorem wi_hi1_step (lo : List UInt8) (hi : List UInt8) (c1 : List UInt8) (c2 : List UInt8) (c3 : List UInt8) (c4 : List UInt8) (c5 : List UInt8) (c6 : List UInt8) (a : List UInt8) (a' : List UInt8) (b : List UInt8) (b' : List UInt8) (u : List UInt8) (v : List UInt8) (d : List UInt8) (s : List UInt8) (r : List UInt8) (c : Int) {ex : Ex} {T2 : List AV} {H2 : Heap} (m : Nat) (h : AllP
    [true = true,
     (0 : Int) ≤ (1 : Int) ∧ (1 : Int) < (↑(3 : Nat) : Int),
     IntKind.wrap IntKind.i64 ((1 : Int) + (1 : Int)) = (1 : Int) + (1 : Int),
     (3 : Int) ≠ (0 : Int),
     (0 : Int) ≤ Int.tmod ((1 : Int) + (1 : Int)) (3 : Int) ∧ Int.tmod ((1 : Int) + (1 : Int)) (3 : Int) < (↑(3 : Nat) : Int),
     CallsTo Tryz.prog (80 : Nat) [AV.agg [sv c3, sv c4], AV.agg [sv c5, sv c6], AV.agg [sv a, strv ((bstr (a')))]] (sv u),
     (0 : Int) ≤ (1 : Int) ∧ (1 : Int) < (↑(3 : Nat) : Int),
     IntKind.wrap IntKind.i64 ((1 : Int) + (1 : Int)) = (1 : Int) + (1 : Int),
     (3 : Int) ≠ (0 : Int),
     (0 : Int) ≤ Int.tmod ((1 : Int) + (1 : Int)) (3 : Int) ∧ Int.tmod ((1 : Int) + (1 : Int)) (3 : Int) < (↑(3 : Nat) : Int),
     CallsTo Tryz.prog (80 : Nat) [AV.agg [sv c3, sv c4], AV.agg [sv c5, sv c6], AV.agg [sv b, strv ((bstr (b')))]] (sv v),
     CallsTo Tryz.prog (20 : Nat) [sv u, sv v] (sv d),
     CallsTo Tryz.prog (76 : Nat) [sv u, sv d] (AV.tup [sv s, iv 0]),
     false = false,
     CallsTo Tryz.prog (14 : Nat) [sv u, sv v] (iv (c)),
     decide (c < (0 : Int)) = false,
     CallsTo Tryz.prog (78 : Nat) [sv hi, sv s] (sv r),
     IntKind.wrap IntKind.i64 ((1 : Int) + (1 : Int)) = (1 : Int) + (1 : Int)])
    (h2 : Rounds Tryz.prog (bodyOf (loopAt Tryz.f68 (0 : Nat))) m (st 69 [AV.any, AV.any, AV.any, AV.op 0 0, AV.op 1 0, AV.op 2 0, sv lo, sv r, bv (false), iv 1, sv u, sv v, sv s, iv 0, iv (((1 : Int) + (1 : Int)))]) [some (AObj.box false 57 [sv c1, sv c2, sv c3, sv c4, sv c5, sv c6]), some (AObj.box false 24 [sv a, strv ((bstr (a')))]), some (AObj.box false 24 [sv b, strv ((bstr (b')))])] ex T2 H2) :
    Rounds Tryz.prog (bodyOf (loopAt Tryz.f68 (0 : Nat))) (m + 1) (st 69 [AV.any, AV.any, AV.any, AV.op 0 0, AV.op 1 0, AV.op 2 0, sv lo, sv hi, bv (false), AV.any, AV.any, AV.any, AV.any, AV.any, iv 1]) [some (AObj.box false 57 [sv c1, sv c2, sv c3, sv c4, sv c5, sv c6]), some (AObj.box false 24 [sv a, strv ((bstr (a')))]), some (AObj.box false 24 [sv b, strv ((bstr (b')))])] ex T2 H2 :=
  Rounds.step_of fits hmix [Orc.b true, Orc.a (sv u), Orc.a (sv v), Orc.a (sv d), Orc.a (AV.tup [sv s, iv 0]), Orc.b false, Orc.a (iv (c)), Orc.b false, Orc.a (sv r)] (15 : Nat) [(0 : Nat), (1 : Nat), (2 : Nat)] (by kernel_rfl) h h2
theorem wi_out2_out (lo : List UInt8) (hi : List UInt8) (c1 : List UInt8) (c2 : List UInt8) (c3 : List UInt8) (c4 : List UInt8) (c5 : List UInt8) (c6 : List UInt8) (a : List UInt8) (a' : List UInt8) (b : List UInt8) (b' : List UInt8) (u : List UInt8) (v : List UInt8) (d : List UInt8) (s : Int) (m : Nat) (h : AllP
    [true = true,
     (0 : Int) ≤ (2 : Int) ∧ (2 : Int) < (↑(3 : Nat) : Int),
     IntKind.wrap IntKind.i64 ((2 : Int) + (1 : Int)) = (2 : Int) + (1 : Int),
     (3 : Int) ≠ (0 : Int),
     (0 : Int) ≤ Int.tmod ((2 : Int) + (1 : Int)) (3 : Int) ∧ Int.tmod ((2 : Int) + (1 : Int)) (3 : Int) < (↑(3 : Nat) : Int),
     CallsTo Tryz.prog (80 : Nat) [AV.agg [sv c5, sv c6], AV.agg [sv c1, sv c2], AV.agg [sv a, strv ((bstr (a')))]] (sv u),
     (0 : Int) ≤ (2 : Int) ∧ (2 : Int) < (↑(3 : Nat) : Int),
     IntKind.wrap IntKind.i64 ((2 : Int) + (1 : Int)) = (2 : Int) + (1 : Int),
     (3 : Int) ≠ (0 : Int),
     (0 : Int) ≤ Int.tmod ((2 : Int) + (1 : Int)) (3 : Int) ∧ Int.tmod ((2 : Int) + (1 : Int)) (3 : Int) < (↑(3 : Nat) : Int),
     CallsTo Tryz.prog (80 : Nat) [AV.agg [sv c5, sv c6], AV.agg [sv c1, sv c2], AV.agg [sv b, strv ((bstr (b')))]] (sv v),
     CallsTo Tryz.prog (20 : Nat) [sv u, sv v] (sv d),
     CallsTo Tryz.prog (76 : Nat) [sv u, sv d] (AV.tup [strv ((bstr ([]))), iv 17]),
     true = true,
     CallsTo Tryz.prog (75 : Nat) [sv u] (iv (s)),
     decide (s < (0 : Int)) = true]) :
    Rounds Tryz.prog (bodyOf (loopAt Tryz.f68 (0 : Nat))) (m + 1) (st 69 [AV.any, AV.any, AV.any, AV.op 0 0, AV.op 1 0, AV.op 2 0, sv lo, sv hi, bv (false), AV.any, AV.any, AV.any, AV.any, AV.any, iv 2]) [some (AObj.box false 57 [sv c1, sv c2, sv c3, sv c4, sv c5, sv c6]), some (AObj.box false 24 [sv a, strv ((bstr (a')))]), some (AObj.box false 24 [sv b, strv ((bstr (b')))])] (Ex.ret) (st 69 [AV.any, AV.any, AV.any, AV.op 0 0, AV.op 1 0, AV.op 2 0, strv ({ data := #[] }), strv ({ data := #[] }), bv (false), iv 2, sv u, sv v, strv ((bstr ([]))), iv 17, iv 2]) [some (AObj.box false 57 [sv c1, sv c2, sv c3, sv c4, sv c5, sv c6]), some (AObj.box false 24 [sv a, strv ((bstr (a')))]), some (AObj.box false 24 [sv b, strv ((bstr (b')))])] :=
  Rounds.out_of fits hmix [Orc.b true, Orc.a (sv u), Orc.a (sv v), Orc.a (sv d), Orc.a (AV.tup [strv ((bstr ([]))), iv 17]), Orc.b true, Orc.a (iv (s)), Orc.b true] (15 : Nat) [(0 : Nat), (1 : Nat), (2 : Nat)] m (by simp) (by kernel_rfl) h
theorem wi_par2_step (lo : List UInt8) (hi : List UInt8) (c1 : List UInt8) (c2 : List UInt8) (c3 : List UInt8) (c4 : List UInt8) (c5 : List UInt8) (c6 : List UInt8) (a : List UInt8) (a' : List UInt8) (b : List UInt8) (b' : List UInt8) (u : List UInt8) (v : List UInt8) (d : List UInt8) (s : Int) {ex : Ex} {T2 : List AV} {H2 : Heap} (m : Nat) (h : AllP
    [true = true,
     (0 : Int) ≤ (2 : Int) ∧ (2 : Int) < (↑(3 : Nat) : Int),
     IntKind.wrap IntKind.i64 ((2 : Int) + (1 : Int)) = (2 : Int) + (1 : Int),
     (3 : Int) ≠ (0 : Int),
     (0 : Int) ≤ Int.tmod ((2 : Int) + (1 : Int)) (3 : Int) ∧ Int.tmod ((2 : Int) + (1 : Int)) (3 : Int) < (↑(3 : Nat) : Int),
     CallsTo Tryz.prog (80 : Nat) [AV.agg [sv c5, sv c6], AV.agg [sv c1, sv c2], AV.agg [sv a, strv ((bstr (a')))]] (sv u),
     (0 : Int) ≤ (2 : Int) ∧ (2 : Int) < (↑(3 : Nat) : Int),
     IntKind.wrap IntKind.i64 ((2 : Int) + (1 : Int)) = (2 : Int) + (1 : Int),
     (3 : Int) ≠ (0 : Int),
     (0 : Int) ≤ Int.tmod ((2 : Int) + (1 : Int)) (3 : Int) ∧ Int.tmod ((2 : Int) + (1 : Int)) (3 : Int) < (↑(3 : Nat) : Int),
     CallsTo Tryz.prog (80 : Nat) [AV.agg [sv c5, sv c6], AV.agg [sv c1, sv c2], AV.agg [sv b, strv ((bstr (b')))]] (sv v),
     CallsTo Tryz.prog (20 : Nat) [sv u, sv v] (sv d),
     CallsTo Tryz.prog (76 : Nat) [sv u, sv d] (AV.tup [strv ((bstr ([]))), iv 17]),
     true = true,
     CallsTo Tryz.prog (75 : Nat) [sv u] (iv (s)),
     decide (s < (0 : Int)) = false,
     IntKind.wrap IntKind.i64 ((2 : Int) + (1 : Int)) = (2 : Int) + (1 : Int)])
    (h2 : Rounds Tryz.prog (bodyOf (loopAt Tryz.f68 (0 : Nat))) m (st 69 [AV.any, AV.any, AV.any, AV.op 0 0, AV.op 1 0, AV.op 2 0, sv lo, sv hi, bv (false), iv 2, sv u, sv v, strv ((bstr ([]))), iv 17, iv (((2 : Int) + (1 : Int)))]) [some (AObj.box false 57 [sv c1, sv c2, sv c3, sv c4, sv c5, sv c6]), some (AObj.box false 24 [sv a, strv ((bstr (a')))]), some (AObj.box false 24 [sv b, strv ((bstr (b')))])] ex T2 H2) :
    Rounds Tryz.prog (bodyOf (loopAt Tryz.f68 (0 : Nat))) (m + 1) (st 69 [AV.any, AV.any, AV.any, AV.op 0 0, AV.op 1 0, AV.op 2 0, sv lo, sv hi, bv (false), AV.any, AV.any, AV.any, AV.any, AV.any, iv 2]) [some (AObj.box false 57 [sv c1, sv c2, sv c3, sv c4, sv c5, sv c6]), some (AObj.box false 24 [sv a, strv ((bstr (a')))]), some (AObj.box false 24 [sv b, strv ((bstr (b')))])] ex T2 H2 :=
  Rounds.step_of fits hmix [Orc.b true, Orc.a (sv u), Orc.a (sv v), Orc.a (sv d), Orc.a (AV.tup [strv ((bstr ([]))), iv 17]), Orc.b true, Orc.a (iv (s)), Orc.b false] (15 : Nat) [(0 : Nat), (1 : Nat), (2 : Nat)] (by kernel_rfl) h h2
theorem wi_lo2_step (lo : List UInt8) (hi : List UInt8) (c1 : List UInt8) (c2 : List UInt8) (c3 : List UInt8) (c4 : List UInt8) (c5 : List UInt8) (c6 : List UInt8) (a : List UInt8) (a' : List UInt8) (b : List UInt8) (b' : List UInt8) (u : List UInt8) (v : List UInt8) (d : List UInt8) (s : List UInt8) (r : List UInt8) (c : Int) {ex : Ex} {T2 : List AV} {H2 : Heap} (m : Nat) (h : AllP
    [true = true,
     (0 : Int) ≤ (2 : Int) ∧ (2 : Int) < (↑(3 : Nat) : Int),
     IntKind.wrap IntKind.i64 ((2 : Int) + (1 : Int)) = (2 : Int) + (1 : Int),
     (3 : Int) ≠ (0 : Int),
     (0 : Int) ≤ Int.tmod ((2 : Int) + (1 : Int)) (3 : Int) ∧ Int.tmod ((2 : Int) + (1 : Int)) (3 : Int) < (↑(3 : Nat) : Int),
     CallsTo Tryz.prog (80 : Nat) [AV.agg [sv c5, sv c6], AV.agg [sv c1, sv c2], AV.agg [sv a, strv ((bstr (a')))]] (sv u),
     (0 : Int) ≤ (2 : Int) ∧ (2 : Int) < (↑(3 : Nat) : Int),
     IntKind.wrap IntKind.i64 ((2 : Int) + (1 : Int)) = (2 : Int) + (1 : Int),
     (3 : Int) ≠ (0 : Int),
     (0 : Int) ≤ Int.tmod ((2 : Int) + (1 : Int)) (3 : Int) ∧ Int.tmod ((2 : Int) + (1 : Int)) (3 : Int) < (↑(3 : Nat) : Int),
     CallsTo Tryz.prog (80 : Nat) [AV.agg [sv c5, sv c6], AV.agg [sv c1, sv c2], AV.agg [sv b, strv ((bstr (b')))]] (sv v),
     CallsTo Tryz.prog (20 : Nat) [sv u, sv v] (sv d),
     CallsTo Tryz.prog (76 : Nat) [sv u, sv d] (AV.tup [sv s, iv 0]),
     false = false,
     CallsTo Tryz.prog (14 : Nat) [sv u, sv v] (iv (c)),
     decide (c < (0 : Int)) = true,
     CallsTo Tryz.prog (77 : Nat) [sv lo, sv s] (sv r),
     IntKind.wrap IntKind.i64 ((2 : Int) + (1 : Int)) = (2 : Int) + (1 : Int)])
    (h2 : Rounds Tryz.prog (bodyOf (loopAt Tryz.f68 (0 : Nat))) m (st 69 [AV.any, AV.any, AV.any, AV.op 0 0, AV.op 1 0, AV.op 2 0, sv r, sv hi, bv (false), iv 2, sv u, sv v, sv s, iv 0, iv (((2 : Int) + (1 : Int)))]) [some (AObj.box false 57 [sv c1, sv c2, sv c3, sv c4, sv c5, sv c6]), some (AObj.box false 24 [sv a, strv ((bstr (a')))]), some (AObj.box false 24 [sv b, strv ((bstr (b')))])] ex T2 H2) :
    Rounds Tryz.prog (bodyOf (loopAt Tryz.f68 (0 : Nat))) (m + 1) (st 69 [AV.any, AV.any, AV.any, AV.op 0 0, AV.op 1 0, AV.op 2 0, sv lo, sv hi, bv (false), AV.any, AV.any, AV.any, AV.any, AV.any, iv 2]) [some (AObj.box false 57 [sv c1, sv c2, sv c3, sv c4, sv c5, sv c6]), some (AObj.box false 24 [sv a, strv ((bstr (a')))]), some (AObj.box false 24 [sv b, strv ((bstr (b')))])] ex T2 H2 :=
  Rounds.step_of fits hmix [Orc.b true, Orc.a (sv u), Orc.a (sv v), Orc.a (sv d), Orc.a (AV.tup [sv s, iv 0]), Orc.b false, Orc.a (iv (c)), Orc.b true, Orc.a (sv r)] (15 : Nat) [(0 : Nat), (1 : Nat), (2 : Nat)] (by kernel_rfl) h h2
theorem wi_hi2_step (lo : List UInt8) (hi : List UInt8) (c1 : List UInt8) (c2 : List UInt8) (c3 : List UInt8) (c4 : List UInt8) (c5 : List UInt8) (c6 : List UInt8) (a : List UInt8) (a' : List UInt8) (b : List UInt8) (b' : List UInt8) (u : List UInt8) (v : List UInt8) (d : List UInt8) (s : List UInt8) (r : List UInt8) (c : Int) {ex : Ex} {T2 : List AV} {H2 : Heap} (m : Nat) (h : AllP
    [true = true,
     (0 : Int) ≤ (2 : Int) ∧ (2 : Int) < (↑(3 : Nat) : Int),
     IntKind.wrap IntKind.i64 ((2 : Int) + (1 : Int)) = (2 : Int) + (1 : Int),
     (3 : Int) ≠ (0 : Int),
     (0 : Int) ≤ Int.tmod ((2 : Int) + (1 : Int)) (3 : Int) ∧ Int.tmod ((2 : Int) + (1 : Int)) (3 : Int) < (↑(3 : Nat) : Int),
     CallsTo Tryz.prog (80 : Nat) [AV.agg [sv c5, sv c6], AV.agg [sv c1, sv c2], AV.agg [sv a, strv ((bstr (a')))]] (sv u),
     (0 : Int) ≤ (2 : Int) ∧ (2 : Int) < (↑(3 : Nat) : Int),
     IntKind.wrap IntKind.i64 ((2 : Int) + (1 : Int)) = (2 : Int) + (1 : Int),
     (3 : Int) ≠ (0 : Int),
     (0 : Int) ≤ Int.tmod ((2 : Int) + (1 : Int)) (3 : Int) ∧ Int.tmod ((2 : Int) + (1 : Int)) (3 : Int) < (↑(3 : Nat) : Int),
     CallsTo Tryz.prog (80 : Nat) [AV.agg [sv c5, sv c6], AV.agg [sv c1, sv c2], AV.agg [sv b, strv ((bstr (b')))]] (sv v),
     CallsTo Tryz.prog (20 : Nat) [sv u, sv v] (sv d),
     CallsTo Tryz.prog (76 : Nat) [sv u, sv d] (AV.tup [sv s, iv 0]),
     false = false,
     CallsTo Tryz.prog (14 : Nat) [sv u, sv v] (iv (c)),
     decide (c < (0 : Int)) = false,
     CallsTo Tryz.prog (78 : Nat) [sv hi, sv s] (sv r),
     IntKind.wrap IntKind.i64 ((2 : Int) + (1 : Int)) = (2 : Int) + (1 : Int)])
    (h2 : Rounds Tryz.prog (bodyOf (loopAt Tryz.f68 (0 : Nat))) m (st 69 [AV.any, AV.any, AV.any, AV.op 0 0, AV.op 1 0, AV.op 2 0, sv lo, sv r, bv (false), iv 2, sv u, sv v, sv s, iv 0, iv (((2 : Int) + (1 : Int)))]) [some (AObj.box false 57 [sv c1, sv c2, sv c3, sv c4, sv c5, sv c6]), some (AObj.box false 24 [sv a, strv ((bstr (a')))]), some (AObj.box false 24 [sv b, strv ((bstr (b')))])] ex T2 H2) :
    Rounds Tryz.prog (bodyOf (loopAt Tryz.f68 (0 : Nat))) (m + 1) (st 69 [AV.any, AV.any, AV.any, AV.op 0 0, AV.op 1 0, AV.op 2 0, sv lo, sv hi, bv (false), AV.any, AV.any, AV.any, AV.any, AV.any, iv 2]) [some (AObj.box false 57 [sv c1, sv c2, sv c3, sv c4, sv c5, sv c6]), some (AObj.box false 24 [sv a, strv ((bstr (a')))]), some (AObj.box false 24 [sv b, strv ((bstr (b')))])] ex T2 H2 :=
  Rounds.step_of fits hmix [Orc.b true, Orc.a (sv u), Orc.a (sv v), Orc.a (sv d), Orc.a (AV.tup [sv s, iv 0]), Orc.b false, Orc.a (iv (c)), Orc.b false, Orc.a (sv r)] (15 : Nat) [(0 : Nat), (1 : Nat), (2 : Nat)] (by kernel_rfl) h h2
theorem wi_end_out (lo : List UInt8) (hi : List UInt8) (c1 : List UInt8) (c2 : List UInt8) (c3 : List UInt8) (c4 : List UInt8) (c5 : List UInt8) (c6 : List UInt8) (a : List UInt8) (a' : List UInt8) (b : List UInt8) (b' : List UInt8) (m : Nat) (h : AllP
    [false = false]) :
    Rounds Tryz.prog (bodyOf (loopAt Tryz.f68 (0 : Nat))) (m + 1) (st 69 [AV.any, AV.any, AV.any, AV.op 0 0, AV.op 1 0, AV.op 2 0, sv lo, sv hi, bv (false), AV.any, AV.any, AV.any, AV.any, AV.any, iv 3]) [some (AObj.box false 57 [sv c1, sv c2, sv c3, sv c4, sv c5, sv c6]), some (AObj.box false 24 [sv a, strv ((bstr (a')))]), some (AObj.box false 24 [sv b, strv ((bstr (b')))])] (Ex.exit (0 : Nat)) (st 69 [AV.any, AV.any, AV.any, AV.op 0 0, AV.op 1 0, AV.op 2 0, sv lo, sv hi, bv (false), AV.any, AV.any, AV.any, AV.any, AV.any, iv 3]) [some (AObj.box false 57 [sv c1, sv c2, sv c3, sv c4, sv c5, sv c6]), some (AObj.box false 24 [sv a, strv ((bstr (a')))]), some (AObj.box false 24 [sv b, strv ((bstr (b')))])] :=
  Rounds.out_of fits hmix [Orc.b false] (15 : Nat) [(0 : Nat), (1 : Nat), (2 : Nat)] m (by simp) (by kernel_rfl) h
theorem wi_in_ok (lo : List UInt8) (hi : List UInt8) (c1 : List UInt8) (c2 : List UInt8) (c3 : List UInt8) (c4 : List UInt8) (c5 : List UInt8) (c6 : List UInt8) (a : List UInt8) (a' : List UInt8) (b : List UInt8) (b' : List UInt8) (c : Int) (h : AllP
    [Goes Tryz.prog (loopAt Tryz.f68 (0 : Nat)) (st 69 [AV.agg [sv c1, sv c2, sv c3, sv c4, sv c5, sv c6], AV.agg [sv a, strv ((bstr (a')))], AV.agg [sv b, strv ((bstr (b')))], AV.op 0 0, AV.op 1 0, AV.op 2 0, strv ({ data := #[(48 : UInt8)] }), strv ({ data := #[(49 : UInt8)] }), bv (false), uu, uu, uu, uu, uu, iv 0]) [some (AObj.box false 57 [sv c1, sv c2, sv c3, sv c4, sv c5, sv c6]), some (AObj.box false 24 [sv a, strv ((bstr (a')))]), some (AObj.box false 24 [sv b, strv ((bstr (b')))])] (Ex.exit (0 : Nat)) (st 69 [AV.any, AV.any, AV.any, AV.op 0 0, AV.op 1 0, AV.op 2 0, sv lo, sv hi, bv (false), AV.any, AV.any, AV.any, AV.any, AV.any, iv 3]) [some (AObj.box false 57 [sv c1, sv c2, sv c3, sv c4, sv c5, sv c6]), some (AObj.box false 24 [sv a, strv ((bstr (a')))]), some (AObj.box false 24 [sv b, strv ((bstr (b')))])],
     CallsTo Tryz.prog (14 : Nat) [sv lo, sv hi] (iv (c))]) :
    CallsTo Tryz.prog 68 [AV.agg [sv c1, sv c2, sv c3, sv c4, sv c5, sv c6], AV.agg [sv a, strv ((bstr (a')))], AV.agg [sv b, strv ((bstr (b')))]] (AV.tup [sv lo, sv hi, bv ((decide (c < (0 : Int))))]) :=
  fn_ok fits hmix Tryz.func68 (by kernel_rfl)
    [.s (15 : Nat) (Ex.exit (0 : Nat)) (st 69 [AV.any, AV.any, AV.any, AV.op 0 0, AV.op 1 0, AV.op 2 0, sv lo, sv hi, bv (false), AV.any, AV.any, AV.any, AV.any, AV.any, iv 3]) [some (AObj.box false 57 [sv c1, sv c2, sv c3, sv c4, sv c5, sv c6]), some (AObj.box false 24 [sv a, strv ((bstr (a')))]), some (AObj.box false 24 [sv b, strv ((bstr (b')))])], Orc.a (iv (c))] (by kernel_rfl) h
theorem wi_no_ok (c1 : List UInt8) (c2 : List UInt8) (c3 : List UInt8) (c4 : List UInt8) (c5 : List UInt8) (c6 : List UInt8) (a : List UInt8) (a' : List UInt8) (b : List UInt8) (b' : List UInt8) (h : AllP
    [Goes Tryz.prog (loopAt Tryz.f68 (0 : Nat)) (st 69 [AV.agg [sv c1, sv c2, sv c3, sv c4, sv c5, sv c6], AV.agg [sv a, strv ((bstr (a')))], AV.agg [sv b, strv ((bstr (b')))], AV.op 0 0, AV.op 1 0, AV.op 2 0, strv ({ data := #[(48 : UInt8)] }), strv ({ data := #[(49 : UInt8)] }), bv (false), uu, uu, uu, uu, uu, iv 0]) [some (AObj.box false 57 [sv c1, sv c2, sv c3, sv c4, sv c5, sv c6]), some (AObj.box false 24 [sv a, strv ((bstr (a')))]), some (AObj.box false 24 [sv b, strv ((bstr (b')))])] (Ex.ret) (st 69 [AV.any, AV.any, AV.any, AV.op 0 0, AV.op 1 0, AV.op 2 0, strv ((bstr ([]))), strv ((bstr ([]))), bv (false)]) [some (AObj.box false 57 [sv c1, sv c2, sv c3, sv c4, sv c5, sv c6]), some (AObj.box false 24 [sv a, strv ((bstr (a')))]), some (AObj.box false 24 [sv b, strv ((bstr (b')))])]]) :
    CallsTo Tryz.prog 68 [AV.agg [sv c1, sv c2, sv c3, sv c4, sv c5, sv c6], AV.agg [sv a, strv ((bstr (a')))], AV.agg [sv b, strv ((bstr (b')))]] (AV.tup [strv ((bstr ([]))), strv ((bstr ([]))), bv (false)]) :=
  fn_ok fits hmix Tryz.func68 (by kernel_rfl)
    [.s (15 : Nat) (Ex.ret) (st 69 [AV.any, AV.any, AV.any, AV.op 0 0, AV.op 1 0, AV.op 2 0, strv ((bstr ([]))), strv ((bstr ([]))), bv (false)]) [some (AObj.box false 57 [sv c1, sv c2, sv c3, sv c4, sv c5, sv c6]), some (AObj.box false 24 [sv a, strv ((bstr (a')))]), some (AObj.box false 24 [sv b, strv ((bstr (b')))])]] (by kernel_rfl) h
end Go.Flow.Tryz
namespace Go.Flow.Tryz
open Go Go.Proofs Go.RowKit Go.Flow
set_option maxRecDepth 100000
theorem Rounds.to {P : Program} {c : Code} {n : Nat} {T T1 T2 : List AV} {H H1 H2 : Heap} {ex : Ex} (h : Rounds P c n T H ex T1 H1) (hs : Same T1 H1 T2 H2) : Rounds P c n T H ex T2 H2 :=
  fun B S0 w0 α a w s hf Q hQ => h B S0 w0 α a w s hf Q fun α' a' w' s' f' => by
    obtain ⟨α1, s1, f1⟩ := hs B S0 w0 α' a' w' s' f'
    exact hQ α1 a' w' s1 f1
def shr (u v : Int) : Rat := (u : Rat) / ((u - v : Int) : Rat)
def wiS (u v : Int) : Option (Rat × Rat) → Option (Rat × Rat)
  | none => none
  | some (lo, hi) => if u = v then (if u < 0 then none else some (lo, hi)) else if u < v then some (if shr u v > lo then shr u v else lo, hi) else some (lo, if shr u v < hi then shr u v else hi)
def wiQ (A B C a b : Pt) : Option (Rat × Rat) := wiS (det C A a) (det C A b) (wiS (det B C a) (det B C b) (wiS (det A B a) (det A B b) (some (0, 1))))
theorem det_sub {a b p q : Pt} (ha : smallP a) (hb : smallP b) (hp : smallP p) (hq : smallP q) : (det a b p - det a b q).natAbs < 800000000 := by
  obtain ⟨a1, a2⟩ := ha
  obtain ⟨b1, b2⟩ := hb
  obtain ⟨p1, p2⟩ := hp
  obtain ⟨q1, q2⟩ := hq
  have m1 := mul_small (a := b.1 - a.1) (b := p.2 - q.2) (by omega) (by omega)
  have m2 := mul_small (a := b.2 - a.2) (b := p.1 - q.1) (by omega) (by omega)
  have e : det a b p - det a b q = (b.1 - a.1) * (p.2 - q.2) - (b.2 - a.2) * (p.1 - q.1) := by unfold det; grind
  rw [e]
  omega
theorem inv_int (d : Int) : ((d : Int) : Rat)⁻¹ = mkRat d.sign d.natAbs := by
  rw [inv_q]
  show mkRat (d.sign * ((1 : Nat) : Int)) d.natAbs = _
  rw [Int.natCast_one, Int.mul_one]
theorem shr_mk (u v : Int) : shr u v = mkRat (u * (u - v).sign) (u - v).natAbs := by
  unfold shr
  rw [Rat.div_def, inv_int]
  have h : ((u : Int) : Rat) = mkRat u 1 := by rw [Rat.mkRat_one]
  rw [h, Rat.mkRat_mul_mkRat, Nat.one_mul]
theorem shr_sm {u v : Int} (hu : u.natAbs < 800000000) (hd : (u - v).natAbs < 800000000) (hne : u ≠ v) : Sm (shr u v) := by
  rw [shr_mk]
  refine Sm.of _ _ ?_ (by omega) (by omega)
  rcases Int.lt_or_gt_of_ne (show u - v ≠ 0 by omega) with h | h
  · rw [Int.sign_eq_neg_one_of_neg h]; omega
  · rw [Int.sign_eq_one_of_pos h]; omega
theorem shr_div {u v : Int} {M : Nat} (hM : 0 < M) (hM9 : M < 100000000) (hu : u.natAbs < 800000000) (hd : (u - v).natAbs < 800000000) (hne : u ≠ v) :
    CallsTo Tryz.prog 76 [sv (fT u M), sv (fT (u - v) M)] (.tup [qv (shr u v), iv 0]) := by
  have hx : Sm (mkRat u M) := Sm.of _ _ (by omega) hM (by omega)
  have hy : Sm (mkRat (u - v) M) := Sm.of _ _ (by omega) hM (by omega)
  have hM0 : (M : Rat) ≠ 0 := fun e => by rw [Rat.natCast_eq_zero_iff] at e; omega
  have hd0 : ((u - v : Int) : Rat) ≠ 0 := fun e => by rw [Rat.intCast_eq_zero_iff] at e; omega
  have e1 : mkRat (u - v) M = ((u - v : Int) : Rat) / (M : Rat) := Rat.mkRat_eq_div _ _
  have e2 : mkRat u M = (u : Rat) / (M : Rat) := Rat.mkRat_eq_div _ _
  have h0 : mkRat (u - v) M ≠ 0 := by
    intro e
    have := (Rat.mkRat_eq_zero (by omega)).1 e
    omega
  have h := qdiv hx hy h0
  have e : mkRat u M / mkRat (u - v) M = shr u v := by
    rw [e1, e2]
    unfold shr
    generalize ((u - v : Int) : Rat) = d at *
    generalize (M : Rat) = m at *
    generalize (u : Rat) = z at *
    grind
  rw [e] at h
  show CallsTo _ _ [sv (fT u M), sv (fT (u - v) M)] _
  rw [fT_q _ _ hM, fT_q _ _ hM]
  exact h
theorem cmpZ_same (u v : Int) (M : Nat) (hM : 0 < M) : cmpZ (u * M) (v * M) < 0 ↔ u < v := by
  rw [cmpZ_lt]
  constructor
  · intro h; exact Int.lt_of_mul_lt_mul_right h (by omega)
  · intro h; exact Int.mul_lt_mul_of_pos_right h (by omega)
abbrev wiT (lo hi : List UInt8) (i : Int) : List AV := st 69 [.any, .any, .any, .op 0 0, .op 1 0, .op 2 0, sv lo, sv hi, bv false, .any, .any, .any, .any, .any, iv i]
abbrev wiE : List AV := st 69 [.any, .any, .any, .op 0 0, .op 1 0, .op 2 0, sv [], sv [], bv false]
abbrev wiH (N : Nat) (A B C a b : Pt) : Heap := [some (.box false 57 (ptS N A ++ ptS N B ++ ptS N C)), some (.box false 24 (ptS N a)), some (.box false 24 (ptS N b))]
abbrev wiM : List Bool := [false, false, false, true, true, true, true, true, true, false, false, false, false, false, true]
abbrev wiM' : List Bool := [false, false, false, true, true, true, true, true, true]
def SmO : Option (Rat × Rat) → Prop
  | none => True
  | some (lo, hi) => Sm lo ∧ Sm hi
theorem wiS_sm {u v : Int} (hu : u.natAbs < 800000000) (hd : (u - v).natAbs < 800000000) {o : Option (Rat × Rat)} (h : SmO o) : SmO (wiS u v o) := by
  cases o with
  | none => trivial
  | some p =>
    obtain ⟨lo, hi⟩ := p
    unfold wiS
    simp only
    split
    · split
      · trivial
      · exact h
    · rename_i hne
      have := shr_sm hu hd hne
      split
      · exact ⟨by split <;> first | exact this | exact h.1, h.2⟩
      · exact ⟨h.1, by split <;> first | exact this | exact h.2⟩
def WiR (N : Nat) (A B C a b : Pt) (i : Nat) (u v : Int) : Prop := ∀ (lo hi : Rat) (m : Nat) (ex : Ex) (T' : List AV) (H' : Heap), Sm lo → Sm hi →
  (match wiS u v (some (lo, hi)) with
    | none => ex = .ret ∧ T' = wiE ∧ H' = wiH N A B C a b
    | some (lo', hi') => Rounds Tryz.prog (bodyOf (loopAt Tryz.f68 0)) m (wiT (qT lo') (qT hi') (i + 1 : Nat)) (wiH N A B C a b) ex T' H') →
  Rounds Tryz.prog (bodyOf (loopAt Tryz.f68 0)) (m + 1) (wiT (qT lo) (qT hi) i) (wiH N A B C a b) ex T' H'
theorem sub_zero_text {u v : Int} {M : Nat} (hM : 0 < M) (h : u = v) : fT (u - v) M = [48] := by
  subst h
  rw [Int.sub_self]
  exact fT_zero M hM
theorem wi_r0 (N : Nat) (hN : 0 < N) (hN4 : N < 10000) (A B C a b : Pt) (hA : smallP A) (hB : smallP B) (hC : smallP C) (ha : smallP a) (hb : smallP b) : WiR N A B C a b 0 (det A B a) (det A B b) := by
  intro lo hi m ex T' H' hlo hhi hr
  have hNN : N * N < 100000000 := Nat.mul_lt_mul'' hN4 hN4
  have hNN0 : 0 < N * N := Nat.mul_pos hN hN
  have au := area_ok N hN hN4 A B a hA hB ha
  have av := area_ok N hN hN4 A B b hA hB hb
  have bu := det_small hA hB ha
  have bv' := det_small hA hB hb
  have bd := det_sub hA hB ha hb
  generalize det A B a = u at *
  generalize det A B b = v at *
  have sb := sub_same u v (N * N) hNN0 (by omega) (by omega) (by omega)
  by_cases huv : u = v
  · have sg := sign_ok u (N * N) hNN0
    rw [sub_zero_text hNN0 huv] at sb
    have dv := rat_div_zero (fT u (N * N))
    by_cases hu : u < 0
    · have e : wiS u v (some (lo, hi)) = none := by unfold wiS; simp only; rw [if_pos huv, if_pos hu]
      rw [e] at hr
      obtain ⟨rfl, rfl, rfl⟩ := hr
      have hs : decide (u.sign < 0) = true := by rw [Int.sign_eq_neg_one_of_neg hu]; rfl
      refine Rounds.to (wi_out0_out (qT lo) (qT hi) (fT A.1 N) (fT A.2 N) (fT B.1 N) (fT B.2 N) (fT C.1 N) (fT C.2 N) (fT a.1 N) (fT a.2 N) (fT b.1 N) (fT b.2 N) (fT u (N * N)) (fT v (N * N)) [48] u.sign m ?_) (same_cast (Same.mask wiM') (T1 := wiE) (by kernel_rfl) rfl)
      repeat' first | exact AllP.nil | refine AllP.cons ?_ ?_
      all_goals first | exact au | exact av | exact sb | exact dv | exact sg | exact hs | rfl | decide
    · have e : wiS u v (some (lo, hi)) = some (lo, hi) := by unfold wiS; simp only; rw [if_pos huv, if_neg hu]
      rw [e] at hr
      have hs : decide (u.sign < 0) = false := by
        refine decide_eq_false fun h => hu ?_
        exact Int.sign_neg_iff.1 h
      refine wi_par0_step (qT lo) (qT hi) (fT A.1 N) (fT A.2 N) (fT B.1 N) (fT B.2 N) (fT C.1 N) (fT C.2 N) (fT a.1 N) (fT a.2 N) (fT b.1 N) (fT b.2 N) (fT u (N * N)) (fT v (N * N)) [48] u.sign m ?_ (Rounds.same (same_cast (Same.mask wiM) (T1 := wiT (qT lo) (qT hi) (0 + 1 : Nat)) (by kernel_rfl) rfl) hr)
      repeat' first | exact AllP.nil | refine AllP.cons ?_ ?_
      all_goals first | exact au | exact av | exact sb | exact dv | exact sg | exact hs | rfl | decide
  · have dv := shr_div hNN0 hNN bu bd huv
    have sm := shr_sm bu bd huv
    have cm := cmp_ok u v (N * N) (N * N) hNN0 hNN0 (by omega) (by omega) (by omega) (by omega)
    have hc := cmpZ_same u v (N * N) hNN0
    by_cases hlt : u < v
    · have e : wiS u v (some (lo, hi)) = some (if shr u v > lo then shr u v else lo, hi) := by unfold wiS; simp only; rw [if_neg huv, if_pos hlt]
      rw [e] at hr
      have mx := qmax hlo sm
      have hs := decide_eq_true (hc.2 hlt)
      refine wi_lo0_step (qT lo) (qT hi) (fT A.1 N) (fT A.2 N) (fT B.1 N) (fT B.2 N) (fT C.1 N) (fT C.2 N) (fT a.1 N) (fT a.2 N) (fT b.1 N) (fT b.2 N) (fT u (N * N)) (fT v (N * N)) (fT (u - v) (N * N)) (qT (shr u v)) (qT (if shr u v > lo then shr u v else lo)) (cmpZ (u * (N * N : Nat)) (v * (N * N : Nat))) m ?_ (Rounds.same (same_cast (Same.mask wiM) (T1 := wiT (qT (if shr u v > lo then shr u v else lo)) (qT hi) (0 + 1 : Nat)) (by kernel_rfl) rfl) hr)
      repeat' first | exact AllP.nil | refine AllP.cons ?_ ?_
      all_goals first | exact au | exact av | exact sb | exact dv | exact cm | exact mx | exact hs | rfl | decide
    · have e : wiS u v (some (lo, hi)) = some (lo, if shr u v < hi then shr u v else hi) := by unfold wiS; simp only; rw [if_neg huv, if_neg hlt]
      rw [e] at hr
      have mx := qmin hhi sm
      have hs := decide_eq_false (fun h => hlt (hc.1 h))
      refine wi_hi0_step (qT lo) (qT hi) (fT A.1 N) (fT A.2 N) (fT B.1 N) (fT B.2 N) (fT C.1 N) (fT C.2 N) (fT a.1 N) (fT a.2 N) (fT b.1 N) (fT b.2 N) (fT u (N * N)) (fT v (N * N)) (fT (u - v) (N * N)) (qT (shr u v)) (qT (if shr u v < hi then shr u v else hi)) (cmpZ (u * (N * N : Nat)) (v * (N * N : Nat))) m ?_ (Rounds.same (same_cast (Same.mask wiM) (T1 := wiT (qT lo) (qT (if shr u v < hi then shr u v else hi)) (0 + 1 : Nat)) (by kernel_rfl) rfl) hr)
      repeat' first | exact AllP.nil | refine AllP.cons ?_ ?_
      all_goals first | exact au | exact av | exact sb | exact dv | exact cm | exact mx | exact hs | rfl | decide
theorem wi_r1 (N : Nat) (hN : 0 < N) (hN4 : N < 10000) (A B C a b : Pt) (hA : smallP A) (hB : smallP B) (hC : smallP C) (ha : smallP a) (hb : smallP b) : WiR N A B C a b 1 (det B C a) (det B C b) := by
  intro lo hi m ex T' H' hlo hhi hr
  have hNN : N * N < 100000000 := Nat.mul_lt_mul'' hN4 hN4
  have hNN0 : 0 < N * N := Nat.mul_pos hN hN
  have au := area_ok N hN hN4 B C a hB hC ha
  have av := area_ok N hN hN4 B C b hB hC hb
  have bu := det_small hB hC ha
  have bv' := det_small hB hC hb
  have bd := det_sub hB hC ha hb
  generalize det B C a = u at *
  generalize det B C b = v at *
  have sb := sub_same u v (N * N) hNN0 (by omega) (by omega) (by omega)
  by_cases huv : u = v
  · have sg := sign_ok u (N * N) hNN0
    rw [sub_zero_text hNN0 huv] at sb
    have dv := rat_div_zero (fT u (N * N))
    by_cases hu : u < 0
    · have e : wiS u v (some (lo, hi)) = none := by unfold wiS; simp only; rw [if_pos huv, if_pos hu]
      rw [e] at hr
      obtain ⟨rfl, rfl, rfl⟩ := hr
      have hs : decide (u.sign < 0) = true := by rw [Int.sign_eq_neg_one_of_neg hu]; rfl
      refine Rounds.to (wi_out1_out (qT lo) (qT hi) (fT A.1 N) (fT A.2 N) (fT B.1 N) (fT B.2 N) (fT C.1 N) (fT C.2 N) (fT a.1 N) (fT a.2 N) (fT b.1 N) (fT b.2 N) (fT u (N * N)) (fT v (N * N)) [48] u.sign m ?_) (same_cast (Same.mask wiM') (T1 := wiE) (by kernel_rfl) rfl)
      repeat' first | exact AllP.nil | refine AllP.cons ?_ ?_
      all_goals first | exact au | exact av | exact sb | exact dv | exact sg | exact hs | rfl | decide
    · have e : wiS u v (some (lo, hi)) = some (lo, hi) := by unfold wiS; simp only; rw [if_pos huv, if_neg hu]
      rw [e] at hr
      have hs : decide (u.sign < 0) = false := by
        refine decide_eq_false fun h => hu ?_
        exact Int.sign_neg_iff.1 h
      refine wi_par1_step (qT lo) (qT hi) (fT A.1 N) (fT A.2 N) (fT B.1 N) (fT B.2 N) (fT C.1 N) (fT C.2 N) (fT a.1 N) (fT a.2 N) (fT b.1 N) (fT b.2 N) (fT u (N * N)) (fT v (N * N)) [48] u.sign m ?_ (Rounds.same (same_cast (Same.mask wiM) (T1 := wiT (qT lo) (qT hi) (1 + 1 : Nat)) (by kernel_rfl) rfl) hr)
      repeat' first | exact AllP.nil | refine AllP.cons ?_ ?_
      all_goals first | exact au | exact av | exact sb | exact dv | exact sg | exact hs | rfl | decide
  · have dv := shr_div hNN0 hNN bu bd huv
    have sm := shr_sm bu bd huv
    have cm := cmp_ok u v (N * N) (N * N) hNN0 hNN0 (by omega) (by omega) (by omega) (by omega)
    have hc := cmpZ_same u v (N * N) hNN0
    by_cases hlt : u < v
    · have e : wiS u v (some (lo, hi)) = some (if shr u v > lo then shr u v else lo, hi) := by unfold wiS; simp only; rw [if_neg huv, if_pos hlt]
      rw [e] at hr
      have mx := qmax hlo sm
      have hs := decide_eq_true (hc.2 hlt)
      refine wi_lo1_step (qT lo) (qT hi) (fT A.1 N) (fT A.2 N) (fT B.1 N) (fT B.2 N) (fT C.1 N) (fT C.2 N) (fT a.1 N) (fT a.2 N) (fT b.1 N) (fT b.2 N) (fT u (N * N)) (fT v (N * N)) (fT (u - v) (N * N)) (qT (shr u v)) (qT (if shr u v > lo then shr u v else lo)) (cmpZ (u * (N * N : Nat)) (v * (N * N : Nat))) m ?_ (Rounds.same (same_cast (Same.mask wiM) (T1 := wiT (qT (if shr u v > lo then shr u v else lo)) (qT hi) (1 + 1 : Nat)) (by kernel_rfl) rfl) hr)
      repeat' first | exact AllP.nil | refine AllP.cons ?_ ?_
      all_goals first | exact au | exact av | exact sb | exact dv | exact cm | exact mx | exact hs | rfl | decide
    · have e : wiS u v (some (lo, hi)) = some (lo, if shr u v < hi then shr u v else hi) := by unfold wiS; simp only; rw [if_neg huv, if_neg hlt]
      rw [e] at hr
      have mx := qmin hhi sm
      have hs := decide_eq_false (fun h => hlt (hc.1 h))
      refine wi_hi1_step (qT lo) (qT hi) (fT A.1 N) (fT A.2 N) (fT B.1 N) (fT B.2 N) (fT C.1 N) (fT C.2 N) (fT a.1 N) (fT a.2 N) (fT b.1 N) (fT b.2 N) (fT u (N * N)) (fT v (N * N)) (fT (u - v) (N * N)) (qT (shr u v)) (qT (if shr u v < hi then shr u v else hi)) (cmpZ (u * (N * N : Nat)) (v * (N * N : Nat))) m ?_ (Rounds.same (same_cast (Same.mask wiM) (T1 := wiT (qT lo) (qT (if shr u v < hi then shr u v else hi)) (1 + 1 : Nat)) (by kernel_rfl) rfl) hr)
      repeat' first | exact AllP.nil | refine AllP.cons ?_ ?_
      all_goals first | exact au | exact av | exact sb | exact dv | exact cm | exact mx | exact hs | rfl | decide
theorem wi_r2 (N : Nat) (hN : 0 < N) (hN4 : N < 10000) (A B C a b : Pt) (hA : smallP A) (hB : smallP B) (hC : smallP C) (ha : smallP a) (hb : smallP b) : WiR N A B C a b 2 (det C A a) (det C A b) := by
  intro lo hi m ex T' H' hlo hhi hr
  have hNN : N * N < 100000000 := Nat.mul_lt_mul'' hN4 hN4
  have hNN0 : 0 < N * N := Nat.mul_pos hN hN
  have au := area_ok N hN hN4 C A a hC hA ha
  have av := area_ok N hN hN4 C A b hC hA hb
  have bu := det_small hC hA ha
  have bv' := det_small hC hA hb
  have bd := det_sub hC hA ha hb
  generalize det C A a = u at *
  generalize det C A b = v at *
  have sb := sub_same u v (N * N) hNN0 (by omega) (by omega) (by omega)
  by_cases huv : u = v
  · have sg := sign_ok u (N * N) hNN0
    rw [sub_zero_text hNN0 huv] at sb
    have dv := rat_div_zero (fT u (N * N))
    by_cases hu : u < 0
    · have e : wiS u v (some (lo, hi)) = none := by unfold wiS; simp only; rw [if_pos huv, if_pos hu]
      rw [e] at hr
      obtain ⟨rfl, rfl, rfl⟩ := hr
      have hs : decide (u.sign < 0) = true := by rw [Int.sign_eq_neg_one_of_neg hu]; rfl
      refine Rounds.to (wi_out2_out (qT lo) (qT hi) (fT A.1 N) (fT A.2 N) (fT B.1 N) (fT B.2 N) (fT C.1 N) (fT C.2 N) (fT a.1 N) (fT a.2 N) (fT b.1 N) (fT b.2 N) (fT u (N * N)) (fT v (N * N)) [48] u.sign m ?_) (same_cast (Same.mask wiM') (T1 := wiE) (by kernel_rfl) rfl)
      repeat' first | exact AllP.nil | refine AllP.cons ?_ ?_
      all_goals first | exact au | exact av | exact sb | exact dv | exact sg | exact hs | rfl | decide
    · have e : wiS u v (some (lo, hi)) = some (lo, hi) := by unfold wiS; simp only; rw [if_pos huv, if_neg hu]
      rw [e] at hr
      have hs : decide (u.sign < 0) = false := by
        refine decide_eq_false fun h => hu ?_
        exact Int.sign_neg_iff.1 h
      refine wi_par2_step (qT lo) (qT hi) (fT A.1 N) (fT A.2 N) (fT B.1 N) (fT B.2 N) (fT C.1 N) (fT C.2 N) (fT a.1 N) (fT a.2 N) (fT b.1 N) (fT b.2 N) (fT u (N * N)) (fT v (N * N)) [48] u.sign m ?_ (Rounds.same (same_cast (Same.mask wiM) (T1 := wiT (qT lo) (qT hi) (2 + 1 : Nat)) (by kernel_rfl) rfl) hr)
      repeat' first | exact AllP.nil | refine AllP.cons ?_ ?_
      all_goals first | exact au | exact av | exact sb | exact dv | exact sg | exact hs | rfl | decide
  · have dv := shr_div hNN0 hNN bu bd huv
    have sm := shr_sm bu bd huv
    have cm := cmp_ok u v (N * N) (N * N) hNN0 hNN0 (by omega) (by omega) (by omega) (by omega)
    have hc := cmpZ_same u v (N * N) hNN0
    by_cases hlt : u < v
    · have e : wiS u v (some (lo, hi)) = some (if shr u v > lo then shr u v else lo, hi) := by unfold wiS; simp only; rw [if_neg huv, if_pos hlt]
      rw [e] at hr
      have mx := qmax hlo sm
      have hs := decide_eq_true (hc.2 hlt)
      refine wi_lo2_step (qT lo) (qT hi) (fT A.1 N) (fT A.2 N) (fT B.1 N) (fT B.2 N) (fT C.1 N) (fT C.2 N) (fT a.1 N) (fT a.2 N) (fT b.1 N) (fT b.2 N) (fT u (N * N)) (fT v (N * N)) (fT (u - v) (N * N)) (qT (shr u v)) (qT (if shr u v > lo then shr u v else lo)) (cmpZ (u * (N * N : Nat)) (v * (N * N : Nat))) m ?_ (Rounds.same (same_cast (Same.mask wiM) (T1 := wiT (qT (if shr u v > lo then shr u v else lo)) (qT hi) (2 + 1 : Nat)) (by kernel_rfl) rfl) hr)
      repeat' first | exact AllP.nil | refine AllP.cons ?_ ?_
      all_goals first | exact au | exact av | exact sb | exact dv | exact cm | exact mx | exact hs | rfl | decide
    · have e : wiS u v (some (lo, hi)) = some (lo, if shr u v < hi then shr u v else hi) := by unfold wiS; simp only; rw [if_neg huv, if_neg hlt]
      rw [e] at hr
      have mx := qmin hhi sm
      have hs := decide_eq_false (fun h => hlt (hc.1 h))
      refine wi_hi2_step (qT lo) (qT hi) (fT A.1 N) (fT A.2 N) (fT B.1 N) (fT B.2 N) (fT C.1 N) (fT C.2 N) (fT a.1 N) (fT a.2 N) (fT b.1 N) (fT b.2 N) (fT u (N * N)) (fT v (N * N)) (fT (u - v) (N * N)) (qT (shr u v)) (qT (if shr u v < hi then shr u v else hi)) (cmpZ (u * (N * N : Nat)) (v * (N * N : Nat))) m ?_ (Rounds.same (same_cast (Same.mask wiM) (T1 := wiT (qT lo) (qT (if shr u v < hi then shr u v else hi)) (2 + 1 : Nat)) (by kernel_rfl) rfl) hr)
      repeat' first | exact AllP.nil | refine AllP.cons ?_ ?_
      all_goals first | exact au | exact av | exact sb | exact dv | exact cm | exact mx | exact hs | rfl | decide
def wiR : Option (Rat × Rat) → AV
  | none => .tup [sv [], sv [], bv false]
  | some (lo, hi) => .tup [qv lo, qv hi, bv (decide (lo < hi))]
theorem within_ok (N : Nat) (hN : 0 < N) (hN4 : N < 10000) (A B C a b : Pt) (hA : smallP A) (hB : smallP B) (hC : smallP C) (ha : smallP a) (hb : smallP b) :
    CallsTo Tryz.prog 68 [.agg (ptS N A ++ ptS N B ++ ptS N C), .agg (ptS N a), .agg (ptS N b)] (wiR (wiQ A B C a b)) := by
  have r0 := wi_r0 N hN hN4 A B C a b hA hB hC ha hb
  have r1 := wi_r1 N hN hN4 A B C a b hA hB hC ha hb
  have r2 := wi_r2 N hN hN4 A B C a b hA hB hC ha hb
  have s0 := wiS_sm (o := some (0, 1)) (det_small hA hB ha) (det_sub hA hB ha hb) ⟨Sm.zero, Sm.one⟩
  have s1 := wiS_sm (det_small hB hC ha) (det_sub hB hC ha hb) s0
  have s2 := wiS_sm (det_small hC hA ha) (det_sub hC hA ha hb) s1
  have q0 := r0 0 1 3
  have hloop : loopAt Tryz.f68 0 = .loop (bodyOf (loopAt Tryz.f68 0)) := by kernel_rfl
  have start : ∀ {ex T' H'}, Rounds Tryz.prog (bodyOf (loopAt Tryz.f68 0)) 4 (wiT (qT 0) (qT 1) 0) (wiH N A B C a b) ex T' H' →
      Goes Tryz.prog (loopAt Tryz.f68 0) (st 69 [.agg (ptS N A ++ ptS N B ++ ptS N C), .agg (ptS N a), .agg (ptS N b), .op 0 0, .op 1 0, .op 2 0, sv [48], sv [49], bv false, uu, uu, uu, uu, uu, iv 0]) (wiH N A B C a b) ex T' H' := fun h => by
    rw [hloop]
    rw [qT0, qT1] at h
    exact (same_cast (Same.mask wiM) (T1 := wiT [48] [49] 0) (by kernel_rfl) rfl).goes (Goes.loop h)
  have none_ : ∀ {ex T' H'}, Goes Tryz.prog (loopAt Tryz.f68 0) (st 69 [.agg (ptS N A ++ ptS N B ++ ptS N C), .agg (ptS N a), .agg (ptS N b), .op 0 0, .op 1 0, .op 2 0, sv [48], sv [49], bv false, uu, uu, uu, uu, uu, iv 0]) (wiH N A B C a b) ex T' H' → ex = .ret ∧ T' = wiE ∧ H' = wiH N A B C a b →
      CallsTo Tryz.prog 68 [.agg (ptS N A ++ ptS N B ++ ptS N C), .agg (ptS N a), .agg (ptS N b)] (wiR none) := fun h e => by
    obtain ⟨rfl, rfl, rfl⟩ := e
    exact wi_no_ok (fT A.1 N) (fT A.2 N) (fT B.1 N) (fT B.2 N) (fT C.1 N) (fT C.2 N) (fT a.1 N) (fT a.2 N) (fT b.1 N) (fT b.2 N) ⟨h, trivial⟩
  unfold wiQ
  cases h0 : wiS (det A B a) (det A B b) (some (0, 1)) with
  | none =>
    exact none_ (start (q0 _ _ _ Sm.zero Sm.one (by rw [h0]; exact ⟨rfl, rfl, rfl⟩))) ⟨rfl, rfl, rfl⟩
  | some p0 =>
    obtain ⟨lo0, hi0⟩ := p0
    rw [h0] at s0 s1 s2
    have q1 := r1 lo0 hi0 2
    cases h1 : wiS (det B C a) (det B C b) (some (lo0, hi0)) with
    | none =>
      exact none_ (start (q0 _ _ _ Sm.zero Sm.one (by rw [h0]; exact q1 _ _ _ s0.1 s0.2 (by rw [h1]; exact ⟨rfl, rfl, rfl⟩)))) ⟨rfl, rfl, rfl⟩
    | some p1 =>
      obtain ⟨lo1, hi1⟩ := p1
      rw [h1] at s1 s2
      have q2 := r2 lo1 hi1 1
      cases h2 : wiS (det C A a) (det C A b) (some (lo1, hi1)) with
      | none =>
        exact none_ (start (q0 _ _ _ Sm.zero Sm.one (by rw [h0]; exact q1 _ _ _ s0.1 s0.2 (by rw [h1]; exact q2 _ _ _ s1.1 s1.2 (by rw [h2]; exact ⟨rfl, rfl, rfl⟩))))) ⟨rfl, rfl, rfl⟩
      | some p2 =>
        obtain ⟨lo2, hi2⟩ := p2
        rw [h2] at s2
        have g := start (q0 _ _ _ Sm.zero Sm.one (by rw [h0]; exact q1 _ _ _ s0.1 s0.2 (by rw [h1]; exact q2 _ _ _ s1.1 s1.2 (by rw [h2]; exact wi_end_out (qT lo2) (qT hi2) (fT A.1 N) (fT A.2 N) (fT B.1 N) (fT B.2 N) (fT C.1 N) (fT C.2 N) (fT a.1 N) (fT a.2 N) (fT b.1 N) (fT b.2 N) 0 ⟨rfl, trivial⟩))))
        have := wi_in_ok (qT lo2) (qT hi2) (fT A.1 N) (fT A.2 N) (fT B.1 N) (fT B.2 N) (fT C.1 N) (fT C.2 N) (fT a.1 N) (fT a.2 N) (fT b.1 N) (fT b.2 N) _ ⟨g, qcmp s2.1 s2.2, trivial⟩
        unfold wiR
        rwa [show decide (cmpQ lo2 hi2 < 0) = decide (lo2 < hi2) from decide_eq_decide.2 (cmpQ_lt _ _)] at this
end Go.Flow.Tryz
namespace Go.Flow.Tryz
open Go Go.Proofs Go.RowKit Go.Flow
set_option maxRecDepth 100000
theorem so_sw (ps : List (List Value)) (ts : List (List Value)) (a : List UInt8) (a' : List UInt8) (b : List UInt8) (b' : List UInt8) (sp : List AV) (xs : List AV) (u1 : List Value) (u2 : List Value) (u3 : List Value) (g1 : List AV) (g2 : List AV) (g3 : List AV) (n : Int) (i : Int) (j : Int) (c : Int) (x : List UInt8) (y : List UInt8) (h : AllP
    [decide (j > (0 : Int)) = true,
     decide (j > (0 : Int)) = true,
     decide (j > (0 : Int)) = true,
     decide (j > (0 : Int)) = true,
     (0 : Int) ≤ j ∧ j < (↑(List.length xs) : Int),
     decide (j > (0 : Int)) = true,
     xs[Int.toNat j]? = some (sv x),
     decide (j > (0 : Int)) = true,
     decide (j > (0 : Int)) = true,
     decide (j > (0 : Int)) = true,
     IntKind.wrap IntKind.i64 (j - (1 : Int)) = j - (1 : Int),
     decide (j > (0 : Int)) = true,
     (0 : Int) ≤ j - (1 : Int) ∧ j - (1 : Int) < (↑(List.length xs) : Int),
     decide (j > (0 : Int)) = true,
     xs[Int.toNat (j - (1 : Int))]? = some (sv y),
     decide (j > (0 : Int)) = true,
     CallsTo Tryz.prog (14 : Nat) [sv x, sv y] (iv (c)),
     decide (j > (0 : Int)) = true,
     decide (j > (0 : Int)) = true,
     decide (c < (0 : Int)) = true,
     IntKind.wrap IntKind.i64 (j - (1 : Int)) = j - (1 : Int),
     IntKind.wrap IntKind.i64 (j - (1 : Int)) = j - (1 : Int),
     (0 : Int) ≤ j - (1 : Int) ∧ j - (1 : Int) < (↑(List.length xs) : Int),
     xs[Int.toNat (j - (1 : Int))]? = some (sv y),
     (0 : Int) ≤ j ∧ j < (↑(List.length xs) : Int),
     xs[Int.toNat j]? = some (sv x),
     (0 : Int) ≤ j ∧ j < (↑(List.length xs) : Int),
     xs[Int.toNat j]? = some (sv x),
     (0 : Int) ≤ j - (1 : Int) ∧ j - (1 : Int) < (↑(List.length (List.set xs (Int.toNat j) (sv y))) : Int),
     (List.set xs (Int.toNat j) (sv y))[Int.toNat (j - (1 : Int))]? = some (sv y),
     IntKind.wrap IntKind.i64 (j - (1 : Int)) = j - (1 : Int)]) :
    Goes Tryz.prog (bodyOf (loopAt Tryz.f143 (1 : Nat))) (st 53 [AV.own 5, iv 0, iv (n), AV.fn (14 : Nat) [], AV.any, AV.any, AV.any, AV.any, iv (i), iv (j)]) [some (AObj.box false 34 [AV.ps 2 ps, AV.ps 3 ts]), some (AObj.box false 24 [sv a, strv ((bstr (a')))]), some (AObj.box false 24 [sv b, strv ((bstr (b')))]), some (AObj.box false 27 [AV.own 5]), some (AObj.row false 60 3 sp), some (AObj.row false 22 1 xs), some (AObj.ghost u1 g1), some (AObj.ghost u2 g2), some (AObj.ghost u3 g3)] (Ex.normal) (st 53 [AV.own 5, iv 0, iv (n), AV.fn (14 : Nat) [], AV.any, AV.any, AV.any, AV.any, iv (i), iv ((j - (1 : Int)))]) [some (AObj.box false 34 [AV.ps 2 ps, AV.ps 3 ts]), some (AObj.box false 24 [sv a, strv ((bstr (a')))]), some (AObj.box false 24 [sv b, strv ((bstr (b')))]), some (AObj.box false 27 [AV.own 5]), some (AObj.row false 60 3 sp), some (AObj.row false 22 1 (List.set (List.set xs (Int.toNat j) (sv y)) (Int.toNat (j - (1 : Int))) (sv x))), some (AObj.ghost u1 g1), some (AObj.ghost u2 g2), some (AObj.ghost u3 g3)] :=
  Goes.cut fits hmix (orc := [Orc.b true, Orc.b true, Orc.b true, Orc.b true, Orc.b true, Orc.a (sv x), Orc.b true, Orc.b true, Orc.b true, Orc.b true, Orc.b true, Orc.a (sv y), Orc.b true, Orc.a (iv (c)), Orc.b true, Orc.b true, Orc.b true, Orc.a (sv y), Orc.a (sv x), Orc.a (sv x), Orc.a (sv y)]) (k := (10 : Nat)) (by kernel_rfl) h
theorem so_s0 (ps : List (List Value)) (ts : List (List Value)) (a : List UInt8) (a' : List UInt8) (b : List UInt8) (b' : List UInt8) (sp : List AV) (xs : List AV) (u1 : List Value) (u2 : List Value) (u3 : List Value) (g1 : List AV) (g2 : List AV) (g3 : List AV) (n : Int) (i : Int) (j : Int) (h : AllP
    [decide (j > (0 : Int)) = false,
     decide (j > (0 : Int)) = false,
     decide (j > (0 : Int)) = false,
     decide (j > (0 : Int)) = false,
     decide (j > (0 : Int)) = false,
     decide (j > (0 : Int)) = false,
     decide (j > (0 : Int)) = false,
     decide (j > (0 : Int)) = false,
     decide (j > (0 : Int)) = false,
     decide (j > (0 : Int)) = false,
     decide (j > (0 : Int)) = false,
     decide (j > (0 : Int)) = false,
     decide (j > (0 : Int)) = false,
     false = false]) :
    Goes Tryz.prog (bodyOf (loopAt Tryz.f143 (1 : Nat))) (st 53 [AV.own 5, iv 0, iv (n), AV.fn (14 : Nat) [], AV.any, AV.any, AV.any, AV.any, iv (i), iv (j)]) [some (AObj.box false 34 [AV.ps 2 ps, AV.ps 3 ts]), some (AObj.box false 24 [sv a, strv ((bstr (a')))]), some (AObj.box false 24 [sv b, strv ((bstr (b')))]), some (AObj.box false 27 [AV.own 5]), some (AObj.row false 60 3 sp), some (AObj.row false 22 1 xs), some (AObj.ghost u1 g1), some (AObj.ghost u2 g2), some (AObj.ghost u3 g3)] (Ex.exit (2 : Nat)) (st 53 [AV.own 5, iv 0, iv (n), AV.fn (14 : Nat) [], AV.any, AV.any, AV.any, AV.any, iv (i), iv (j)]) [some (AObj.box false 34 [AV.ps 2 ps, AV.ps 3 ts]), some (AObj.box false 24 [sv a, strv ((bstr (a')))]), some (AObj.box false 24 [sv b, strv ((bstr (b')))]), some (AObj.box false 27 [AV.own 5]), some (AObj.row false 60 3 sp), some (AObj.row false 22 1 xs), some (AObj.ghost u1 g1), some (AObj.ghost u2 g2), some (AObj.ghost u3 g3)] :=
  Goes.cut fits hmix (orc := [Orc.b false, Orc.b false, Orc.b false, Orc.b false, Orc.b false, Orc.b false, Orc.b false, Orc.b false, Orc.b false, Orc.b false, Orc.b false, Orc.b false, Orc.b false, Orc.b false]) (k := (10 : Nat)) (by kernel_rfl) h
theorem so_s1 (ps : List (List Value)) (ts : List (List Value)) (a : List UInt8) (a' : List UInt8) (b : List UInt8) (b' : List UInt8) (sp : List AV) (xs : List AV) (u1 : List Value) (u2 : List Value) (u3 : List Value) (g1 : List AV) (g2 : List AV) (g3 : List AV) (n : Int) (i : Int) (j : Int) (c : Int) (x : List UInt8) (y : List UInt8) (h : AllP
    [decide (j > (0 : Int)) = true,
     decide (j > (0 : Int)) = true,
     decide (j > (0 : Int)) = true,
     decide (j > (0 : Int)) = true,
     (0 : Int) ≤ j ∧ j < (↑(List.length xs) : Int),
     decide (j > (0 : Int)) = true,
     xs[Int.toNat j]? = some (sv x),
     decide (j > (0 : Int)) = true,
     decide (j > (0 : Int)) = true,
     decide (j > (0 : Int)) = true,
     IntKind.wrap IntKind.i64 (j - (1 : Int)) = j - (1 : Int),
     decide (j > (0 : Int)) = true,
     (0 : Int) ≤ j - (1 : Int) ∧ j - (1 : Int) < (↑(List.length xs) : Int),
     decide (j > (0 : Int)) = true,
     xs[Int.toNat (j - (1 : Int))]? = some (sv y),
     decide (j > (0 : Int)) = true,
     CallsTo Tryz.prog (14 : Nat) [sv x, sv y] (iv (c)),
     decide (j > (0 : Int)) = true,
     decide (j > (0 : Int)) = true,
     decide (c < (0 : Int)) = false]) :
    Goes Tryz.prog (bodyOf (loopAt Tryz.f143 (1 : Nat))) (st 53 [AV.own 5, iv 0, iv (n), AV.fn (14 : Nat) [], AV.any, AV.any, AV.any, AV.any, iv (i), iv (j)]) [some (AObj.box false 34 [AV.ps 2 ps, AV.ps 3 ts]), some (AObj.box false 24 [sv a, strv ((bstr (a')))]), some (AObj.box false 24 [sv b, strv ((bstr (b')))]), some (AObj.box false 27 [AV.own 5]), some (AObj.row false 60 3 sp), some (AObj.row false 22 1 xs), some (AObj.ghost u1 g1), some (AObj.ghost u2 g2), some (AObj.ghost u3 g3)] (Ex.exit (2 : Nat)) (st 53 [AV.own 5, iv 0, iv (n), AV.fn (14 : Nat) [], AV.any, AV.any, AV.any, AV.any, iv (i), iv (j)]) [some (AObj.box false 34 [AV.ps 2 ps, AV.ps 3 ts]), some (AObj.box false 24 [sv a, strv ((bstr (a')))]), some (AObj.box false 24 [sv b, strv ((bstr (b')))]), some (AObj.box false 27 [AV.own 5]), some (AObj.row false 60 3 sp), some (AObj.row false 22 1 xs), some (AObj.ghost u1 g1), some (AObj.ghost u2 g2), some (AObj.ghost u3 g3)] :=
  Goes.cut fits hmix (orc := [Orc.b true, Orc.b true, Orc.b true, Orc.b true, Orc.b true, Orc.a (sv x), Orc.b true, Orc.b true, Orc.b true, Orc.b true, Orc.b true, Orc.a (sv y), Orc.b true, Orc.a (iv (c)), Orc.b true, Orc.b true, Orc.b false]) (k := (10 : Nat)) (by kernel_rfl) h
theorem so_in (ps : List (List Value)) (ts : List (List Value)) (a : List UInt8) (a' : List UInt8) (b : List UInt8) (b' : List UInt8) (sp : List AV) (xs : List AV) (ys : List AV) (u1 : List Value) (u2 : List Value) (u3 : List Value) (g1 : List AV) (g2 : List AV) (g3 : List AV) (n : Int) (i : Int) (j : Int) (h : AllP
    [decide (i < n) = true,
     Goes Tryz.prog (loopAt Tryz.f143 (1 : Nat)) (st 53 [AV.own 5, iv 0, iv (n), AV.fn (14 : Nat) [], AV.any, AV.any, AV.any, AV.any, iv (i), iv (i)]) [some (AObj.box false 34 [AV.ps 2 ps, AV.ps 3 ts]), some (AObj.box false 24 [sv a, strv ((bstr (a')))]), some (AObj.box false 24 [sv b, strv ((bstr (b')))]), some (AObj.box false 27 [AV.own 5]), some (AObj.row false 60 3 sp), some (AObj.row false 22 1 xs), some (AObj.ghost u1 g1), some (AObj.ghost u2 g2), some (AObj.ghost u3 g3)] (Ex.exit (2 : Nat)) (st 53 [AV.own 5, iv 0, iv (n), AV.fn (14 : Nat) [], AV.any, AV.any, AV.any, AV.any, iv (i), iv (j)]) [some (AObj.box false 34 [AV.ps 2 ps, AV.ps 3 ts]), some (AObj.box false 24 [sv a, strv ((bstr (a')))]), some (AObj.box false 24 [sv b, strv ((bstr (b')))]), some (AObj.box false 27 [AV.own 5]), some (AObj.row false 60 3 sp), some (AObj.row false 22 1 ys), some (AObj.ghost u1 g1), some (AObj.ghost u2 g2), some (AObj.ghost u3 g3)],
     IntKind.wrap IntKind.i64 (i + (1 : Int)) = i + (1 : Int)]) :
    Goes Tryz.prog (bodyOf (loopAt Tryz.f143 (0 : Nat))) (st 53 [AV.own 5, iv 0, iv (n), AV.fn (14 : Nat) [], AV.any, AV.any, AV.any, AV.any, iv (i)]) [some (AObj.box false 34 [AV.ps 2 ps, AV.ps 3 ts]), some (AObj.box false 24 [sv a, strv ((bstr (a')))]), some (AObj.box false 24 [sv b, strv ((bstr (b')))]), some (AObj.box false 27 [AV.own 5]), some (AObj.row false 60 3 sp), some (AObj.row false 22 1 xs), some (AObj.ghost u1 g1), some (AObj.ghost u2 g2), some (AObj.ghost u3 g3)] (Ex.normal) (st 53 [AV.own 5, iv 0, iv (n), AV.fn (14 : Nat) [], AV.any, AV.any, AV.any, AV.any, iv ((i + (1 : Int)))]) [some (AObj.box false 34 [AV.ps 2 ps, AV.ps 3 ts]), some (AObj.box false 24 [sv a, strv ((bstr (a')))]), some (AObj.box false 24 [sv b, strv ((bstr (b')))]), some (AObj.box false 27 [AV.own 5]), some (AObj.row false 60 3 sp), some (AObj.row false 22 1 ys), some (AObj.ghost u1 g1), some (AObj.ghost u2 g2), some (AObj.ghost u3 g3)] :=
  Goes.cut fits hmix (orc := [Orc.b true, .s (10 : Nat) (Ex.exit (2 : Nat)) (st 53 [AV.own 5, iv 0, iv (n), AV.fn (14 : Nat) [], AV.any, AV.any, AV.any, AV.any, iv (i), iv (j)]) [some (AObj.box false 34 [AV.ps 2 ps, AV.ps 3 ts]), some (AObj.box false 24 [sv a, strv ((bstr (a')))]), some (AObj.box false 24 [sv b, strv ((bstr (b')))]), some (AObj.box false 27 [AV.own 5]), some (AObj.row false 60 3 sp), some (AObj.row false 22 1 ys), some (AObj.ghost u1 g1), some (AObj.ghost u2 g2), some (AObj.ghost u3 g3)]]) (k := (9 : Nat)) (by kernel_rfl) h
theorem so_end (ps : List (List Value)) (ts : List (List Value)) (a : List UInt8) (a' : List UInt8) (b : List UInt8) (b' : List UInt8) (sp : List AV) (xs : List AV) (u1 : List Value) (u2 : List Value) (u3 : List Value) (g1 : List AV) (g2 : List AV) (g3 : List AV) (n : Int) (i : Int) (h : AllP
    [decide (i < n) = false]) :
    Goes Tryz.prog (bodyOf (loopAt Tryz.f143 (0 : Nat))) (st 53 [AV.own 5, iv 0, iv (n), AV.fn (14 : Nat) [], AV.any, AV.any, AV.any, AV.any, iv (i)]) [some (AObj.box false 34 [AV.ps 2 ps, AV.ps 3 ts]), some (AObj.box false 24 [sv a, strv ((bstr (a')))]), some (AObj.box false 24 [sv b, strv ((bstr (b')))]), some (AObj.box false 27 [AV.own 5]), some (AObj.row false 60 3 sp), some (AObj.row false 22 1 xs), some (AObj.ghost u1 g1), some (AObj.ghost u2 g2), some (AObj.ghost u3 g3)] (Ex.exit (0 : Nat)) (st 53 [AV.own 5, iv 0, iv (n), AV.fn (14 : Nat) [], AV.any, AV.any, AV.any, AV.any, iv (i)]) [some (AObj.box false 34 [AV.ps 2 ps, AV.ps 3 ts]), some (AObj.box false 24 [sv a, strv ((bstr (a')))]), some (AObj.box false 24 [sv b, strv ((bstr (b')))]), some (AObj.box false 27 [AV.own 5]), some (AObj.row false 60 3 sp), some (AObj.row false 22 1 xs), some (AObj.ghost u1 g1), some (AObj.ghost u2 g2), some (AObj.ghost u3 g3)] :=
  Goes.cut fits hmix (orc := [Orc.b false]) (k := (9 : Nat)) (by kernel_rfl) h
theorem so_ins_inl (ps : List (List Value)) (ts : List (List Value)) (a : List UInt8) (a' : List UInt8) (b : List UInt8) (b' : List UInt8) (sp : List AV) (xs : List AV) (ys : List AV) (u1 : List Value) (u2 : List Value) (g1 : List AV) (g2 : List AV) (n : Int) (i : Int) (h : ∀ (us : List Value) (G : List AV), AllP
    [IntKind.wrap IntKind.i64 ((0 : Int) + (1 : Int)) = (0 : Int) + (1 : Int),
     Goes Tryz.prog (loopAt Tryz.f143 (0 : Nat)) (st 53 [AV.own 5, iv 0, iv (n), AV.fn (14 : Nat) [], uu, uu, uu, uu, iv (((0 : Int) + (1 : Int)))]) [some (AObj.box false 34 [AV.ps 2 ps, AV.ps 3 ts]), some (AObj.box false 24 [sv a, strv ((bstr (a')))]), some (AObj.box false 24 [sv b, strv ((bstr (b')))]), some (AObj.box false 27 [AV.own 5]), some (AObj.row false 60 3 sp), some (AObj.row false 22 1 xs), some (AObj.ghost u1 g1), some (AObj.ghost u2 g2), some (AObj.ghost us G)] (Ex.exit (0 : Nat)) (st 53 [AV.own 5, iv 0, iv (n), AV.fn (14 : Nat) [], AV.any, AV.any, AV.any, AV.any, iv (i)]) [some (AObj.box false 34 [AV.ps 2 ps, AV.ps 3 ts]), some (AObj.box false 24 [sv a, strv ((bstr (a')))]), some (AObj.box false 24 [sv b, strv ((bstr (b')))]), some (AObj.box false 27 [AV.own 5]), some (AObj.row false 60 3 sp), some (AObj.row false 22 1 ys), some (AObj.ghost u1 g1), some (AObj.ghost u2 g2), some (AObj.ghost us G)]]) :
    Inl Tryz.prog 143 [AV.own 5, iv 0, iv (n), AV.fn (14 : Nat) []] [some (AObj.box false 34 [AV.ps 2 ps, AV.ps 3 ts]), some (AObj.box false 24 [sv a, strv ((bstr (a')))]), some (AObj.box false 24 [sv b, strv ((bstr (b')))]), some (AObj.box false 27 [AV.own 5]), some (AObj.row false 60 3 sp), some (AObj.row false 22 1 xs), some (AObj.ghost u1 g1), some (AObj.ghost u2 g2)] [some (AObj.box false 34 [AV.ps 2 ps, AV.ps 3 ts]), some (AObj.box false 24 [sv a, strv ((bstr (a')))]), some (AObj.box false 24 [sv b, strv ((bstr (b')))]), some (AObj.box false 27 [AV.own 5]), some (AObj.row false 60 3 sp), some (AObj.row false 22 1 ys), some (AObj.ghost u1 g1), some (AObj.ghost u2 g2), none] (AV.tup []) :=
  Inl.of (hc := h) fits hmix Tryz.func143 (by kernel_rfl)
    (orc := fun us G => [.s (9 : Nat) (Ex.exit (0 : Nat)) (st 53 [AV.own 5, iv 0, iv (n), AV.fn (14 : Nat) [], AV.any, AV.any, AV.any, AV.any, iv (i)]) [some (AObj.box false 34 [AV.ps 2 ps, AV.ps 3 ts]), some (AObj.box false 24 [sv a, strv ((bstr (a')))]), some (AObj.box false 24 [sv b, strv ((bstr (b')))]), some (AObj.box false 27 [AV.own 5]), some (AObj.row false 60 3 sp), some (AObj.row false 22 1 ys), some (AObj.ghost u1 g1), some (AObj.ghost u2 g2), some (AObj.ghost us G)]]) (fun us G => by kernel_rfl) (by kernel_rfl) (by kernel_rfl) (by simp)
theorem so_pdq_inl (ps : List (List Value)) (ts : List (List Value)) (a : List UInt8) (a' : List UInt8) (b : List UInt8) (b' : List UInt8) (sp : List AV) (xs : List AV) (ys : List AV) (u1 : List Value) (g1 : List AV) (n : Int) (l : Int) (h : ∀ (us : List Value) (G : List AV), AllP
    [IntKind.wrap IntKind.i64 (n - (0 : Int)) = n - (0 : Int),
     decide (n - (0 : Int) ≤ (12 : Int)) = true,
     Inl Tryz.prog (143 : Nat) [AV.own 5, iv 0, iv (n), AV.fn (14 : Nat) []] [some (AObj.box false 34 [AV.ps 2 ps, AV.ps 3 ts]), some (AObj.box false 24 [sv a, strv ((bstr (a')))]), some (AObj.box false 24 [sv b, strv ((bstr (b')))]), some (AObj.box false 27 [AV.own 5]), some (AObj.row false 60 3 sp), some (AObj.row false 22 1 xs), some (AObj.ghost u1 g1), some (AObj.ghost us G)] [some (AObj.box false 34 [AV.ps 2 ps, AV.ps 3 ts]), some (AObj.box false 24 [sv a, strv ((bstr (a')))]), some (AObj.box false 24 [sv b, strv ((bstr (b')))]), some (AObj.box false 27 [AV.own 5]), some (AObj.row false 60 3 sp), some (AObj.row false 22 1 ys), some (AObj.ghost u1 g1), some (AObj.ghost us G), none] (AV.tup [])]) :
    Inl Tryz.prog 117 [AV.own 5, iv 0, iv (n), iv (l), AV.fn (14 : Nat) []] [some (AObj.box false 34 [AV.ps 2 ps, AV.ps 3 ts]), some (AObj.box false 24 [sv a, strv ((bstr (a')))]), some (AObj.box false 24 [sv b, strv ((bstr (b')))]), some (AObj.box false 27 [AV.own 5]), some (AObj.row false 60 3 sp), some (AObj.row false 22 1 xs), some (AObj.ghost u1 g1)] [some (AObj.box false 34 [AV.ps 2 ps, AV.ps 3 ts]), some (AObj.box false 24 [sv a, strv ((bstr (a')))]), some (AObj.box false 24 [sv b, strv ((bstr (b')))]), some (AObj.box false 27 [AV.own 5]), some (AObj.row false 60 3 sp), some (AObj.row false 22 1 ys), some (AObj.ghost u1 g1), none, none] (AV.tup []) :=
  Inl.of (hc := h) fits hmix Tryz.func117 (by kernel_rfl)
    (orc := fun us G => [Orc.u (1 : Nat), Orc.b true, Orc.i [some (AObj.box false 34 [AV.ps 2 ps, AV.ps 3 ts]), some (AObj.box false 24 [sv a, strv ((bstr (a')))]), some (AObj.box false 24 [sv b, strv ((bstr (b')))]), some (AObj.box false 27 [AV.own 5]), some (AObj.row false 60 3 sp), some (AObj.row false 22 1 ys), some (AObj.ghost u1 g1), some (AObj.ghost us G), none] (AV.tup [])]) (fun us G => by kernel_rfl) (by kernel_rfl) (by kernel_rfl) (by simp)
theorem so_sort_inl (ps : List (List Value)) (ts : List (List Value)) (a : List UInt8) (a' : List UInt8) (b : List UInt8) (b' : List UInt8) (sp : List AV) (xs : List AV) (ys : List AV) (l : Int) (h : ∀ (us : List Value) (G : List AV), AllP
    [IntKind.wrap IntKind.u64 (↑(List.length xs) : Int) = (↑(List.length xs) : Int),
     CallsTo Tryz.prog (118 : Nat) [uv ((↑(List.length xs) : Int))] (iv (l)),
     Inl Tryz.prog (117 : Nat) [AV.own 5, iv 0, iv ((↑(List.length xs) : Int)), iv (l), AV.fn (14 : Nat) []] [some (AObj.box false 34 [AV.ps 2 ps, AV.ps 3 ts]), some (AObj.box false 24 [sv a, strv ((bstr (a')))]), some (AObj.box false 24 [sv b, strv ((bstr (b')))]), some (AObj.box false 27 [AV.own 5]), some (AObj.row false 60 3 sp), some (AObj.row false 22 1 xs), some (AObj.ghost us G)] [some (AObj.box false 34 [AV.ps 2 ps, AV.ps 3 ts]), some (AObj.box false 24 [sv a, strv ((bstr (a')))]), some (AObj.box false 24 [sv b, strv ((bstr (b')))]), some (AObj.box false 27 [AV.own 5]), some (AObj.row false 60 3 sp), some (AObj.row false 22 1 ys), some (AObj.ghost us G), none, none] (AV.tup [])]) :
    Inl Tryz.prog 70 [AV.own 5, AV.fn (14 : Nat) []] [some (AObj.box false 34 [AV.ps 2 ps, AV.ps 3 ts]), some (AObj.box false 24 [sv a, strv ((bstr (a')))]), some (AObj.box false 24 [sv b, strv ((bstr (b')))]), some (AObj.box false 27 [AV.own 5]), some (AObj.row false 60 3 sp), some (AObj.row false 22 1 xs)] [some (AObj.box false 34 [AV.ps 2 ps, AV.ps 3 ts]), some (AObj.box false 24 [sv a, strv ((bstr (a')))]), some (AObj.box false 24 [sv b, strv ((bstr (b')))]), some (AObj.box false 27 [AV.own 5]), some (AObj.row false 60 3 sp), some (AObj.row false 22 1 ys), none, none, none] (AV.tup []) :=
  Inl.of (hc := h) fits hmix Tryz.func70 (by kernel_rfl)
    (orc := fun us G => [Orc.a (iv (l)), Orc.i [some (AObj.box false 34 [AV.ps 2 ps, AV.ps 3 ts]), some (AObj.box false 24 [sv a, strv ((bstr (a')))]), some (AObj.box false 24 [sv b, strv ((bstr (b')))]), some (AObj.box false 27 [AV.own 5]), some (AObj.row false 60 3 sp), some (AObj.row false 22 1 ys), some (AObj.ghost us G), none, none] (AV.tup [])]) (fun us G => by kernel_rfl) (by kernel_rfl) (by kernel_rfl) (by simp)
end Go.Flow.Tryz
namespace Go.Flow.Tryz
open Go Go.Proofs Go.RowKit Go.Flow
set_option maxRecDepth 100000
def insR (x : Rat) : List Rat → List Rat → List Rat
  | [], Q => x :: Q
  | y :: P, Q => if x < y then insR x P (y :: Q) else (y :: P).reverse ++ x :: Q
def sortF : List Rat → List Rat → List Rat
  | S, [] => S
  | S, x :: R => sortF (insR x S.reverse []) R
theorem insR_perm (x : Rat) : ∀ P Q : List Rat, (insR x P Q).Perm (x :: (P.reverse ++ Q))
  | [], Q => List.Perm.refl _
  | y :: P, Q => by
    unfold insR
    split
    · refine (insR_perm x P (y :: Q)).trans (List.Perm.cons _ ?_)
      rw [List.reverse_cons, List.append_assoc]
      exact List.Perm.refl _
    · exact List.perm_middle
theorem insR_length (x : Rat) (P Q : List Rat) : (insR x P Q).length = P.length + Q.length + 1 := by
  rw [(insR_perm x P Q).length_eq]; simp
theorem insR_mem {x z : Rat} {P Q : List Rat} (h : z ∈ insR x P Q) : z = x ∨ z ∈ P ∨ z ∈ Q := by
  have := (insR_perm x P Q).mem_iff.1 h
  simpa using this
theorem sortF_perm : ∀ (R S : List Rat), (sortF S R).Perm (S ++ R)
  | [], S => by simp [sortF]
  | x :: R, S => by
    refine (sortF_perm R _).trans ?_
    have := (insR_perm x S.reverse []).append_right R
    refine this.trans ?_
    simp only [List.reverse_reverse, List.append_nil, List.cons_append]
    exact List.perm_middle.symm
abbrev rowQ (l : List Rat) : List AV := l.map fun x => qv x
section
variable (ps ts : List (List Value)) (a a' b b' : List UInt8) (sp : List AV) (u1 u2 u3 : List Value) (g1 g2 g3 : List AV)
abbrev soT (n i j : Int) : List AV := st 53 [.own 5, iv 0, iv n, .fn 14 [], .any, .any, .any, .any, iv i, iv j]
abbrev soT0 (n i : Int) : List AV := st 53 [.own 5, iv 0, iv n, .fn 14 [], .any, .any, .any, .any, iv i]
abbrev soL (xs : List AV) : Heap := [some (.box false 34 [.ps 2 ps, .ps 3 ts]), some (.box false 24 [sv a, sv a']), some (.box false 24 [sv b, sv b']), some (.box false 27 [.own 5]), some (.row false 60 3 sp), some (.row false 22 1 xs)]
abbrev soH (xs : List AV) : Heap := soL ps ts a a' b b' sp xs ++ [some (.ghost u1 g1), some (.ghost u2 g2), some (.ghost u3 g3)]
theorem so_inner (x : Rat) (hx : Sm x) (n i : Int) : ∀ (P Q R : List Rat), (∀ y ∈ P, Sm y) → (P.length : Int) + Q.length + R.length < 1000000 → ∃ j, Rounds Tryz.prog (bodyOf (loopAt Tryz.f143 1)) (P.length + 1) (soT n i P.length) (soH ps ts a a' b b' sp u1 u2 u3 g1 g2 g3 (rowQ (P.reverse ++ x :: (Q ++ R)))) (.exit 2)
    (soT n i j) (soH ps ts a a' b b' sp u1 u2 u3 g1 g2 g3 (rowQ (insR x P Q ++ R))) := by
  intro P
  induction P with
  | nil =>
    intro Q R _ _
    refine ⟨0, ?_⟩
    have hd : decide ((0 : Int) > 0) = false := by decide
    have g := so_s0 ps ts a a' b b' sp (rowQ (x :: (Q ++ R))) u1 u2 u3 g1 g2 g3 n i 0 ⟨hd, hd, hd, hd, hd, hd, hd, hd, hd, hd, hd, hd, hd, rfl, trivial⟩
    exact Rounds.out 0 g (by simp)
  | cons y P ihP =>
    intro Q R hP hl
    have hy : Sm y := hP y (by simp)
    have hj : (((y :: P).length : Nat) : Int) = (P.length : Int) + 1 := by simp
    have hjp : decide ((P.length : Int) + 1 > 0) = true := decide_eq_true (by omega)
    have e1 : ((P.length : Int) + 1 - 1) = (P.length : Int) := by omega
    have t1 : Int.toNat ((P.length : Int) + 1) = P.length + 1 := by omega
    have t2 : Int.toNat ((P.length : Int) + 1 - 1) = P.length := by omega
    have w1 : IntKind.i64.wrap ((P.length : Int) + 1 - 1) = (P.length : Int) + 1 - 1 := by
      simp only [List.length_cons] at hl
      rw [w64]; omega
    have hlist : (y :: P).reverse ++ x :: (Q ++ R) = P.reverse ++ y :: x :: (Q ++ R) := by simp
    have gx : (rowQ (P.reverse ++ y :: x :: (Q ++ R)))[Int.toNat ((P.length : Int) + 1)]? = some (qv x) := by
      rw [t1]
      simp
    have gy : (rowQ (P.reverse ++ y :: x :: (Q ++ R)))[Int.toNat ((P.length : Int) + 1 - 1)]? = some (qv y) := by
      rw [t2]
      simp
    have len : (rowQ (P.reverse ++ y :: x :: (Q ++ R))).length = P.length + Q.length + R.length + 2 := by simp; omega
    have b1 : 0 ≤ (P.length : Int) + 1 ∧ (P.length : Int) + 1 < ((rowQ (P.reverse ++ y :: x :: (Q ++ R))).length : Int) := by rw [len]; omega
    have b2 : 0 ≤ (P.length : Int) + 1 - 1 ∧ (P.length : Int) + 1 - 1 < ((rowQ (P.reverse ++ y :: x :: (Q ++ R))).length : Int) := by rw [len]; omega
    have cm := qcmp hx hy
    rw [hlist, hj]
    by_cases hlt : x < y
    · have hc : decide (cmpQ x y < 0) = true := decide_eq_true ((cmpQ_lt x y).2 hlt)
      have s1 : (rowQ (P.reverse ++ y :: x :: (Q ++ R))).set (Int.toNat ((P.length : Int) + 1)) (qv y) = rowQ (P.reverse ++ y :: y :: (Q ++ R)) := by
        rw [t1]
        simp
      have g3' : ((rowQ (P.reverse ++ y :: x :: (Q ++ R))).set (Int.toNat ((P.length : Int) + 1)) (qv y))[Int.toNat ((P.length : Int) + 1 - 1)]? = some (qv y) := by
        rw [s1, t2]
        simp
      have b3 : 0 ≤ (P.length : Int) + 1 - 1 ∧ (P.length : Int) + 1 - 1 < (((rowQ (P.reverse ++ y :: x :: (Q ++ R))).set (Int.toNat ((P.length : Int) + 1)) (qv y)).length : Int) := by rw [List.length_set]; exact b2
      have s2 : ((rowQ (P.reverse ++ y :: x :: (Q ++ R))).set (Int.toNat ((P.length : Int) + 1)) (qv y)).set (Int.toNat ((P.length : Int) + 1 - 1)) (qv x) = rowQ (P.reverse ++ x :: (y :: Q ++ R)) := by
        rw [s1, t2]
        simp
      obtain ⟨j, ih⟩ := ihP (y :: Q) R (fun z hz => hP z (by simp [hz])) (by simp only [List.length_cons] at hl ⊢; omega)
      refine ⟨j, ?_⟩
      have e : insR x (y :: P) Q = insR x P (y :: Q) := by rw [insR, if_pos hlt]
      rw [e]
      have g := so_sw ps ts a a' b b' sp (rowQ (P.reverse ++ y :: x :: (Q ++ R))) u1 u2 u3 g1 g2 g3 n i ((P.length : Int) + 1) (cmpQ x y) (qT x) (qT y) (by
        repeat' first | exact AllP.nil | refine AllP.cons ?_ ?_
        all_goals first | exact hjp | exact gx | exact gy | exact w1 | exact b1 | exact b2 | exact cm | exact hc | exact b3 | exact g3')
      refine Rounds.step ?_ ih
      have g' : Goes Tryz.prog (bodyOf (loopAt Tryz.f143 1)) _ _ _ (soT n i ((P.length : Int) + 1 - 1)) (soH ps ts a a' b b' sp u1 u2 u3 g1 g2 g3 (((rowQ (P.reverse ++ y :: x :: (Q ++ R))).set (Int.toNat ((P.length : Int) + 1)) (qv y)).set (Int.toNat ((P.length : Int) + 1 - 1)) (qv x))) := g
      rw [s2, e1] at g'
      exact g'
    · have hc : decide (cmpQ x y < 0) = false := decide_eq_false fun h => hlt ((cmpQ_lt x y).1 h)
      refine ⟨(P.length : Int) + 1, ?_⟩
      have e : insR x (y :: P) Q ++ R = P.reverse ++ y :: x :: (Q ++ R) := by rw [insR, if_neg hlt]; simp
      rw [e]
      refine Rounds.out _ (so_s1 ps ts a a' b b' sp (rowQ (P.reverse ++ y :: x :: (Q ++ R))) u1 u2 u3 g1 g2 g3 n i ((P.length : Int) + 1) (cmpQ x y) (qT x) (qT y) ?_) (by simp)
      repeat' first | exact AllP.nil | refine AllP.cons ?_ ?_
      all_goals first | exact hjp | exact gx | exact gy | exact w1 | exact b1 | exact b2 | exact cm | exact hc | rfl
theorem so_outer (n : Nat) (hn : n < 1000) : ∀ (R S : List Rat), (∀ y ∈ S, Sm y) → (∀ y ∈ R, Sm y) → S.length + R.length = n →
    Rounds Tryz.prog (bodyOf (loopAt Tryz.f143 0)) (R.length + 1) (soT0 n S.length) (soH ps ts a a' b b' sp u1 u2 u3 g1 g2 g3 (rowQ (S ++ R))) (.exit 0)
      (soT0 n n) (soH ps ts a a' b b' sp u1 u2 u3 g1 g2 g3 (rowQ (sortF S R))) := by
  intro R
  induction R with
  | nil =>
    intro S hS _ hl
    simp only [List.length_nil, Nat.add_zero] at hl
    subst hl
    rw [List.append_nil]
    exact Rounds.out _ (so_end ps ts a a' b b' sp _ u1 u2 u3 g1 g2 g3 S.length S.length ⟨decide_eq_false (by omega), trivial⟩) (by simp)
  | cons x R ihR =>
    intro S hS hR hl
    simp only [List.length_cons] at hl
    obtain ⟨j, hin⟩ := so_inner ps ts a a' b b' sp u1 u2 u3 g1 g2 g3 x (hR x (by simp)) n S.length S.reverse [] R (fun y hy => hS y (by simpa using hy)) (by simp; omega)
    rw [List.reverse_reverse, List.nil_append, List.length_reverse] at hin
    have hloop : loopAt Tryz.f143 1 = .loop (bodyOf (loopAt Tryz.f143 1)) := by kernel_rfl
    have hg := Goes.loop hin
    rw [← hloop] at hg
    have w1 : IntKind.i64.wrap ((S.length : Int) + 1) = (S.length : Int) + 1 := by rw [w64]; omega
    have g := so_in ps ts a a' b b' sp (rowQ (S ++ x :: R)) (rowQ (insR x S.reverse [] ++ R)) u1 u2 u3 g1 g2 g3 n S.length j ⟨decide_eq_true (by omega), hg, w1, trivial⟩
    have hlen : (insR x S.reverse []).length = S.length + 1 := by rw [insR_length]; simp
    have ih := ihR (insR x S.reverse []) (fun y hy => by
      rcases insR_mem hy with rfl | h | h
      · exact hR _ (by simp)
      · exact hS y (by simpa using h)
      · cases h) (fun y hy => hR y (by simp [hy])) (by omega)
    rw [hlen] at ih
    refine Rounds.step g ?_
    rw [show ((S.length + 1 : Nat) : Int) = (S.length : Int) + 1 by push_cast; rfl] at ih
    exact ih
theorem so_first (x : Rat) (R : List Rat) (hx : Sm x) (hR : ∀ y ∈ R, Sm y) (hl : R.length < 900) :
    Inl Tryz.prog 143 [.own 5, iv 0, iv ((R.length : Int) + 1), .fn 14 []] (soL ps ts a a' b b' sp (rowQ (x :: R)) ++ [some (.ghost u1 g1), some (.ghost u2 g2)]) (soL ps ts a a' b b' sp (rowQ (sortF [x] R)) ++ [some (.ghost u1 g1), some (.ghost u2 g2), none]) (.tup []) := by
  refine so_ins_inl ps ts a a' b b' sp (rowQ (x :: R)) (rowQ (sortF [x] R)) u1 u2 g1 g2 ((R.length : Int) + 1) ((R.length : Int) + 1) fun us G => ⟨by decide, ?_, trivial⟩
  have h := so_outer ps ts a a' b b' sp u1 u2 us g1 g2 G (R.length + 1) (by omega) R [x] (by simpa using hx) hR (by simp; omega)
  have hloop : loopAt Tryz.f143 0 = .loop (bodyOf (loopAt Tryz.f143 0)) := by kernel_rfl
  have hg := Goes.loop h
  rw [← hloop] at hg
  have e : ((R.length + 1 : Nat) : Int) = (R.length : Int) + 1 := by push_cast; rfl
  rw [e] at hg
  exact (same_cast (Same.mask [true, true, true, true, false, false, false, false, true]) (T1 := soT0 ((R.length : Int) + 1) 1) (by kernel_rfl) rfl).goes hg
theorem sort_inl (x : Rat) (R : List Rat) (hx : Sm x) (hR : ∀ y ∈ R, Sm y) (hl : R.length < 12) :
    Inl Tryz.prog 70 [.own 5, .fn 14 []] (soL ps ts a a' b b' sp (rowQ (x :: R))) (soL ps ts a a' b b' sp (rowQ (sortF [x] R)) ++ [none, none, none]) (.tup []) := by
  have hlen : ((rowQ (x :: R)).length : Int) = (R.length : Int) + 1 := by simp
  refine so_sort_inl ps ts a a' b b' sp (rowQ (x :: R)) (rowQ (sortF [x] R)) (Lib.bitLen (R.length + 1)) fun us G => ⟨?_, ?_, ?_, trivial⟩
  · rw [hlen, wu64]; omega
  · rw [hlen]
    have hb := callsTo_v (body_of Tryz.func118 (by kernel_rfl) (by kernel_rfl)) [.int .u64 ((R.length : Int) + 1)] (r := iv (Lib.bitLen (R.length + 1))) fun w _ => (Tryz.bits_Len ((R.length : Int) + 1) w (by omega) (by omega)).mono fun e w' ⟨h1, h2⟩ => ⟨_, h1, by subst h2; exact Below.refl _ _, fun E => by
      rw [show ((R.length : Int) + 1).toNat = R.length + 1 by omega]
      exact .v _⟩
    exact hb
  · rw [hlen]
    refine so_pdq_inl ps ts a a' b b' sp (rowQ (x :: R)) (rowQ (sortF [x] R)) us G ((R.length : Int) + 1) _ fun us' G' => ⟨by rw [w64]; omega, decide_eq_true (by omega), ?_, trivial⟩
    exact so_first ps ts a a' b b' sp us us' G G' x R hx hR (by omega)
end
end Go.Flow.Tryz
namespace Go.Proofs
def Tryz.laysC_ren : Go.Shelf.Ren := ⟨fun | 44 => 71 | n => n, fun | 25 => 27 | 26 => 22 | 3 => 3 | 4 => 4 | 0 => 0 | n => n, fun | n => n⟩
theorem Tryz.laysC : Go.Proofs.SlLaysN.n44 Tryz.prog Tryz.laysC_ren := {
  mixed := by kernel_rfl
  f44 := ⟨Tryz.f71.name, by decide, Tryz.func71.trans (congrArg some (by kernel_rfl))⟩
  t0 := Tryz.underlying0
  a0 := Tryz.isAgg0
  z0 := Tryz.sizeOf0
  v0 := Tryz.zeroValue0
  t3 := Tryz.underlying3
  a3 := Tryz.isAgg3
  z3 := Tryz.sizeOf3
  v3 := Tryz.zeroValue3
  t4 := Tryz.underlying4
  a4 := Tryz.isAgg4
  z4 := Tryz.sizeOf4
  v4 := Tryz.zeroValue4
  t25 := Tryz.underlying27
  a25 := Tryz.isAgg27
  z25 := Tryz.sizeOf27
  v25 := Tryz.zeroValue27
  t26 := Tryz.underlying22
  a26 := Tryz.isAgg22
  z26 := Tryz.sizeOf22
  v26 := Tryz.zeroValue22
  i26 := by kernel_rfl }
end Go.Proofs
namespace Go.Flow.Tryz
open Go Go.Proofs Go.RowKit Go.Flow
set_option maxRecDepth 100000
abbrev rowS (zs : List (List UInt8)) : List AV := zs.map fun z => sv z
theorem flats_rowS : ∀ zs : List (List UInt8), flats (rowS zs) = zs.map fun z => .v (encStr z)
  | [] => rfl
  | z :: zs => by
    show flats (sv z :: rowS zs) = _
    simp only [flats, flats_rowS zs, List.map_cons]
    rfl
theorem getH_none (H : Heap) {k : Nat} (h : H.length ≤ k) : getH H k = none := by
  unfold getH
  rw [List.getElem?_eq_none h]
  rfl
theorem grow_nil (w : World) : Sort.grow w #[] = w := by
  unfold Sort.grow
  simp
theorem compact_inl (H : Heap) (h : Nat) (e : TypeId) (zs : List (List UInt8)) (h0 : zs ≠ []) (hl : zs.length < 1000) (ho : getH H h = some (.row false e 1 (rowS zs))) :
    Inl Tryz.prog 71 [.own h] H (setAt H h none ++ [none, some (.row false e 1 (rowS (Lib.compact zs)))]) (.own (H.length + 1)) := by
  have hh : h < H.length := getH_lt ho
  have hsl : (setAt H h none).length = H.length := setAt_length_eq _ _ _ hh
  refine ⟨body_of Tryz.func71 (by kernel_rfl) (by kernel_rfl), ?_, by simp [hsl], fun B S0 w0 α a w us G s hfr => ?_⟩
  · rw [show H.length = (setAt H h none).length + 0 by omega, getH_app]; rfl
  have hoG : getH (H ++ [some (.ghost us G)]) h = some (.row false e 1 (rowS zs)) := by rw [getH_left hh]; exact ho
  have hobj := s.objs h _ hoG
  obtain ⟨v, xs, hv, hown, hrep, _, _⟩ := hobj
  rw [flats_rowS] at hrep
  have hxs : xs = zs.map encStr := by
    have : (zs.map fun z => AV.v (encStr z)) = (zs.map encStr).map AV.v := by simp
    rw [this] at hrep
    exact repL_v hrep
  subst hxs
  have ht := s.tmps
  have hlen : (rowS zs).length = zs.length := by simp
  rw [hlen] at hown
  obtain ⟨hx1, hx2⟩ := hown
  rcases hx2 with ⟨_, hz⟩ | ⟨g, cap, cur, rfl, hBg, hheap, hnc, hcm, hcs, htake⟩
  · exact absurd (List.length_eq_zero_iff.1 hz) h0
  have htm : a.tmps = #[.slice (some ⟨g, 0, none⟩) zs.length cap] := by
    cases hat : a.tmps.toList with
    | nil => rw [hat] at ht; cases ht
    | cons u rest =>
      rw [hat] at ht
      cases ht with
      | cons _ _ _ _ hu hr =>
        cases hr
        cases hu with
        | own _ a' n' c' hu' =>
          have : some (Value.slice a' n' c') = some (.slice (some ⟨g, 0, none⟩) zs.length cap) := hu'.symm.trans hv
          cases this
          exact Array.ext' (by rw [hat])
  rw [htm]
  have hH : Sort.Holds encStr w g 0 zs.toArray := holds_of_block hheap (by simpa using htake)
  have hc := AnyG.slices_Compact_string Tryz.laysC g 0 cap zs w hH (by omega) hnc
  refine hc.mono ?_
  rintro en w' ⟨rfl, q, rfl⟩
  have hcl : (Lib.compact zs).length ≤ zs.length := Lib.compact_length_le zs
  generalize hcz : Lib.compact zs = cz at hcl ⊢
  have hdl : (cz ++ List.replicate (zs.length - cz.length) []).length = zs.length := by simp; omega
  have hgrown := grownBy_sorted (w := w) (g := g) (n := q) (os := #[]) (cz ++ List.replicate (zs.length - cz.length) []).toArray
  rw [grow_nil] at hgrown
  have hcells := heap_sorted (w := w) (g := g) (n := q) (os := #[]) (cz ++ List.replicate (zs.length - cz.length) []).toArray hheap
  rw [grow_nil] at hcells
  have htk := take_putCells cur (cz ++ List.replicate (zs.length - cz.length) []) (by rw [hdl, hcs]; omega)
  generalize Sort.putCells encStr 0 (cz ++ List.replicate (zs.length - cz.length) []).toArray cur = cur' at hcells htk
  have hsz' : cur'.size = cur.size := by
    have := congrArg (fun o => match o with | some (Obj.cells c _ _) => c.size | _ => 0) hcells
    have h2 : (Sort.putRow encStr (Sort.ahead w q) g 0 (cz ++ List.replicate (zs.length - cz.length) []).toArray).heap[g]? = some (.cells (Sort.putCells encStr 0 (cz ++ List.replicate (zs.length - cz.length) []).toArray cur) e (0, 0)) := by
      have := heap_sorted (w := w) (g := g) (n := q) (os := #[]) (cz ++ List.replicate (zs.length - cz.length) []).toArray hheap
      rwa [grow_nil] at this
    rw [h2] at hcells
    cases hcells
    simp [Sort.putCells]
  have hαn : α (H.length + 1) = none := hfr _ (by omega)
  have hgr := s.grow (nh := H.length + 1) (o' := .row false e 1 (rowS cz)) (v' := .slice (some ⟨g, 0, none⟩) cz.length cap) hoG rfl hv hαn hgrown (.inl rfl) fun _ => by
    refine ⟨_, cz.map encStr, updα_same _ _ _, ⟨by simp, .inr ⟨g, cap, cur', by simp, hBg, hcells, by simp; omega, hcm, by rw [hsz', hcs], ?_⟩⟩, ?_, ?_, by decide⟩
    · have hpre : (cz ++ List.replicate (zs.length - cz.length) []).map encStr = cz.map encStr ++ (List.replicate (zs.length - cz.length) []).map encStr := by simp
      rw [hpre] at htk
      have h2 : (cur'.toList.take ((cz ++ List.replicate (zs.length - cz.length) []).length)).take cz.length = cz.map encStr := by
        rw [htk, List.take_append_of_le_length (by simp)]
        exact List.take_of_length_le (by simp)
      rw [List.take_take, Nat.min_eq_left (by rw [hdl]; exact hcl)] at h2
      simpa using h2
    · rw [flats_rowS]
      have : (cz.map fun z => AV.v (encStr z)) = (cz.map encStr).map AV.v := by simp
      rw [this]
      exact repL_plain _ _
    · intro x hx
      obtain ⟨z, _, rfl⟩ := List.mem_map.1 hx
      rfl
  refine ⟨_, _, _, rfl, fun k => ?_, hgr.reframe (T' := [.own (H.length + 1)]) (a' := { tmps := #[.slice (some ⟨g, 0, none⟩) cz.length cap], defers := [] }) (.cons _ _ _ _ (.own _ _ _ _ (updα_same _ _ _)) .nil) .nil, fun k hk => ?_, fun k x hx hlv => ⟨?_, ?_⟩⟩
  ·
    have hl1 : (setAt (H ++ [some (.ghost us G)]) h none).length = H.length + 1 := by rw [setAt_length_eq _ _ _ (by simp; omega)]; simp
    by_cases k1 : k = H.length + 1
    · subst k1
      rw [getH_setAt_same, getH_setAt_other _ _ _ _ (by omega), show H.length + 1 = (setAt H h none).length + 1 by omega, getH_app]
      rfl
    · rw [getH_setAt_other _ _ _ _ k1]
      by_cases k2 : k = H.length
      · subst k2
        rw [getH_setAt_same, getH_setAt_other _ _ _ _ (by omega), show H.length = H.length + 0 from rfl, getH_app]
        rfl
      · rw [getH_setAt_other (setAt H h none ++ _) _ _ _ k2]
        rcases Nat.lt_or_ge k H.length with h3 | h3
        · rw [getH_left (by rw [hsl]; exact h3), setAt_left (by exact hh), getH_left (by rw [hsl]; exact h3)]
        · rw [getH_none _ (by rw [hl1]; omega), getH_none _ (by simp [hsl]; omega)]
  · have : (setAt H h none ++ [none, some (AObj.row false e 1 (rowS cz))]).length = H.length + 2 := by simp [hsl]
    rw [this] at hk
    rw [updα_other _ _ (by omega)]
    exact hfr k (by omega)
  · have hkl : k < H.length := getH_lt hx
    rw [getH_left (by rw [hsl]; exact hkl), getH_setAt_other _ _ _ _ (fun e => by rw [e, ho] at hx; cases hx)]
    exact hx
  · have hkl : k < H.length := getH_lt hx
    exact updα_other _ _ (by omega)
end Go.Flow.Tryz
namespace Go.Flow.Tryz
open Go Go.Proofs Go.RowKit Go.Flow
set_option maxRecDepth 100000
theorem al_no0_step (ps : List (List Value)) (ts : List (List Value)) (a : List UInt8) (a' : List UInt8) (b : List UInt8) (b' : List UInt8) (c1 : List UInt8) (c2 : List UInt8) (c3 : List UInt8) (c4 : List UInt8) (c5 : List UInt8) (c6 : List UInt8) (lo : List UInt8) (hi : List UInt8) (len : Int) (i : Int) {ex : Ex} {T2 : List AV} {H2 : Heap} (m : Nat) (h : AllP
    [decide (i < len) = true,
     CallsTo Tryz.prog (69 : Nat) [AV.agg [AV.ps 2 ps, AV.ps 3 ts], iv (i)] (AV.agg [sv c1, sv c2, sv c3, sv c4, sv c5, sv c6]),
     CallsTo Tryz.prog (68 : Nat) [AV.agg [sv c1, sv c2, sv c3, sv c4, sv c5, sv c6], AV.agg [sv a, strv ((bstr (a')))], AV.agg [sv b, strv ((bstr (b')))]] (AV.tup [sv lo, sv hi, bv (false)]),
     false = false,
     IntKind.wrap IntKind.i64 (i + (1 : Int)) = i + (1 : Int)])
    (h2 : Rounds Tryz.prog (bodyOf (loopAt Tryz.f25 (0 : Nat))) m (st 160 [AV.any, AV.any, AV.any, AV.op 0 0, AV.op 1 0, AV.op 2 0, AV.any, AV.any, AV.any, AV.v (Value.slice none 0 0), AV.op 3 0, iv (i), sv lo, sv hi, bv (false), AV.any, AV.any, AV.any, AV.any, AV.any, AV.any, AV.any, AV.any, AV.any, AV.any, AV.any, AV.any, AV.any, AV.any, AV.any, AV.any, AV.any, AV.any, AV.any, AV.any, AV.any, AV.any, AV.any, AV.ps 3 ts, iv (len), iv ((i + (1 : Int)))]) [some (AObj.box false 34 [AV.ps 2 ps, AV.ps 3 ts]), some (AObj.box false 24 [sv a, strv ((bstr (a')))]), some (AObj.box false 24 [sv b, strv ((bstr (b')))]), some (AObj.box false 27 [AV.v (Value.slice none 0 0)])] ex T2 H2) :
    Rounds Tryz.prog (bodyOf (loopAt Tryz.f25 (0 : Nat))) (m + 1) (st 160 [AV.any, AV.any, AV.any, AV.op 0 0, AV.op 1 0, AV.op 2 0, AV.any, AV.any, AV.any, AV.v (Value.slice none 0 0), AV.op 3 0, AV.any, AV.any, AV.any, AV.any, AV.any, AV.any, AV.any, AV.any, AV.any, AV.any, AV.any, AV.any, AV.any, AV.any, AV.any, AV.any, AV.any, AV.any, AV.any, AV.any, AV.any, AV.any, AV.any, AV.any, AV.any, AV.any, AV.any, AV.ps 3 ts, iv (len), iv (i)]) [some (AObj.box false 34 [AV.ps 2 ps, AV.ps 3 ts]), some (AObj.box false 24 [sv a, strv ((bstr (a')))]), some (AObj.box false 24 [sv b, strv ((bstr (b')))]), some (AObj.box false 27 [AV.v (Value.slice none 0 0)])] ex T2 H2 :=
  Rounds.step_of fits hmix [Orc.b true, Orc.a (AV.agg [sv c1, sv c2, sv c3, sv c4, sv c5, sv c6]), Orc.a (AV.tup [sv lo, sv hi, bv (false)]), Orc.b false] (41 : Nat) [(0 : Nat), (1 : Nat), (2 : Nat), (3 : Nat)] (by kernel_rfl) h h2
theorem al_in0_step (ps : List (List Value)) (ts : List (List Value)) (a : List UInt8) (a' : List UInt8) (b : List UInt8) (b' : List UInt8) (c1 : List UInt8) (c2 : List UInt8) (c3 : List UInt8) (c4 : List UInt8) (c5 : List UInt8) (c6 : List UInt8) (lo : List UInt8) (hi : List UInt8) (len : Int) (i : Int) {ex : Ex} {T2 : List AV} {H2 : Heap} (m : Nat) (h : AllP
    [decide (i < len) = true,
     CallsTo Tryz.prog (69 : Nat) [AV.agg [AV.ps 2 ps, AV.ps 3 ts], iv (i)] (AV.agg [sv c1, sv c2, sv c3, sv c4, sv c5, sv c6]),
     CallsTo Tryz.prog (68 : Nat) [AV.agg [sv c1, sv c2, sv c3, sv c4, sv c5, sv c6], AV.agg [sv a, strv ((bstr (a')))], AV.agg [sv b, strv ((bstr (b')))]] (AV.tup [sv lo, sv hi, bv (true)]),
     true = true,
     nat_lit 1 ≤ nat_lit 9223372036854775807 ∧ nat_lit 40 ≤ nat_lit 140737488355328,
     nat_lit 2 ≤ nat_lit 9223372036854775807 ∧ nat_lit 32 ≤ nat_lit 140737488355328,
     IntKind.wrap IntKind.i64 (i + (1 : Int)) = i + (1 : Int)])
    (h2 : Rounds Tryz.prog (bodyOf (loopAt Tryz.f25 (0 : Nat))) m (st 160 [AV.any, AV.any, AV.any, AV.op 0 0, AV.op 1 0, AV.op 2 0, AV.any, AV.any, AV.any, AV.own 4, AV.op 3 0, iv (i), sv lo, sv hi, bv (true), AV.any, AV.any, AV.any, AV.any, AV.any, AV.any, AV.any, AV.any, AV.any, AV.any, AV.any, AV.any, AV.any, AV.any, AV.any, AV.any, AV.any, AV.any, AV.any, AV.any, AV.any, AV.any, AV.any, AV.ps 3 ts, iv (len), iv ((i + (1 : Int)))]) [some (AObj.box false 34 [AV.ps 2 ps, AV.ps 3 ts]), some (AObj.box false 24 [sv a, strv ((bstr (a')))]), some (AObj.box false 24 [sv b, strv ((bstr (b')))]), some (AObj.box false 27 [AV.own 5]), some (AObj.row false 60 3 [AV.agg [iv (i), sv lo, sv hi]]), some (AObj.row false 22 1 [sv lo, sv hi])] ex T2 H2) :
    Rounds Tryz.prog (bodyOf (loopAt Tryz.f25 (0 : Nat))) (m + 1) (st 160 [AV.any, AV.any, AV.any, AV.op 0 0, AV.op 1 0, AV.op 2 0, AV.any, AV.any, AV.any, AV.v (Value.slice none 0 0), AV.op 3 0, AV.any, AV.any, AV.any, AV.any, AV.any, AV.any, AV.any, AV.any, AV.any, AV.any, AV.any, AV.any, AV.any, AV.any, AV.any, AV.any, AV.any, AV.any, AV.any, AV.any, AV.any, AV.any, AV.any, AV.any, AV.any, AV.any, AV.any, AV.ps 3 ts, iv (len), iv (i)]) [some (AObj.box false 34 [AV.ps 2 ps, AV.ps 3 ts]), some (AObj.box false 24 [sv a, strv ((bstr (a')))]), some (AObj.box false 24 [sv b, strv ((bstr (b')))]), some (AObj.box false 27 [AV.v (Value.slice none 0 0)])] ex T2 H2 :=
  Rounds.step_of fits hmix [Orc.b true, Orc.a (AV.agg [sv c1, sv c2, sv c3, sv c4, sv c5, sv c6]), Orc.a (AV.tup [sv lo, sv hi, bv (true)]), Orc.b true] (41 : Nat) [(0 : Nat), (1 : Nat), (2 : Nat), (3 : Nat), (10 : Nat), (15 : Nat)] (by kernel_rfl) h h2
theorem al_no_step (ps : List (List Value)) (ts : List (List Value)) (a : List UInt8) (a' : List UInt8) (b : List UInt8) (b' : List UInt8) (c1 : List UInt8) (c2 : List UInt8) (c3 : List UInt8) (c4 : List UInt8) (c5 : List UInt8) (c6 : List UInt8) (lo : List UInt8) (hi : List UInt8) (sp : List AV) (xs : List AV) (len : Int) (i : Int) {ex : Ex} {T2 : List AV} {H2 : Heap} (m : Nat) (h : AllP
    [decide (i < len) = true,
     CallsTo Tryz.prog (69 : Nat) [AV.agg [AV.ps 2 ps, AV.ps 3 ts], iv (i)] (AV.agg [sv c1, sv c2, sv c3, sv c4, sv c5, sv c6]),
     CallsTo Tryz.prog (68 : Nat) [AV.agg [sv c1, sv c2, sv c3, sv c4, sv c5, sv c6], AV.agg [sv a, strv ((bstr (a')))], AV.agg [sv b, strv ((bstr (b')))]] (AV.tup [sv lo, sv hi, bv (false)]),
     false = false,
     IntKind.wrap IntKind.i64 (i + (1 : Int)) = i + (1 : Int)])
    (h2 : Rounds Tryz.prog (bodyOf (loopAt Tryz.f25 (0 : Nat))) m (st 160 [AV.any, AV.any, AV.any, AV.op 0 0, AV.op 1 0, AV.op 2 0, AV.any, AV.any, AV.any, AV.own 4, AV.op 3 0, iv (i), sv lo, sv hi, bv (false), AV.any, AV.any, AV.any, AV.any, AV.any, AV.any, AV.any, AV.any, AV.any, AV.any, AV.any, AV.any, AV.any, AV.any, AV.any, AV.any, AV.any, AV.any, AV.any, AV.any, AV.any, AV.any, AV.any, AV.ps 3 ts, iv (len), iv ((i + (1 : Int)))]) [some (AObj.box false 34 [AV.ps 2 ps, AV.ps 3 ts]), some (AObj.box false 24 [sv a, strv ((bstr (a')))]), some (AObj.box false 24 [sv b, strv ((bstr (b')))]), some (AObj.box false 27 [AV.own 5]), some (AObj.row false 60 3 (List.map (ren [(0 : Nat), (1 : Nat), (2 : Nat), (3 : Nat), (4 : Nat), (5 : Nat)] (9 : Nat)) sp)), some (AObj.row false 22 1 (List.map (ren [(0 : Nat), (1 : Nat), (2 : Nat), (3 : Nat), (4 : Nat), (5 : Nat)] (9 : Nat)) xs))] ex T2 H2) :
    Rounds Tryz.prog (bodyOf (loopAt Tryz.f25 (0 : Nat))) (m + 1) (st 160 [AV.any, AV.any, AV.any, AV.op 0 0, AV.op 1 0, AV.op 2 0, AV.any, AV.any, AV.any, AV.own 4, AV.op 3 0, AV.any, AV.any, AV.any, AV.any, AV.any, AV.any, AV.any, AV.any, AV.any, AV.any, AV.any, AV.any, AV.any, AV.any, AV.any, AV.any, AV.any, AV.any, AV.any, AV.any, AV.any, AV.any, AV.any, AV.any, AV.any, AV.any, AV.any, AV.ps 3 ts, iv (len), iv (i)]) [some (AObj.box false 34 [AV.ps 2 ps, AV.ps 3 ts]), some (AObj.box false 24 [sv a, strv ((bstr (a')))]), some (AObj.box false 24 [sv b, strv ((bstr (b')))]), some (AObj.box false 27 [AV.own 5]), some (AObj.row false 60 3 sp), some (AObj.row false 22 1 xs)] ex T2 H2 :=
  Rounds.step_of fits hmix [Orc.b true, Orc.a (AV.agg [sv c1, sv c2, sv c3, sv c4, sv c5, sv c6]), Orc.a (AV.tup [sv lo, sv hi, bv (false)]), Orc.b false] (41 : Nat) [(0 : Nat), (1 : Nat), (2 : Nat), (3 : Nat), (4 : Nat), (5 : Nat)] (by kernel_rfl) h h2
theorem al_in_step (ps : List (List Value)) (ts : List (List Value)) (a : List UInt8) (a' : List UInt8) (b : List UInt8) (b' : List UInt8) (c1 : List UInt8) (c2 : List UInt8) (c3 : List UInt8) (c4 : List UInt8) (c5 : List UInt8) (c6 : List UInt8) (lo : List UInt8) (hi : List UInt8) (sp : List AV) (xs : List AV) (len : Int) (i : Int) {ex : Ex} {T2 : List AV} {H2 : Heap} (m : Nat) (h : AllP
    [decide (i < len) = true,
     CallsTo Tryz.prog (69 : Nat) [AV.agg [AV.ps 2 ps, AV.ps 3 ts], iv (i)] (AV.agg [sv c1, sv c2, sv c3, sv c4, sv c5, sv c6]),
     CallsTo Tryz.prog (68 : Nat) [AV.agg [sv c1, sv c2, sv c3, sv c4, sv c5, sv c6], AV.agg [sv a, strv ((bstr (a')))], AV.agg [sv b, strv ((bstr (b')))]] (AV.tup [sv lo, sv hi, bv (true)]),
     true = true,
     List.length sp + nat_lit 1 ≤ nat_lit 9223372036854775807 ∧ (List.length sp + nat_lit 1) * nat_lit 40 ≤ nat_lit 140737488355328,
     List.length xs + nat_lit 2 ≤ nat_lit 9223372036854775807 ∧ (List.length xs + nat_lit 2) * nat_lit 16 ≤ nat_lit 140737488355328,
     IntKind.wrap IntKind.i64 (i + (1 : Int)) = i + (1 : Int)])
    (h2 : Rounds Tryz.prog (bodyOf (loopAt Tryz.f25 (0 : Nat))) m (st 160 [AV.any, AV.any, AV.any, AV.op 0 0, AV.op 1 0, AV.op 2 0, AV.any, AV.any, AV.any, AV.own 4, AV.op 3 0, iv (i), sv lo, sv hi, bv (true), AV.any, AV.any, AV.any, AV.any, AV.any, AV.any, AV.any, AV.any, AV.any, AV.any, AV.any, AV.any, AV.any, AV.any, AV.any, AV.any, AV.any, AV.any, AV.any, AV.any, AV.any, AV.any, AV.any, AV.ps 3 ts, iv (len), iv ((i + (1 : Int)))]) [some (AObj.box false 34 [AV.ps 2 ps, AV.ps 3 ts]), some (AObj.box false 24 [sv a, strv ((bstr (a')))]), some (AObj.box false 24 [sv b, strv ((bstr (b')))]), some (AObj.box false 27 [AV.own 5]), some (AObj.row false 60 3 (List.map (ren [(0 : Nat), (1 : Nat), (2 : Nat), (3 : Nat), (12 : Nat), (17 : Nat)] (9 : Nat)) (sp ++ [AV.agg [iv (i), sv lo, sv hi]]))), some (AObj.row false 22 1 (List.map (ren [(0 : Nat), (1 : Nat), (2 : Nat), (3 : Nat), (12 : Nat), (17 : Nat)] (9 : Nat)) (xs ++ [sv lo, sv hi])))] ex T2 H2) :
    Rounds Tryz.prog (bodyOf (loopAt Tryz.f25 (0 : Nat))) (m + 1) (st 160 [AV.any, AV.any, AV.any, AV.op 0 0, AV.op 1 0, AV.op 2 0, AV.any, AV.any, AV.any, AV.own 4, AV.op 3 0, AV.any, AV.any, AV.any, AV.any, AV.any, AV.any, AV.any, AV.any, AV.any, AV.any, AV.any, AV.any, AV.any, AV.any, AV.any, AV.any, AV.any, AV.any, AV.any, AV.any, AV.any, AV.any, AV.any, AV.any, AV.any, AV.any, AV.any, AV.ps 3 ts, iv (len), iv (i)]) [some (AObj.box false 34 [AV.ps 2 ps, AV.ps 3 ts]), some (AObj.box false 24 [sv a, strv ((bstr (a')))]), some (AObj.box false 24 [sv b, strv ((bstr (b')))]), some (AObj.box false 27 [AV.own 5]), some (AObj.row false 60 3 sp), some (AObj.row false 22 1 xs)] ex T2 H2 :=
  Rounds.step_of fits hmix [Orc.b true, Orc.a (AV.agg [sv c1, sv c2, sv c3, sv c4, sv c5, sv c6]), Orc.a (AV.tup [sv lo, sv hi, bv (true)]), Orc.b true] (41 : Nat) [(0 : Nat), (1 : Nat), (2 : Nat), (3 : Nat), (12 : Nat), (17 : Nat)] (by kernel_rfl) h h2
theorem al_end0_out (ps : List (List Value)) (ts : List (List Value)) (a : List UInt8) (a' : List UInt8) (b : List UInt8) (b' : List UInt8) (len : Int) (i : Int) (m : Nat) (h : AllP
    [decide (i < len) = false]) :
    Rounds Tryz.prog (bodyOf (loopAt Tryz.f25 (0 : Nat))) (m + 1) (st 160 [AV.any, AV.any, AV.any, AV.op 0 0, AV.op 1 0, AV.op 2 0, AV.any, AV.any, AV.any, AV.v (Value.slice none 0 0), AV.op 3 0, AV.any, AV.any, AV.any, AV.any, AV.any, AV.any, AV.any, AV.any, AV.any, AV.any, AV.any, AV.any, AV.any, AV.any, AV.any, AV.any, AV.any, AV.any, AV.any, AV.any, AV.any, AV.any, AV.any, AV.any, AV.any, AV.any, AV.any, AV.ps 3 ts, iv (len), iv (i)]) [some (AObj.box false 34 [AV.ps 2 ps, AV.ps 3 ts]), some (AObj.box false 24 [sv a, strv ((bstr (a')))]), some (AObj.box false 24 [sv b, strv ((bstr (b')))]), some (AObj.box false 27 [AV.v (Value.slice none 0 0)])] (Ex.exit (0 : Nat)) (st 160 [AV.any, AV.any, AV.any, AV.op 0 0, AV.op 1 0, AV.op 2 0, AV.any, AV.any, AV.any, AV.v (Value.slice none 0 0), AV.op 3 0, AV.any, AV.any, AV.any, AV.any, AV.any, AV.any, AV.any, AV.any, AV.any, AV.any, AV.any, AV.any, AV.any, AV.any, AV.any, AV.any, AV.any, AV.any, AV.any, AV.any, AV.any, AV.any, AV.any, AV.any, AV.any, AV.any, AV.any, AV.ps 3 ts, iv (len), iv (i)]) [some (AObj.box false 34 [AV.ps 2 ps, AV.ps 3 ts]), some (AObj.box false 24 [sv a, strv ((bstr (a')))]), some (AObj.box false 24 [sv b, strv ((bstr (b')))]), some (AObj.box false 27 [AV.v (Value.slice none 0 0)])] :=
  Rounds.out_of fits hmix [Orc.b false] (41 : Nat) [(0 : Nat), (1 : Nat), (2 : Nat), (3 : Nat)] m (by simp) (by kernel_rfl) h
theorem al_end_out (ps : List (List Value)) (ts : List (List Value)) (a : List UInt8) (a' : List UInt8) (b : List UInt8) (b' : List UInt8) (sp : List AV) (xs : List AV) (len : Int) (i : Int) (m : Nat) (h : AllP
    [decide (i < len) = false]) :
    Rounds Tryz.prog (bodyOf (loopAt Tryz.f25 (0 : Nat))) (m + 1) (st 160 [AV.any, AV.any, AV.any, AV.op 0 0, AV.op 1 0, AV.op 2 0, AV.any, AV.any, AV.any, AV.own 4, AV.op 3 0, AV.any, AV.any, AV.any, AV.any, AV.any, AV.any, AV.any, AV.any, AV.any, AV.any, AV.any, AV.any, AV.any, AV.any, AV.any, AV.any, AV.any, AV.any, AV.any, AV.any, AV.any, AV.any, AV.any, AV.any, AV.any, AV.any, AV.any, AV.ps 3 ts, iv (len), iv (i)]) [some (AObj.box false 34 [AV.ps 2 ps, AV.ps 3 ts]), some (AObj.box false 24 [sv a, strv ((bstr (a')))]), some (AObj.box false 24 [sv b, strv ((bstr (b')))]), some (AObj.box false 27 [AV.own 5]), some (AObj.row false 60 3 sp), some (AObj.row false 22 1 xs)] (Ex.exit (0 : Nat)) (st 160 [AV.any, AV.any, AV.any, AV.op 0 0, AV.op 1 0, AV.op 2 0, AV.any, AV.any, AV.any, AV.own 4, AV.op 3 0, AV.any, AV.any, AV.any, AV.any, AV.any, AV.any, AV.any, AV.any, AV.any, AV.any, AV.any, AV.any, AV.any, AV.any, AV.any, AV.any, AV.any, AV.any, AV.any, AV.any, AV.any, AV.any, AV.any, AV.any, AV.any, AV.any, AV.any, AV.ps 3 ts, iv (len), iv (i)]) [some (AObj.box false 34 [AV.ps 2 ps, AV.ps 3 ts]), some (AObj.box false 24 [sv a, strv ((bstr (a')))]), some (AObj.box false 24 [sv b, strv ((bstr (b')))]), some (AObj.box false 27 [AV.own 5]), some (AObj.row false 60 3 (List.map (ren [(0 : Nat), (1 : Nat), (2 : Nat), (3 : Nat), (4 : Nat), (5 : Nat)] (9 : Nat)) sp)), some (AObj.row false 22 1 (List.map (ren [(0 : Nat), (1 : Nat), (2 : Nat), (3 : Nat), (4 : Nat), (5 : Nat)] (9 : Nat)) xs))] :=
  Rounds.out_of fits hmix [Orc.b false] (41 : Nat) [(0 : Nat), (1 : Nat), (2 : Nat), (3 : Nat), (4 : Nat), (5 : Nat)] m (by simp) (by kernel_rfl) h
end Go.Flow.Tryz
namespace Go.Flow.Tryz
open Go Go.Proofs Go.RowKit Go.Flow
set_option maxRecDepth 100000
variable {pts : List Pt} {tris : List Tri} {c0 : Int} {rest : List Int}
abbrev Sp := Nat × Rat × Rat
def spA (s : Sp) : AV := .agg [iv s.1, qv s.2.1, qv s.2.2]
def spR (s : Sp) : List Value := [.int .i64 s.1, .string (bstr (qT s.2.1)), .string (bstr (qT s.2.2))]
def endsQ (l : List Sp) : List Rat := l.flatMap fun s => [s.2.1, s.2.2]
theorem endsQ_length : ∀ l : List Sp, (endsQ l).length = l.length * 2
  | [] => rfl
  | x :: l => by
    have := endsQ_length l
    have e : endsQ (x :: l) = x.2.1 :: x.2.2 :: endsQ l := rfl
    rw [e, List.length_cons, List.length_cons, List.length_cons, this]
    omega
def spanOf (pts : List Pt) (tris : List Tri) (a b : Pt) (i : Nat) : Option (Rat × Rat) :=
  match wiQ (corA pts tris i) (corB pts tris i) (corC pts tris i) a b with
  | some (lo, hi) => if lo < hi then some (lo, hi) else none
  | none => none
def spansQ (pts : List Pt) (tris : List Tri) (a b : Pt) : Nat → List Sp
  | 0 => []
  | i + 1 => match spanOf pts tris a b i with
    | some (lo, hi) => spansQ pts tris a b i ++ [(i, lo, hi)]
    | none => spansQ pts tris a b i
theorem spansQ_length (a b : Pt) : ∀ n, (spansQ pts tris a b n).length ≤ n
  | 0 => Nat.le_refl _
  | n + 1 => by
    have := spansQ_length a b n
    simp only [spansQ]
    split <;> simp <;> omega
theorem wiQ_sm {A B C a b : Pt} (hA : smallP A) (hB : smallP B) (hC : smallP C) (ha : smallP a) (hb : smallP b) : SmO (wiQ A B C a b) :=
  wiS_sm (det_small hC hA ha) (det_sub hC hA ha hb) (wiS_sm (det_small hB hC ha) (det_sub hB hC ha hb) (wiS_sm (o := some (0, 1)) (det_small hA hB ha) (det_sub hA hB ha hb) ⟨Sm.zero, Sm.one⟩))
theorem Sheet.spans_sm (s : Sheet pts tris c0 rest) {a b : Pt} (ha : smallP a) (hb : smallP b) : ∀ n, n ≤ tris.length → ∀ x ∈ spansQ pts tris a b n, Sm x.2.1 ∧ Sm x.2.2
  | 0, _, x, hx => by cases hx
  | n + 1, hn, x, hx => by
    have ih := s.spans_sm ha hb n (by omega)
    obtain ⟨hA, hB, hC⟩ := s.corner_small (show n < tris.length by omega)
    have hq := wiQ_sm hA hB hC ha hb
    simp only [spansQ, spanOf] at hx
    cases h : wiQ (corA pts tris n) (corB pts tris n) (corC pts tris n) a b with
    | none => rw [h] at hx; exact ih x hx
    | some p =>
      obtain ⟨lo, hi⟩ := p
      rw [h] at hx hq
      simp only at hx
      by_cases hlt : lo < hi
      · rw [if_pos hlt] at hx
        rcases List.mem_append.1 hx with hx | hx
        · exact ih x hx
        · simp only [List.mem_singleton] at hx
          subst hx
          exact hq
      · rw [if_neg hlt] at hx
        exact ih x hx
theorem ren_sp (L : List Nat) (l : List Sp) : (l.map spA).map (ren L 9) = l.map spA := by
  rw [List.map_map]
  exact List.map_congr_left fun _ _ => rfl
theorem ren_rowQ (L : List Nat) (l : List Rat) : (rowQ l).map (ren L 9) = rowQ l := by
  unfold rowQ
  rw [List.map_map]
  exact List.map_congr_left fun _ _ => rfl
abbrev nilS : AV := .v (.slice none 0 0)
abbrev alT (al : AV) (ts : List (List Value)) (len i : Int) : List AV := st 160 ([.any, .any, .any, .op 0 0, .op 1 0, .op 2 0, .any, .any, .any, al, .op 3 0] ++ List.replicate 27 .any ++ [.ps 3 ts, iv len, iv i])
abbrev alL (ps ts : List (List Value)) (a a' b b' : List UInt8) (en : AV) : Heap := [some (.box false 34 [.ps 2 ps, .ps 3 ts]), some (.box false 24 [sv a, sv a']), some (.box false 24 [sv b, sv b']), some (.box false 27 [en])]
abbrev alM : List Bool := [false, false, false, true, true, true, false, false, false, true, true] ++ List.replicate 27 false ++ [true, true, true]
def alV (l : List Sp) : AV := if l = [] then nilS else .own 4
def alE (l : List Sp) : AV := if l = [] then nilS else .own 5
def alO (l : List Sp) : Heap := if l = [] then [] else [some (.row false 60 3 (l.map spA)), some (.row false 22 1 (rowQ (endsQ l)))]
theorem alV_cons {l : List Sp} (h : l ≠ []) : alV l = .own 4 := if_neg h
theorem alE_cons {l : List Sp} (h : l ≠ []) : alE l = .own 5 := if_neg h
theorem alO_cons {l : List Sp} (h : l ≠ []) : alO l = [some (.row false 60 3 (l.map spA)), some (.row false 22 1 (rowQ (endsQ l)))] := if_neg h
theorem Sheet.along_loop (s : Sheet pts tris c0 rest) {N : Nat} (hN : 0 < N) (hN4 : N < 10000) (a b : Pt) (ha : smallP a) (hb : smallP b) :
    Goes Tryz.prog (loopAt Tryz.f25 0) (alT nilS (tris.map triR) tris.length 0) (alL (pts.map (ptR N)) (tris.map triR) (fT a.1 N) (fT a.2 N) (fT b.1 N) (fT b.2 N) nilS) (.exit 0)
      (alT (alV (spansQ pts tris a b tris.length)) (tris.map triR) tris.length tris.length) (alL (pts.map (ptR N)) (tris.map triR) (fT a.1 N) (fT a.2 N) (fT b.1 N) (fT b.2 N) (alE (spansQ pts tris a b tris.length)) ++ alO (spansQ pts tris a b tris.length)) := by
  have hloop : loopAt Tryz.f25 0 = .loop (bodyOf (loopAt Tryz.f25 0)) := by kernel_rfl
  rw [hloop]
  have key : ∀ (m i : Nat), i + m = tris.length → Rounds Tryz.prog (bodyOf (loopAt Tryz.f25 0)) (m + 1) (alT (alV (spansQ pts tris a b i)) (tris.map triR) tris.length i) (alL (pts.map (ptR N)) (tris.map triR) (fT a.1 N) (fT a.2 N) (fT b.1 N) (fT b.2 N) (alE (spansQ pts tris a b i)) ++ alO (spansQ pts tris a b i)) (.exit 0)
      (alT (alV (spansQ pts tris a b tris.length)) (tris.map triR) tris.length tris.length) (alL (pts.map (ptR N)) (tris.map triR) (fT a.1 N) (fT a.2 N) (fT b.1 N) (fT b.2 N) (alE (spansQ pts tris a b tris.length)) ++ alO (spansQ pts tris a b tris.length)) := by
    intro m
    induction m with
    | zero =>
      intro i hi
      have hi : i = tris.length := by omega
      subst hi
      by_cases h : spansQ pts tris a b tris.length = []
      · rw [h]
        exact al_end0_out _ _ _ _ _ _ _ _ 0 ⟨by simp, trivial⟩
      · rw [alV_cons h, alE_cons h, alO_cons h]
        have := al_end_out (pts.map (ptR N)) (tris.map triR) (fT a.1 N) (fT a.2 N) (fT b.1 N) (fT b.2 N) ((spansQ pts tris a b tris.length).map spA) (rowQ (endsQ (spansQ pts tris a b tris.length))) tris.length tris.length 0 ⟨by simp, trivial⟩
        rw [ren_sp, ren_rowQ] at this
        exact this
    | succ m ih =>
      intro i hi
      have hil : i < tris.length := by omega
      have hc := s.corners N hil
      obtain ⟨sa, sb, sc⟩ := s.corner_small hil
      have hw := within_ok N hN hN4 _ _ _ a b sa sb sc ha hb
      have w1 : IntKind.i64.wrap ((i : Int) + 1) = (i : Int) + 1 := by have := s.tl; rw [w64]; omega
      have hlt : decide ((i : Int) < tris.length) = true := decide_eq_true (by omega)
      have hlen := spansQ_length (pts := pts) (tris := tris) a b i
      have nxt := ih (i + 1) (by omega)
      rw [show ((i + 1 : Nat) : Int) = (i : Int) + 1 by push_cast; rfl] at nxt
      have no : ∀ lo hi : List UInt8, spansQ pts tris a b (i + 1) = spansQ pts tris a b i →
          CallsTo Tryz.prog 68 [.agg (ptS N (corA pts tris i) ++ ptS N (corB pts tris i) ++ ptS N (corC pts tris i)), .agg (ptS N a), .agg (ptS N b)] (.tup [sv lo, sv hi, bv false]) →
          Rounds Tryz.prog (bodyOf (loopAt Tryz.f25 0)) (m + 1 + 1) (alT (alV (spansQ pts tris a b i)) (tris.map triR) tris.length i) (alL (pts.map (ptR N)) (tris.map triR) (fT a.1 N) (fT a.2 N) (fT b.1 N) (fT b.2 N) (alE (spansQ pts tris a b i)) ++ alO (spansQ pts tris a b i)) (.exit 0)
            (alT (alV (spansQ pts tris a b tris.length)) (tris.map triR) tris.length tris.length) (alL (pts.map (ptR N)) (tris.map triR) (fT a.1 N) (fT a.2 N) (fT b.1 N) (fT b.2 N) (alE (spansQ pts tris a b tris.length)) ++ alO (spansQ pts tris a b tris.length)) := fun lo hi he hw => by
        rw [he] at nxt
        by_cases h : spansQ pts tris a b i = []
        · rw [h] at nxt ⊢
          exact al_no0_step _ _ _ _ _ _ _ _ _ _ _ _ lo hi tris.length i _ ⟨hlt, hc, hw, rfl, w1, trivial⟩ (Rounds.same (same_cast (Same.mask alM) (T1 := alT nilS (tris.map triR) tris.length (i + 1)) (by kernel_rfl) rfl) nxt)
        · rw [alV_cons h, alE_cons h, alO_cons h] at nxt ⊢
          refine al_no_step _ _ _ _ _ _ _ _ _ _ _ _ lo hi ((spansQ pts tris a b i).map spA) (rowQ (endsQ (spansQ pts tris a b i))) tris.length i _ ⟨hlt, hc, hw, rfl, w1, trivial⟩ ?_
          rw [ren_sp, ren_rowQ]
          exact Rounds.same (same_cast (Same.mask alM) (T1 := alT (.own 4) (tris.map triR) tris.length (i + 1)) (by kernel_rfl) rfl) nxt
      cases hq : wiQ (corA pts tris i) (corB pts tris i) (corC pts tris i) a b with
      | none =>
        rw [hq] at hw
        exact no [] [] (by simp only [spansQ, spanOf, hq]) hw
      | some p =>
        obtain ⟨lo, hi⟩ := p
        rw [hq] at hw
        simp only [wiR] at hw
        by_cases hlh : lo < hi
        · rw [decide_eq_true hlh] at hw
          have he : spansQ pts tris a b (i + 1) = spansQ pts tris a b i ++ [(i, lo, hi)] := by simp only [spansQ, spanOf, hq, if_pos hlh]
          rw [he, alV_cons (by simp), alE_cons (by simp), alO_cons (by simp)] at nxt
          by_cases h : spansQ pts tris a b i = []
          · rw [h] at nxt ⊢
            refine al_in0_step _ _ _ _ _ _ _ _ _ _ _ _ (qT lo) (qT hi) tris.length i _ ⟨hlt, hc, hw, rfl, ⟨by decide, by decide⟩, ⟨by decide, by decide⟩, w1, trivial⟩ (Rounds.same (same_cast (Same.mask alM) (T1 := alT (.own 4) (tris.map triR) tris.length (i + 1)) (by kernel_rfl) rfl) nxt)
          · rw [alV_cons h, alE_cons h, alO_cons h]
            have hel := endsQ_length (spansQ pts tris a b i)
            refine al_in_step _ _ _ _ _ _ _ _ _ _ _ _ (qT lo) (qT hi) ((spansQ pts tris a b i).map spA) (rowQ (endsQ (spansQ pts tris a b i))) tris.length i _ ⟨hlt, hc, hw, rfl, ?_, ?_, w1, trivial⟩ ?_
            · have := s.tl
              simp only [List.length_map]
              constructor
              · show (spansQ pts tris a b i).length + 1 ≤ 9223372036854775807; omega
              · show ((spansQ pts tris a b i).length + 1) * 40 ≤ 140737488355328; omega
            · have := s.tl
              simp only [List.length_map, hel]
              constructor
              · show (spansQ pts tris a b i).length * 2 + 2 ≤ 9223372036854775807; omega
              · show ((spansQ pts tris a b i).length * 2 + 2) * 16 ≤ 140737488355328; omega
            · have e1 : (spansQ pts tris a b i).map spA ++ [.agg [iv (i : Int), sv (qT lo), sv (qT hi)]] = (spansQ pts tris a b i ++ [(i, lo, hi)]).map spA := by simp [spA]
              have e2 : rowQ (endsQ (spansQ pts tris a b i)) ++ [sv (qT lo), sv (qT hi)] = rowQ (endsQ (spansQ pts tris a b i ++ [(i, lo, hi)])) := by simp [endsQ, rowQ]
              rw [e1, e2, ren_sp, ren_rowQ]
              exact Rounds.same (same_cast (Same.mask alM) (T1 := alT (.own 4) (tris.map triR) tris.length (i + 1)) (by kernel_rfl) rfl) nxt
        · rw [decide_eq_false hlh] at hw
          exact no (qT lo) (qT hi) (by simp only [spansQ, spanOf, hq, if_neg hlh]) hw
  exact Goes.loop (key tris.length 0 (by omega))
end Go.Flow.Tryz
