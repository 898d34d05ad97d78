/- Part 4 of the proofs of the mesh laws: what their code computes. No conditions. -/
import Derived.Lib.ParseIntBCases
import Derived.WideLaws
import Derived.Laws.Small
import Derived.Laws.Entries
import Derived.DeepKeys4
import Derived.Maps.RangeRun
import Derived.Test.YtampjkpdiojciaaGreatDoorMlA
import Derived.Test.YtampjkpdiojciaaGreatDoorMlB
import Derived.Test.YtampjkpdiojciaaGreatDoorMlC
namespace Go.Flow
open Go Go.RowKit
variable {P : Program}
theorem CallsTo.rep {f : FuncId} {ys : List AV} {r r' : AV} (h : CallsTo P f ys r) (hr : ∀ E v, Rep E r v → Rep E r' v) : CallsTo P f ys r' :=
  ⟨h.1, fun w S us hG hS hu => (h.2 w S us hG hS hu).mono fun _ _ ⟨v, h1, h2, h3⟩ => ⟨v, h1, h2, hr _ _ h3⟩⟩
theorem rep_ls {E : Env} {us : List Value} {v : Value} (h : Rep E (.lst 1 (us.map .v)) v) : Rep E (.ls us) v := .ls us v h
theorem rep_agg2 {E : Env} {x y z : AV} {v : Value} (h : Rep E (.agg [x, y]) v) (hy : ∀ u, Rep E y u → Rep E z u) : Rep E (.agg [x, z]) v := by
  obtain ⟨us, rfl, h1⟩ := h.inv_agg
  cases h1 with
  | cons _ u0 _ us hx hxs =>
    cases hxs with
    | cons _ u1 _ us' hy1 hn =>
      cases hn
      exact .agg _ _ (.cons _ _ _ _ hx (.cons _ _ _ _ (hy _ hy1) .nil))
theorem pure_neq_bool {o : Oper} {t t' : TypeId} {x y : Operand} (ho : o.op = .binOp .neq t x y t') (ht : P.underlying t = some .bool) {T : List AV} {a b : Bool} (hx : evalA T x = bv a) (hy : evalA T y = bv b) : PureOp P o T (bv (a != b)) := fun E ρ h => by
  have h1 := h x (by simp [ho, Op.operands])
  have h2 := h y (by simp [ho, Op.operands])
  rw [hx] at h1
  rw [hy] at h2
  have h1 := h1.inv_v
  have h2 := h2.inv_v
  refine ⟨.bool (a != b), ?_, .v _⟩
  have e : execOp ρ o = (do pure (.value (← (do eqGuard .neq t x y (ρ x) (ρ y); binOp .neq t (ρ x) (ρ y))))) := by simp only [execOp, ho]
  rw [e, h1, h2]
  have e1 : eqGuard .neq t x y (.bool a) (.bool b) = pure () := rfl
  have e2 : binOp .neq t (.bool a) (.bool b) = (do pure (.bool (!(← Op.equal t (.bool a) (.bool b))))) := rfl
  rw [e1, e2]
  simp only [Sem.run_bind, Sem.run_pure, Result.andThen_ok, run_equal_bool E.w t a b ht]
  rfl
theorem pure_nil_iface {o : Oper} {t t' : TypeId} {x : Operand} (ho : o.op = .binOp .eql t x (.const .nilIface) t') (ht : P.underlying t = some (.interface (P.methodsAt t))) {T : List AV} (hx : evalA T x = .v .nilIface) : PureOp P o T (bv true) := fun E ρ h => by
  have h1 := h x (by simp [ho, Op.operands])
  have h2 := h (.const .nilIface) (by simp [ho, Op.operands])
  rw [hx] at h1
  have h1 := h1.inv_v
  have h2 : ρ (.const .nilIface) = .nilIface := Rep.inv_v (x := .nilIface) h2
  refine ⟨.bool true, ?_, .v _⟩
  have e : execOp ρ o = (do pure (.value (← (do eqGuard .eql t x (.const .nilIface) (ρ x) (ρ (.const .nilIface)); binOp .eql t (ρ x) (ρ (.const .nilIface)))))) := by simp only [execOp, ho]
  rw [e, h1, h2]
  have e2 : binOp .eql t .nilIface .nilIface = (do pure (.bool (← Op.equal t .nilIface .nilIface))) := rfl
  rw [eqGuard_nil_constR, e2]
  simp only [Sem.run_bind, Sem.run_pure, Result.andThen_ok, run_equal_nil_nil (w := E.w) t ht]
theorem decFrom_dig : ∀ (l : List UInt8) (acc : Nat), (∀ c ∈ l, Dig c) → Lib.decFrom acc l = some (dv acc l).toNat
  | [], acc, _ => by simp [Lib.decFrom, dv]
  | c :: cs, acc, h => by
    have hc := h c (by simp)
    have hd : Lib.digitVal c = some (c.toNat - 48) := by
      unfold Dig at hc
      simp [Lib.digitVal, hc.1, hc.2]
    have ih := decFrom_dig cs (acc * 10 + (c.toNat - 48)) fun x hx => h x (by simp [hx])
    unfold Dig at hc
    simp only [Lib.decFrom, hd, dv]
    rw [ih]
    congr 3
    omega
theorem atoi_zT (n : Int) : Lib.atoi (zT n) = some n := by
  have key : ∀ m : Nat, Lib.decNat (nT m) = some m := fun m => by
    obtain ⟨c, r, hc, _⟩ := nT_cons m
    unfold Lib.decNat
    rw [if_neg (by rw [hc]; simp), decFrom_dig (nT m) 0 (nT_dig m)]
    have h2 := nT_dv m
    have e0 : ((0 : Nat) : Int) = 0 := rfl
    rw [e0, h2]
    simp
  rcases zT_cases n with ⟨h0, h⟩ | ⟨h0, h⟩
  · obtain ⟨c, r, hc, hd⟩ := nT_cons n.natAbs
    rw [h, hc]
    unfold Lib.atoi
    have h1 : (c == 45) = false := by rw [beq_eq_false_iff_ne]; intro e; subst e; unfold Dig at hd; simp at hd
    have h2 : (c == 43) = false := by rw [beq_eq_false_iff_ne]; intro e; subst e; unfold Dig at hd; simp at hd
    simp only [h1, h2, Bool.false_eq_true, if_false]
    rw [← hc, key]
    simp
    omega
  · rw [h]
    unfold Lib.atoi
    simp only [beq_self_eq_true, if_true]
    rw [key]
    simp
    omega
theorem parseUintM_dig : ∀ (l : List UInt8) (acc : Nat), (∀ c ∈ l, Dig c) → (acc + 1) * 10 ^ l.length ≤ 1844674407370955161 → Lib.parseUintM 18446744073709551615 acc l = .ok (dv acc l).toNat
  | [], acc, _, _ => by simp [Lib.parseUintM, dv]
  | c :: cs, acc, h, hb => by
    have hc := h c (by simp)
    unfold Dig at hc
    have hp : 1 ≤ 10 ^ cs.length := Nat.one_le_pow _ _ (by decide)
    have hb' : (acc + 1) * 10 * 10 ^ cs.length ≤ 1844674407370955161 := by
      rw [List.length_cons, Nat.pow_succ] at hb
      rw [Nat.mul_assoc, Nat.mul_comm 10]
      exact hb
    have hacc : (acc + 1) * 10 ≤ 1844674407370955161 := Nat.le_trans (Nat.le_mul_of_pos_right _ hp) hb'
    have hle : (acc * 10 + (c.toNat - 48) + 1) * 10 ^ cs.length ≤ 1844674407370955161 := Nat.le_trans (Nat.mul_le_mul_right _ (by omega)) hb'
    have ih := parseUintM_dig cs (acc * 10 + (c.toNat - 48)) (fun x hx => h x (by simp [hx])) hle
    simp only [Lib.parseUintM, dv]
    rw [if_pos hc, if_neg (by omega), if_neg (by omega), ih]
    congr 3
    omega
theorem parse_nT (n : Nat) (h : n < 10 ^ 17) : Lib.parseUintB 64 (nT n) = .ok n := by
  obtain ⟨c, r, hc, _⟩ := nT_cons n
  have hl := nT_le h (by decide)
  have hp : 10 ^ (nT n).length ≤ 10 ^ 17 := Nat.pow_le_pow_right (by decide) hl
  have := parseUintM_dig (nT n) 0 (nT_dig n) (by omega)
  unfold Lib.parseUintB
  rw [if_neg (by rw [hc]; simp)]
  show Lib.parseUintM 18446744073709551615 0 (nT n) = _
  rw [this]
  have h2 := nT_dv n
  have e0 : ((0 : Nat) : Int) = 0 := rfl
  rw [e0, h2]
  simp
end Go.Flow
namespace Go.Flow.Tryz
open Go Go.Proofs Go.RowKit Go.Flow
set_option maxRecDepth 100000
def limbs (n : Nat) : List AV := if n = 0 then [] else [uv n]
def limbsV (n : Nat) : List Value := if n = 0 then [] else [.int .u64 n]
theorem limbs_map (n : Nat) : limbs n = (limbsV n).map .v := by unfold limbs limbsV; split <;> rfl
theorem iof_ok' (n : Int) (h0 : -9223372036854775808 ≤ n) (h1 : n ≤ 9223372036854775807) : CallsTo Tryz.prog 59 [iv n] (sv (zT n)) :=
  iof_ok n (zT n) (AllP.cons (itoa_ok n h0 h1) AllP.nil)
theorem zTz_iff (n : Int) : (bstr (zT n)).toList == [48] ↔ n = 0 := by
  rw [ByteArray.toList_mk]
  constructor
  · intro h
    have h : zT n = [48] := by simpa using h
    have := atoi_zT n
    rw [h] at this
    have e : Lib.atoi [48] = some 0 := by decide
    rw [e] at this
    simpa using this.symm
  · intro h
    subst h
    have : zT 0 = [48] := by
      rw [show (0 : Int) = ((0 : Nat) : Int) from rfl, zT_nat]
      show Lib.decDigits 0 = [48]
      rw [Lib.decDigits]
      rfl
    rw [this]
    rfl
theorem zT_prefix (n : Int) : Lib.hasPrefix (zT n) [45] = decide (n < 0) ∧ Lib.trimPrefix (zT n) [45] = nT n.natAbs := by
  rcases zT_cases n with ⟨h0, h⟩ | ⟨h0, h⟩
  · obtain ⟨c, r, hc, hd⟩ := nT_cons n.natAbs
    have hp : Lib.hasPrefix (zT n) [45] = false := by
      rw [h, hc]
      unfold Lib.hasPrefix
      simp only [List.isPrefixOf]
      have : ((45 : UInt8) == c) = false := by rw [beq_eq_false_iff_ne]; intro e; subst e; unfold Dig at hd; simp at hd
      simp [this]
    refine ⟨by rw [hp]; exact (decide_eq_false (by omega)).symm, ?_⟩
    unfold Lib.trimPrefix
    rw [hp, h]
    rfl
  · have hp : Lib.hasPrefix (zT n) [45] = true := by
      rw [h]
      unfold Lib.hasPrefix
      simp [List.isPrefixOf]
    refine ⟨by rw [hp]; exact (decide_eq_true h0).symm, ?_⟩
    unfold Lib.trimPrefix
    rw [hp, h]
    rfl
theorem isign_ok (n : Int) : CallsTo Tryz.prog 98 [sv (zT n)] (iv (if n = 0 then 0 else if n < 0 then -1 else 1)) := by
  have hz := zTz_iff n
  have hp := hasPrefix_ok (zT n) [45]
  rw [(zT_prefix n).1] at hp
  by_cases h0 : n = 0
  · rw [if_pos h0]
    exact isign_zero_ok _ (AllP.cons (hz.2 h0) AllP.nil)
  · rw [if_neg h0]
    have hz' : ((bstr (zT n)).toList == [48]) = false := by
      cases e : ((bstr (zT n)).toList == [48])
      · rfl
      · exact absurd (hz.1 e) h0
    by_cases h1 : n < 0
    · rw [if_pos h1]
      rw [decide_eq_true h1] at hp
      refine isign_neg_ok _ ?_
      repeat' first | exact AllP.nil | refine AllP.cons ?_ ?_
      all_goals first | exact hz' | exact hp | rfl
    · rw [if_neg h1]
      rw [decide_eq_false h1] at hp
      refine isign_pos_ok _ ?_
      repeat' first | exact AllP.nil | refine AllP.cons ?_ ?_
      all_goals first | exact hz' | exact hp | rfl
theorem iq_ok (n : Int) (h : (zT n).length ≤ 18) : CallsTo Tryz.prog 101 [sv (zT n), iv 18] (.tup [iv n, bv true]) := by
  refine iquick_ok_ok (zT n) 18 n ?_
  repeat' first | exact AllP.nil | refine AllP.cons ?_ ?_
  all_goals first | exact decide_eq_false (by rw [bstr_size]; omega) | exact atoi_ok _ n h (atoi_zT n) | skip
  exact pure_nil_iface rfl (by kernel_rfl) rfl
theorem igcd_rounds (s u : List UInt8) : ∀ (m : Nat) (a b : Int), b.natAbs < m → ∃ g : Int, g.natAbs = Nat.gcd a.natAbs b.natAbs ∧
    Rounds Tryz.prog (bodyOf (loopAt Tryz.f52 0)) m (st 56 [sv s, sv u, uu, uu, sv [], iv a, bv true, iv b, bv true]) [] (.exit 0) (st 56 [sv s, sv u, uu, uu, sv [], iv g, bv true, iv 0, bv true]) []
  | 0, _, _, h => absurd h (by omega)
  | m + 1, a, b, h => by
    by_cases hb : b = 0
    · subst hb
      exact ⟨a, by simp, igcd_end_out s u a 0 m ⟨by decide, trivial⟩⟩
    · have hlt : (a.tmod b).natAbs < b.natAbs := by
        rw [Int.natAbs_tmod]
        exact Nat.mod_lt _ (by omega)
      obtain ⟨g, hg, hr⟩ := igcd_rounds s u m b (a.tmod b) (by omega)
      refine ⟨g, ?_, igcd_step_step s u a b m ⟨by simpa using hb, hb, trivial⟩ hr⟩
      rw [hg, Int.natAbs_tmod, Nat.gcd_comm b.natAbs, Nat.gcd_comm a.natAbs, ← Nat.gcd_rec]
theorem gcd_ok (a b : Int) (ha : (zT a).length ≤ 18) (hb : (zT b).length ≤ 18) (hg1 : Nat.gcd a.natAbs b.natAbs ≤ 9223372036854775807) :
    CallsTo Tryz.prog 52 [sv (zT a), sv (zT b)] (sv (nT (Nat.gcd a.natAbs b.natAbs))) := by
  obtain ⟨g, hg, hr⟩ := igcd_rounds (zT a) (zT b) (b.natAbs + 1) a b (by omega)
  have hgo : Goes Tryz.prog (loopAt Tryz.f52 0) _ [] (.exit 0) _ [] := Goes.loop hr
  have hm : (if -g > g then -g else g) = ((Nat.gcd a.natAbs b.natAbs : Nat) : Int) := by split <;> omega
  have hi := iof_ok' ((Nat.gcd a.natAbs b.natAbs : Nat) : Int) (by omega) (by omega)
  rw [zT_nat] at hi
  refine igcd_ok (zT a) (zT b) (nT (Nat.gcd a.natAbs b.natAbs)) a b g ?_
  repeat' first | exact AllP.nil | refine AllP.cons ?_ ?_
  all_goals first | rfl | exact iq_ok a ha | exact iq_ok b hb | exact hgo | (rw [w64n]; omega) | (rw [hm]; exact hi)
theorem open_ok (n : Int) (h : n.natAbs < 10 ^ 9) : CallsTo Tryz.prog 102 [sv (zT n)] (.agg [bv (decide (n < 0)), .lst 1 (limbs n.natAbs)]) := by
  have hl := nT_le h (by decide)
  have h1 := nT_pos n.natAbs
  have hc := cutPrefix_ok (zT n) [45]
  rw [(zT_prefix n).1, (zT_prefix n).2] at hc
  generalize hu : nT n.natAbs = u at *
  have hsz : (bstr u).size = u.length := bstr_size u
  have hif : (if (0 : Int) > ((bstr u).size : Int) - 9 then (0 : Int) else ((bstr u).size : Int) - 9) = 0 := by
    rw [hsz]; split <;> omega
  have hex : (bstr u).extract (Int.toNat 0) (Int.toNat ((bstr u).size : Int)) = bstr u := by
    show (bstr u).extract 0 (((bstr u).size : Int).toNat) = bstr u
    rw [Int.toNat_natCast]
    exact ByteArray.extract_zero_size
  have hp : Lib.parseUintB 64 u = .ok n.natAbs := by rw [← hu]; exact parse_nT _ (Nat.lt_of_lt_of_le h (by decide))
  have hpu := parse_ok u n.natAbs (by omega) hp
  have htr : CallsTo Tryz.prog 131 [.lst 1 [uv n.natAbs]] (.ls (limbsV n.natAbs)) := by
    by_cases h0 : n.natAbs = 0
    · rw [h0]
      exact (trim_zero.rep fun E v h => rep_ls (us := []) h)
    · have := (trim_pos n.natAbs (by omega)).rep fun E v h => rep_ls (us := [.int .u64 n.natAbs]) h
      unfold limbsV
      rw [if_neg h0]
      exact this
  have key : CallsTo Tryz.prog 102 [sv (zT n)] (.agg [bv (decide (n < 0)), .ls (limbsV n.natAbs)]) := by
    refine open_one_ok (zT n) u (decide (n < 0)) n.natAbs (limbsV n.natAbs) ?_
    rw [hif, hex, hsz]
    have e9 : Int.tdiv ((u.length : Nat) : Int) 9 = ((u.length / 9 : Nat) : Int) := by
      rw [show (9 : Int) = ((9 : Nat) : Int) from rfl, Int.ofNat_tdiv]
    rw [e9]
    repeat' first | exact AllP.nil | refine AllP.cons ?_ ?_
    all_goals first | exact hc | exact hpu | exact htr | decide | (rw [w64]; omega) | (exact decide_eq_true (by omega)) | omega | skip
    · exact decide_eq_false (by
        rw [show (Int.toNat (0 : Int)) = 0 from rfl]
        simp)
  refine key.rep fun E v h => rep_agg2 h fun u hu => ?_
  rw [limbs_map]
  exact hu.inv_ls
theorem toList_ne {s : List UInt8} {l : List UInt8} (h : s ≠ l) : ((bstr s).toList == l) = false := by
  rw [ByteArray.toList_mk]
  exact beq_eq_false_iff_ne.2 h
theorem nTinj {m n : Nat} (h : nT m = nT n) : m = n := by
  have h1 := nT_dv m
  have h2 := nT_dv n
  rw [h] at h1
  omega
theorem zT_zero : zT 0 = [48] := by
  rw [show (0 : Int) = ((0 : Nat) : Int) from rfl, zT_nat]
  show Lib.decDigits 0 = [48]
  rw [Lib.decDigits]
  rfl
theorem nT_one : nT 1 = [49] := by
  show Lib.decDigits 1 = [49]
  rw [Lib.decDigits]
  rfl
theorem nT_zero : nT 0 = [48] := by
  show Lib.decDigits 0 = [48]
  rw [Lib.decDigits]
  rfl
theorem divmod_ok (a : Int) (g : Nat) (hg : 0 < g) (ha : a.natAbs < 10 ^ 9) (hg9 : g < 10 ^ 9) (hd : a.natAbs % g = 0) :
    CallsTo Tryz.prog 109 [sv (zT a), sv (nT g)] (.tup [sv (zT (a.tdiv g)), sv [48], iv 0]) := by
  have hne : ((bstr (nT g)).toList == [48]) = false := toList_ne (by rw [← nT_zero]; exact fun e => by have := nTinj e; omega)
  have o1 := open_ok a ha
  have o2 := open_ok (g : Int) (by simpa using hg9)
  rw [zT_nat, decide_eq_false (by omega), Int.natAbs_natCast] at o2
  have hl : limbs g = [uv g] := by unfold limbs; rw [if_neg (by omega)]
  rw [hl] at o2
  have hc0 := close_none false
  by_cases h0 : a = 0
  · subst h0
    have hl0 : limbs (Int.natAbs 0) = [] := rfl
    rw [decide_eq_false (by omega), hl0] at o1
    have hz : zT ((0 : Int).tdiv g) = [48] := by rw [Int.zero_tdiv]; exact zT_zero
    rw [hz]
    refine dm_zero_ok (zT 0) (nT g) [48] [48] g ?_
    repeat' first | exact AllP.nil | refine AllP.cons ?_ ?_
    all_goals first | rfl | exact hne | exact o1 | exact o2 | exact divide_zero g | exact hc0 | skip
    · exact pure_neq_bool (a := false) (b := false) rfl (by kernel_rfl) rfl rfl
    · refine close_znil_ok false ?_
      repeat' first | exact AllP.nil | refine AllP.cons ?_ ?_
      all_goals rfl
  · have hle : g ≤ a.natAbs := Nat.le_of_dvd (by omega) (Nat.dvd_of_mod_eq_zero hd)
    have hla : limbs a.natAbs = [uv a.natAbs] := by unfold limbs; rw [if_neg (by omega)]
    rw [hla] at o1
    have hdv := divide_ge a.natAbs g hg hle hd (by omega)
    have hq : (a.tdiv g).natAbs = a.natAbs / g := by rw [Int.natAbs_tdiv, Int.natAbs_natCast]; rfl
    have hqp : 0 < a.natAbs / g := Nat.div_pos hle hg
    have hq9 : a.natAbs / g ≤ a.natAbs := Nat.div_le_self _ _
    by_cases hn : a < 0
    · rw [decide_eq_true hn] at o1
      have hz : zT (a.tdiv g) = 45 :: nT (a.natAbs / g) := by
        have hs : a.tdiv g < 0 := by
          have e1 : a.tdiv g ≤ 0 := by
            have := Int.tdiv_nonneg (a := -a) (b := g) (by omega) (by omega)
            rw [Int.neg_tdiv] at this
            omega
          omega
        rcases zT_cases (a.tdiv g) with ⟨h1, _⟩ | ⟨_, h1⟩
        · omega
        · rw [h1, hq]
      rw [hz]
      refine dm_neg_ok (zT a) (nT g) (45 :: nT (a.natAbs / g)) [48] a.natAbs g ((a.natAbs / g : Nat) : Int) ?_
      repeat' first | exact AllP.nil | refine AllP.cons ?_ ?_
      all_goals first | rfl | exact hne | exact o1 | exact o2 | exact hdv | exact hc0 | exact close_minus _ (by omega) | skip
      · exact pure_neq_bool (a := true) (b := false) rfl (by kernel_rfl) rfl rfl
    · rw [decide_eq_false hn] at o1
      have hz : zT (a.tdiv g) = nT (a.natAbs / g) := by
        have hs : 0 ≤ a.tdiv g := Int.tdiv_nonneg (by omega) (by omega)
        rcases zT_cases (a.tdiv g) with ⟨_, h1⟩ | ⟨h1, _⟩
        · rw [h1, hq]
        · omega
      rw [hz]
      refine dm_pos_ok (zT a) (nT g) (nT (a.natAbs / g)) [48] a.natAbs g ((a.natAbs / g : Nat) : Int) ?_
      repeat' first | exact AllP.nil | refine AllP.cons ?_ ?_
      all_goals first | rfl | exact hne | exact o1 | exact o2 | exact hdv | exact hc0 | exact close_plus _ (by omega) | skip
      · exact pure_neq_bool (a := false) (b := false) rfl (by kernel_rfl) rfl rfl
theorem join_ok (p : Int) (q : Nat) (hp : p.natAbs < 10 ^ 18) (hq : q < 10 ^ 18) : CallsTo Tryz.prog 110 [sv (zT p), sv (nT q)] (sv (rT p q)) := by
  unfold rT
  by_cases h1 : q = 1
  · rw [if_pos h1, h1, nT_one]
    exact join_one_ok _ _ (AllP.cons (by rw [ByteArray.toList_mk]; rfl) AllP.nil)
  · rw [if_neg h1]
    have hne : ((bstr (nT q)).toList == [49]) = false := toList_ne (by rw [← nT_one]; exact fun e => h1 (nTinj e))
    have l1 := zT_length p
    have l2 := nT_le (n := p.natAbs) (k := 18) hp (by decide)
    have l3 := nT_le (n := q) (k := 18) hq (by decide)
    have hjoin : bstr (zT p) ++ { data := #[47] } ++ bstr (nT q) = bstr (zT p ++ 47 :: nT q) := by
      show bstr (zT p) ++ bstr [47] ++ bstr (nT q) = _
      rw [bstr_append, bstr_append]
      simp
    have hs2 : ((bstr (zT p) ++ { data := #[47] }).size : Nat) = (zT p).length + 1 := by
      show (bstr (zT p) ++ bstr [47]).size = _
      rw [bstr_append]
      simp
    have := join_any_ok (zT p) (nT q) (AllP.cons hne (AllP.cons (by rw [max64]; show ((((zT p).length + 1 : Nat)) : Int) ≤ _; omega) (AllP.cons (by rw [hs2, max64, bstr_size]; omega) AllP.nil)))
    rw [hjoin] at this
    exact this
theorem lowest_ok (k : Int) (n : Nat) (hn : 0 < n) (hk : k.natAbs < 10 ^ 9) (hn9 : n < 10 ^ 9) : CallsTo Tryz.prog 61 [sv (zT k), sv (nT n)] (sv (fT k n)) := by
  have hs := isign_ok (n : Int)
  rw [if_neg (by omega), if_neg (by omega), zT_nat] at hs
  have l1 := zT_length k
  have l2 := nT_le (n := k.natAbs) (k := 9) hk (by decide)
  have l3 := nT_le (n := n) (k := 9) hn9 (by decide)
  have hG : 0 < Nat.gcd k.natAbs n := Nat.gcd_pos_of_pos_right _ hn
  have hGn : Nat.gcd k.natAbs n ≤ n := Nat.gcd_le_right _ hn
  have hg := gcd_ok k (n : Int) (by omega) (by rw [zT_nat]; omega) (by rw [Int.natAbs_natCast]; omega)
  rw [zT_nat, Int.natAbs_natCast] at hg
  have hd1 : k.natAbs % Nat.gcd k.natAbs n = 0 := Nat.mod_eq_zero_of_dvd (Nat.gcd_dvd_left _ _)
  have hd2 : n % Nat.gcd k.natAbs n = 0 := Nat.mod_eq_zero_of_dvd (Nat.gcd_dvd_right _ _)
  unfold fT
  generalize Nat.gcd k.natAbs n = G at *
  by_cases h1 : G = 1
  · subst h1
    rw [nT_one] at hg
    have hj := join_ok k n (by omega) (by omega)
    rw [show ((1 : Nat) : Int) = 1 from rfl, Int.tdiv_one, Nat.div_one]
    refine low_one_ok (zT k) (nT n) _ ?_
    repeat' first | exact AllP.nil | refine AllP.cons ?_ ?_
    all_goals first | rfl | exact hs | exact hg | exact hj
  · have m1 := divmod_ok k G hG hk (by omega) hd1
    have m2 := divmod_ok (n : Int) G hG (by simpa using hn9) (by omega) (by simpa using hd2)
    have e2 : (n : Int).tdiv (G : Int) = ((n / G : Nat) : Int) := by rw [Int.ofNat_tdiv]
    rw [zT_nat, e2, zT_nat] at m2
    have hq1 := tdiv_bound (k := k) (M := 10 ^ 9 - 1) hG (by omega)
    have hq2 : n / G ≤ n := Nat.div_le_self _ _
    have hj := join_ok (k.tdiv G) (n / G) (by omega) (by omega)
    refine low_any_ok (zT k) (nT n) (nT G) (zT (k.tdiv G)) [48] (nT (n / G)) [48] _ ?_
    repeat' first | exact AllP.nil | refine AllP.cons ?_ ?_
    all_goals first | rfl | exact hs | exact hg | exact m1 | exact m2 | exact hj | skip
    · rw [toList_ne (by rw [← nT_one]; exact fun e => h1 (nTinj e))]
      rfl
theorem new_ok (k : Int) (n : Nat) (hn : 0 < n) (hk : k.natAbs < 10 ^ 9) (hn9 : n < 10 ^ 9) : CallsTo Tryz.prog 58 [sv (zT k), sv (nT n)] (.tup [sv (fT k n), iv 0]) := by
  have hs := isign_ok (n : Int)
  rw [if_neg (by omega), if_neg (by omega), zT_nat] at hs
  refine new_any_ok (zT k) (nT n) (fT k n) 1 ?_
  repeat' first | exact AllP.nil | refine AllP.cons ?_ ?_
  all_goals first | rfl | exact hs | exact lowest_ok k n hn hk hn9
theorem of_ok (k : Int) (n : Nat) (hn : 0 < n) (hk : k.natAbs < 10 ^ 9) (hn9 : n < 10 ^ 9) : CallsTo Tryz.prog 17 [iv k, iv n] (.tup [sv (fT k n), iv 0]) := by
  have h1 := iof_ok' k (by omega) (by omega)
  have h2 := iof_ok' (n : Int) (by omega) (by omega)
  rw [zT_nat] at h2
  refine of_any_ok k n 0 (zT k) (nT n) (fT k n) ?_
  repeat' first | exact AllP.nil | refine AllP.cons ?_ ?_
  all_goals first | exact h1 | exact h2 | exact new_ok k n hn hk hn9
theorem whole_ok (n : Int) (h0 : -9223372036854775808 ≤ n) (h1 : n ≤ 9223372036854775807) : CallsTo Tryz.prog 95 [iv n] (sv (zT n)) :=
  whole_any_ok n (zT n) (AllP.cons (iof_ok' n h0 h1) AllP.nil)
end Go.Flow.Tryz
namespace Go.Flow.Tryz
open Go Go.Proofs Go.RowKit Go.Flow
set_option maxRecDepth 100000
theorem index47 : ∀ (a b : List UInt8), (∀ c ∈ a, c ≠ 47) → Lib.index (a ++ 47 :: b) [47] = a.length
  | [], b, _ => by simp [Lib.index, List.isPrefixOf]
  | c :: a, b, h => by
    have ih := index47 a b fun x hx => h x (by simp [hx])
    have hc : ((47 : UInt8) == c) = false := by rw [beq_eq_false_iff_ne]; exact fun e => h c (by simp) e.symm
    simp only [List.cons_append, Lib.index, List.isPrefixOf, hc, Bool.false_and, Bool.false_eq_true, if_false, ih]
    rw [if_neg (by rw [beq_iff_eq]; omega)]
    simp
theorem index47_none : ∀ (a : List UInt8), (∀ c ∈ a, c ≠ 47) → Lib.index a [47] = -1
  | [], _ => by simp [Lib.index]
  | c :: a, h => by
    have ih := index47_none a fun x hx => h x (by simp [hx])
    have hc : ((47 : UInt8) == c) = false := by rw [beq_eq_false_iff_ne]; exact fun e => h c (by simp) e.symm
    simp only [Lib.index, List.isPrefixOf, hc, Bool.false_and, Bool.false_eq_true, if_false, ih]
    simp
theorem cut_frac (a b : List UInt8) (h : ∀ c ∈ a, c ≠ 47) : Lib.cut (a ++ 47 :: b) [47] = (a, b, true) := by
  unfold Lib.cut
  rw [index47 a b h, if_pos (by omega)]
  simp
theorem cut_whole (a : List UInt8) (h : ∀ c ∈ a, c ≠ 47) : Lib.cut a [47] = (a, [], false) := by
  unfold Lib.cut
  rw [index47_none a h, if_neg (by decide)]
abbrev sC (u : List UInt8) (n i : Int) : List AV := st 47 ([.any, .any, iv 0, sv u] ++ List.replicate 28 .any ++ [iv n, iv i])
theorem chk_rounds (u : List UInt8) (hd : ∀ c ∈ u, Dig c) (hl : u.length < 1000) : ∀ (m i : Nat), u.length = m + i →
    Rounds Tryz.prog (bodyOf (loopAt Tryz.f50 0)) (m + 1) (sC u (bstr u).size i) [] (.exit 0) (sC u (bstr u).size (bstr u).size) []
  | 0, i, h => by
    have e : ((i : Nat) : Int) = ((bstr u).size : Int) := by rw [bstr_size]; omega
    rw [e]
    exact chk_end_out u _ _ 0 (AllP.cons (decide_eq_false (by omega)) AllP.nil)
  | m + 1, i, h => by
    have ih := chk_rounds u hd hl m (i + 1) (by omega)
    have hi : i < u.length := by omega
    have hg : (bstr u).data.toList.getD (Int.toNat (i : Int)) 0 = u[i] := by
      show u.getD (Int.toNat (i : Int)) 0 = u[i]
      rw [Int.toNat_natCast, List.getD_eq_getElem?_getD, List.getElem?_eq_getElem hi]
      rfl
    have hc := hd u[i] (List.getElem_mem hi)
    unfold Dig at hc
    have hsz : (bstr u).size = u.length := bstr_size u
    rw [show (((i + 1 : Nat)) : Int) = (i : Int) + 1 by omega] at ih
    have keep : Rounds Tryz.prog (bodyOf (loopAt Tryz.f50 0)) (m + 1) (st 47 ([.any, .any, iv 0, sv u, .any, iv i] ++ List.replicate 26 .any ++ [iv (bstr u).size, iv (i + 1)])) [] (.exit 0) (sC u (bstr u).size (bstr u).size) [] := by
      intro B S0 w0 α a w s hf Q hQ
      obtain ⟨α1, s1, f1⟩ := (Same.cast (Same.mask ([false, false, true, true, false, false] ++ List.replicate 26 false ++ [true, true])) rfl rfl rfl rfl : Same _ _ (sC u (bstr u).size (i + 1)) []) B S0 w0 α a w s hf
      exact ih B S0 w0 α1 a w s1 f1 Q hQ
    refine chk_step_step u _ _ (m + 1) ?_ keep
    rw [hg, hsz]
    repeat' first | exact AllP.nil | refine AllP.cons ?_ ?_
    all_goals first | exact decide_eq_true (by omega) | exact decide_eq_false (by omega) | exact ⟨by omega, by omega⟩ | (rw [w64]; omega)
theorem icheck_dig (s u : List UInt8) (m : Bool) (c : UInt8) (r : List UInt8) (hu : u = c :: r) (hc : c ≠ 48) (hd : ∀ c ∈ u, Dig c) (hl : u.length ≤ 200) (hcut : CallsTo Tryz.prog 97 [sv s, sv [45]] (.tup [sv u, bv m])) :
    CallsTo Tryz.prog 50 [sv s] (iv 0) := by
  have hsz : (bstr u).size = u.length := bstr_size u
  have h1 : 1 ≤ u.length := by rw [hu]; simp
  have hne : ((bstr u).toList == []) = false := toList_ne (by rw [hu]; simp)
  have hg : (bstr u).data.toList.getD (Int.toNat (0 : Int)) 0 = c := by rw [hu]; rfl
  have hgo : Goes Tryz.prog (loopAt Tryz.f50 0) (sC u (bstr u).size 0) [] (.exit 0) (sC u (bstr u).size (bstr u).size) [] := Goes.loop (chk_rounds u hd (by omega) u.length 0 (by omega))
  refine chk_pos_ok s u m ?_
  rw [hg, hsz]
  rw [hsz] at hgo
  have h48 : ((c.toNat : Int) == 48) = false := by
    rw [beq_eq_false_iff_ne]
    intro e
    exact hc (UInt8.toNat_inj.1 (by have : c.toNat = 48 := by omega
                                    rw [this]; rfl))
  repeat' first | exact AllP.nil | refine AllP.cons ?_ ?_
  all_goals first | exact hcut | exact hne | exact h48 | exact decide_eq_false (by omega) | exact ⟨by omega, by omega⟩ | rfl | skip
  exact Same.goes (Same.cast (Same.mask ([false, false, true, true] ++ List.replicate 28 false ++ [true, true])) rfl rfl rfl rfl) hgo
theorem nT_lead (n : Nat) (h : 0 < n) : ∃ c r, nT n = c :: r ∧ c ≠ 48 := by
  induction n using Nat.strongRecOn with
  | _ n ih =>
    show ∃ c r, Lib.decDigits n = c :: r ∧ c ≠ 48
    rw [Lib.decDigits]
    split
    · rename_i h9
      refine ⟨_, _, rfl, fun e => ?_⟩
      have := congrArg UInt8.toNat e
      rw [chr_toNat h9] at this
      have e48 : UInt8.toNat 48 = 48 := rfl
      omega
    · rename_i h9
      obtain ⟨c, r, h1, h2⟩ := ih (n / 10) (by omega) (by omega)
      have h1 : Lib.decDigits (n / 10) = c :: r := h1
      rw [h1]
      exact ⟨c, _, rfl, h2⟩
theorem icheck_ok (n : Int) (h : n.natAbs < 10 ^ 18) : CallsTo Tryz.prog 50 [sv (zT n)] (iv 0) := by
  have hc := cutPrefix_ok (zT n) [45]
  rw [(zT_prefix n).1, (zT_prefix n).2] at hc
  by_cases h0 : n = 0
  · subst h0
    have e1 : nT (Int.natAbs 0) = [48] := nT_zero
    rw [e1, decide_eq_false (by omega)] at hc
    refine chk_zero_ok (zT 0) ?_
    repeat' first | exact AllP.nil | refine AllP.cons ?_ ?_
    all_goals first | exact hc | rfl | decide
  · obtain ⟨c, r, hu, hne⟩ := nT_lead n.natAbs (by omega)
    exact icheck_dig _ _ _ c r hu hne (nT_dig _) (Nat.le_trans (nT_le h (by decide)) (by decide)) hc
theorem icheck_nat (n : Nat) (h : n < 10 ^ 18) : CallsTo Tryz.prog 50 [sv (nT n)] (iv 0) := by
  have := icheck_ok (n : Int) (by simpa using h)
  rwa [zT_nat] at this
theorem trimPrefix_nat (n : Nat) : CallsTo Tryz.prog 99 [sv (nT n), sv [45]] (sv (nT n)) := by
  have h := trimPrefix_ok (nT n) [45]
  have h2 := (zT_prefix (n : Int)).2
  rw [zT_nat, Int.natAbs_natCast] at h2
  rwa [h2] at h
theorem icmp_one (q : Nat) (h : 2 ≤ q) (hq : q < 10 ^ 18) : ∃ c : Int, 0 < c ∧ CallsTo Tryz.prog 51 [sv (nT q), sv [49]] (iv c) := by
  have hs := isign_ok (q : Int)
  rw [if_neg (by omega), if_neg (by omega), zT_nat] at hs
  have hs1 := isign_ok (1 : Int)
  rw [if_neg (by omega), if_neg (by omega)] at hs1
  have e1 : zT 1 = [49] := by rw [show (1 : Int) = ((1 : Nat) : Int) from rfl, zT_nat]; exact nT_one
  rw [e1] at hs1
  have t1 := trimPrefix_nat q
  have t2 := trimPrefix_nat 1
  rw [nT_one] at t2
  have hsz : (bstr (nT q)).size = (nT q).length := bstr_size _
  have hp := nT_pos q
  by_cases h9 : q < 10
  · have hn : nT q = [UInt8.ofNat (48 + q)] := by
      show Lib.decDigits q = _
      rw [Lib.decDigits, dif_pos h9]
    have hcmp : Lib.compareBytes (nT q) [49] = 1 := by
      rw [hn]
      have hlt : ¬ (UInt8.ofNat (48 + q) < 49) := by
        rw [UInt8.lt_iff_toNat_lt, chr_toNat h9]
        have : UInt8.toNat 49 = 49 := rfl
        omega
      have hgt : (49 : UInt8) < UInt8.ofNat (48 + q) := by
        rw [UInt8.lt_iff_toNat_lt, chr_toNat h9]
        have : UInt8.toNat 49 = 49 := rfl
        omega
      simp only [Lib.compareBytes, if_neg hlt, if_pos hgt]
    have hc := compare_ok (nT q) [49]
    rw [hcmp] at hc
    refine ⟨1 * 1, by decide, icmp_same_ok (nT q) 1 ?_⟩
    have hl1 : (nT q).length = 1 := by rw [hn]; rfl
    repeat' first | exact AllP.nil | refine AllP.cons ?_ ?_
    all_goals first | exact hs | exact hs1 | rfl | exact t1 | exact t2 | exact hc | decide | (rw [hsz, hl1]; rfl)
  · have hl : 2 ≤ (nT q).length := by
      rw [nT_length, Lib.nDigits_big (by omega)]
      have := Lib.nDigits_pos (q / 10)
      omega
    refine ⟨1, by decide, icmp_long_ok (nT q) ?_⟩
    repeat' first | exact AllP.nil | refine AllP.cons ?_ ?_
    all_goals first | exact hs | exact hs1 | rfl | exact t1 | exact t2 | skip
    · rw [hsz, bne_iff_ne]; omega
    · exact decide_eq_false (by rw [hsz]; have : (bstr [49]).size = 1 := rfl; omega)
theorem gcd_rT (p : Int) (q : Nat) (hg : Nat.gcd p.natAbs q = 1) (hp : p.natAbs < 10 ^ 9) (hq : q < 10 ^ 9) : CallsTo Tryz.prog 52 [sv (zT p), sv (nT q)] (sv [49]) := by
  have l1 := zT_length p
  have l2 := nT_le (n := p.natAbs) (k := 9) hp (by decide)
  have l3 := nT_le (n := q) (k := 9) hq (by decide)
  have h := gcd_ok p (q : Int) (by omega) (by rw [zT_nat]; omega) (by rw [Int.natAbs_natCast, hg]; decide)
  rw [zT_nat, Int.natAbs_natCast, hg, nT_one] at h
  exact h
theorem fT_lowest (k : Int) (n : Nat) (hn : 0 < n) : Nat.gcd (k.tdiv (Nat.gcd k.natAbs n)).natAbs (n / Nat.gcd k.natAbs n) = 1 := by
  have hG : 0 < Nat.gcd k.natAbs n := Nat.gcd_pos_of_pos_right _ hn
  rw [Int.natAbs_tdiv, Int.natAbs_natCast]
  have := Nat.gcd_div (Nat.gcd_dvd_left k.natAbs n) (Nat.gcd_dvd_right k.natAbs n)
  rw [Nat.div_self hG] at this
  exact this
theorem rcheck_ok (k : Int) (n : Nat) (hn : 0 < n) (hk : k.natAbs < 10 ^ 9) (hn9 : n < 10 ^ 9) : CallsTo Tryz.prog 13 [sv (fT k n)] (iv 0) := by
  have hlow := fT_lowest k n hn
  have hG : 0 < Nat.gcd k.natAbs n := Nat.gcd_pos_of_pos_right _ hn
  have hp9 := tdiv_bound (k := k) (M := 10 ^ 9 - 1) hG (by omega)
  have hq9 : n / Nat.gcd k.natAbs n ≤ n := Nat.div_le_self _ _
  have hq1 : 0 < n / Nat.gcd k.natAbs n := Nat.div_pos (Nat.gcd_le_right _ hn) hG
  unfold fT
  generalize k.tdiv (Nat.gcd k.natAbs n) = p at *
  generalize n / Nat.gcd k.natAbs n = q at *
  have hpl : (zT p).length ≤ 11 := by
    have := zT_length p
    have := nT_le (n := p.natAbs) (k := 9) (by omega) (by decide)
    omega
  have hql := nT_le (n := q) (k := 9) (by omega) (by decide)
  have hci := icheck_ok p (by omega)
  unfold rT
  by_cases h1 : q = 1
  · rw [if_pos h1]
    have hc := cut_ok (zT p) [47] (by omega)
    rw [cut_whole _ (zT_not47 p)] at hc
    refine rchk_whole_ok _ (zT p) [] ?_
    repeat' first | exact AllP.nil | refine AllP.cons ?_ ?_
    all_goals first | exact hc | exact hci | rfl
  · rw [if_neg h1]
    have hc := cut_ok (zT p ++ 47 :: nT q) [47] (by simp; omega)
    rw [cut_frac _ _ (zT_not47 p)] at hc
    obtain ⟨c, hc0, hcmp⟩ := icmp_one q (by omega) (by omega)
    have hne : ((bstr (zT p)).toList == [48]) = false := toList_ne (fun e => by
      have h0 : p = 0 := (zT_zero_iff p).1 e
      subst h0
      simp at hlow
      omega)
    refine rchk_frac_ok _ (zT p) (nT q) c ?_
    repeat' first | exact AllP.nil | refine AllP.cons ?_ ?_
    all_goals first | exact hc | exact hci | exact icheck_nat q (by omega) | rfl | exact hcmp | exact decide_eq_false (by omega) | exact hne | exact gcd_rT p q hlow (by omega) (by omega)
theorem point_ok (k l : Int) (n m : Nat) (hn : 0 < n) (hm : 0 < m) (hk : k.natAbs < 10 ^ 9) (hl : l.natAbs < 10 ^ 9) (hn9 : n < 10 ^ 9) (hm9 : m < 10 ^ 9) : CallsTo Tryz.prog 56 [.agg [sv (fT k n), sv (fT l m)]] (iv 0) := by
  have h1 := rcheck_ok k n hn hk hn9
  have h2 := rcheck_ok l m hm hl hm9
  have hnums : CallsTo Tryz.prog 106 [.lst 1 [sv (fT k n), sv (fT l m)]] (iv 0) := by
    refine nums2_ok _ _ ?_
    repeat' first | exact AllP.nil | refine AllP.cons ?_ ?_
    all_goals first | rfl | exact h1 | exact h2 | exact ⟨by decide, rfl⟩ | decide
  refine ckp_ok _ _ 0 ?_
  repeat' first | exact AllP.nil | refine AllP.cons ?_ ?_
  all_goals first | rfl | exact hnums
theorem parts_ok (p : Int) (q : Nat) (hl : (rT p q).length < 1000) : CallsTo Tryz.prog 54 [sv (rT p q)] (.tup [sv (zT p), sv (nT q)]) := by
  have hc := cut_ok (rT p q) [47] (by omega)
  unfold rT at hc ⊢
  by_cases h1 : q = 1
  · rw [if_pos h1] at hc ⊢
    rw [cut_whole _ (zT_not47 p)] at hc
    rw [h1, nT_one]
    refine parts_whole_ok _ (zT p) [] ?_
    repeat' first | exact AllP.nil | refine AllP.cons ?_ ?_
    all_goals first | exact hc | rfl
  · rw [if_neg h1] at hc ⊢
    rw [cut_frac _ _ (zT_not47 p)] at hc
    refine parts_frac_ok _ (zT p) (nT q) ?_
    repeat' first | exact AllP.nil | refine AllP.cons ?_ ?_
    all_goals first | exact hc | rfl
theorem ineg_ok (n : Int) (h : n.natAbs < 10 ^ 18) (h0 : n ≠ 0) : CallsTo Tryz.prog 108 [sv (zT n)] (sv (zT (-n))) := by
  have hs := isign_ok n
  rw [if_neg h0] at hs
  by_cases hn : n < 0
  · rw [if_pos hn] at hs
    have e1 : zT n = 45 :: nT n.natAbs := by
      rcases zT_cases n with ⟨h1, _⟩ | ⟨_, h1⟩
      · omega
      · exact h1
    have e2 : zT (-n) = nT n.natAbs := by
      rcases zT_cases (-n) with ⟨_, h1⟩ | ⟨h1, _⟩
      · rw [h1, Int.natAbs_neg]
      · omega
    have hsz : (bstr (45 :: nT n.natAbs)).size = (nT n.natAbs).length + 1 := bstr_size _
    have hex : (bstr (45 :: nT n.natAbs)).extract (Int.toNat 1) (Int.toNat (((bstr (45 :: nT n.natAbs)).size : Nat) : Int)) = bstr (nT n.natAbs) := by
      rw [Int.toNat_natCast, hsz]
      have := bstr_extract (45 :: nT n.natAbs) 1 ((nT n.natAbs).length + 1)
      rw [show Int.toNat 1 = 1 from rfl, this]
      simp
    rw [e1] at hs ⊢
    rw [e2]
    refine CallsTo.cast (ineg_neg_ok _ ?_) rfl (congrArg (fun x => AV.v (.string x)) hex)
    repeat' first | exact AllP.nil | refine AllP.cons ?_ ?_
    all_goals first | exact hs | rfl | exact ⟨by decide, by omega, by omega⟩
  · rw [if_neg hn] at hs
    have e1 : zT n = nT n.natAbs := by
      rcases zT_cases n with ⟨_, h1⟩ | ⟨h1, _⟩
      · exact h1
      · omega
    have e2 : zT (-n) = 45 :: nT n.natAbs := by
      rcases zT_cases (-n) with ⟨h1, _⟩ | ⟨_, h1⟩
      · omega
      · rw [h1, Int.natAbs_neg]
    have hj : ({ data := #[45] } : ByteArray) ++ bstr (nT n.natAbs) = bstr (45 :: nT n.natAbs) := by
      show bstr [45] ++ bstr (nT n.natAbs) = _
      rw [bstr_append]
      simp
    rw [e1] at hs ⊢
    rw [e2]
    have hl := nT_le (n := n.natAbs) (k := 18) h (by decide)
    have hsz : (bstr (nT n.natAbs)).size = (nT n.natAbs).length := bstr_size _
    refine CallsTo.cast (ineg_pos_ok _ ?_) rfl (congrArg (fun x => AV.v (.string x)) hj)
    repeat' first | exact AllP.nil | refine AllP.cons ?_ ?_
    all_goals first | exact hs | rfl | (rw [max64]; show ((1 + (bstr (nT n.natAbs)).size : Nat) : Int) ≤ _; rw [hsz]; omega)
theorem rT_head (p : Int) (q : Nat) : (((bstr (rT p q)).data.toList.getD (Int.toNat (0 : Int)) 0).toNat : Int) == 45 ↔ p < 0 := by
  show ((((rT p q).getD 0 0).toNat : Int) == 45) = true ↔ p < 0
  rcases rT_cases p q with ⟨h0, c, r, h, hd⟩ | ⟨h0, h⟩
  · rw [h]
    unfold Dig at hd
    simp only [List.getD_cons_zero, beq_iff_eq]
    constructor
    · intro e; omega
    · intro e; omega
  · rw [h]
    simp [h0]
theorem div_ok (k l : Int) (n m : Nat) (hn : 0 < n) (hm : 0 < m) (hl0 : l ≠ 0) (hk : k.natAbs < 1000000000) (hl : l.natAbs < 1000000000) (hn9 : n < 1000000000) (hm9 : m < 1000000000) :
    CallsTo Tryz.prog 76 [sv (fT k n), sv (fT l m)] (.tup [sv (fT (k * m * l.sign) (n * l.natAbs)), iv 0]) := by
  obtain ⟨p, q, g, hg, hq, hlp, hmq, hf, hp9, hq9⟩ := fT_parts l m hm
  have hp0 : p ≠ 0 := fun e => by subst e; simp at hlp; exact hl0 hlp
  have hpos : 0 < p.natAbs := by omega
  have hlen : (rT p q).length < 1000 := by
    have h1 := rT_length p q
    have h2 := nT_le (n := p.natAbs) (k := 9) (by omega) (by decide)
    have h3 := nT_le (n := q) (k := 9) (by omega) (by decide)
    omega
  have hpt := parts_ok p q hlen
  have hne : ((bstr (rT p q)).toList == [48]) = false := toList_ne fun e => hp0 ((rT_zero_iff p q).1 e).1
  have hsz : 0 < (bstr (rT p q)).size := by
    rw [bstr_size]
    rcases rT_cases p q with ⟨_, c, r, h, _⟩ | ⟨_, h⟩ <;> rw [h] <;> simp
  have hlow : Nat.gcd p.natAbs q = 1 := by
    have h1 := fT_lowest l m hm
    have h2 : fT l m = rT (l.tdiv (Nat.gcd l.natAbs m)) (m / Nat.gcd l.natAbs m) := rfl
    rw [hf] at h2
    obtain ⟨e1, e2⟩ := rT_inj h2
    rw [← e1, ← e2] at h1
    exact h1
  have hsame : ∀ s : Int, s.natAbs = 1 → fT (s * q) p.natAbs = rT (s * q) p.natAbs := fun s hs => by
    have hgc : Nat.gcd (s * (q : Int)).natAbs p.natAbs = 1 := by rw [Int.natAbs_mul, hs, Nat.one_mul, Int.natAbs_natCast, Nat.gcd_comm]; exact hlow
    unfold fT
    rw [hgc]
    simp
  have hmul : ∀ s : Int, s.natAbs = 1 → CallsTo Tryz.prog 19 [sv (fT k n), sv (rT (s * q) p.natAbs)] (sv (fT (k * (s * q)) (n * p.natAbs))) := fun s hs => by
    have := mul_ok k (s * q) n p.natAbs hn hpos hk (by rw [Int.natAbs_mul, hs, Nat.one_mul, Int.natAbs_natCast]; omega) hn9 (by omega)
    rw [hsame s hs] at this
    exact this
  have hfin : ∀ s : Int, l.sign = s → s.natAbs = 1 → fT (k * (s * q)) (n * p.natAbs) = fT (k * m * l.sign) (n * l.natAbs) := fun s hs h1 => by
    have e1 : l.natAbs = p.natAbs * g := by rw [hlp, Int.natAbs_mul, Int.natAbs_natCast]
    rw [hs, e1, ← fT_mul (k * (s * q)) (n * p.natAbs) g hg]
    congr 1
    · rw [hmq]
      have : ((q * g : Nat) : Int) = (q : Int) * g := by simp
      rw [this]
      simp only [Int.mul_assoc, Int.mul_comm, Int.mul_left_comm]
    · rw [Nat.mul_assoc]
  rw [hf]
  have hsl : l.sign = p.sign := by
    rw [hlp, Int.sign_mul, Int.sign_eq_one_of_pos (by omega : (0 : Int) < g), Int.mul_one]
  by_cases hneg : p < 0
  · have hs : l.sign = -1 := by rw [hsl]; exact Int.sign_eq_neg_one_of_neg hneg
    have n1 := ineg_ok p (by omega) hp0
    have n2 := ineg_ok (q : Int) (by rw [Int.natAbs_natCast]; omega) (by omega)
    rw [zT_nat] at n2
    have ep : zT (-p) = nT p.natAbs := by
      have := zT_nat p.natAbs
      rw [show ((p.natAbs : Nat) : Int) = -p by omega] at this
      exact this
    rw [ep] at n1
    have hj := join_ok (-(q : Int)) p.natAbs (by rw [Int.natAbs_neg, Int.natAbs_natCast]; omega) (by omega)
    have hm1 := hmul (-1) (by decide)
    rw [hfin (-1) hs (by decide)] at hm1
    rw [show (-1 : Int) * q = -(q : Int) by omega] at hm1
    refine rdiv_neg_ok _ _ (zT p) (nT q) (nT p.natAbs) (zT (-(q : Int))) (rT (-(q : Int)) p.natAbs) _ ?_
    repeat' first | exact AllP.nil | refine AllP.cons ?_ ?_
    all_goals first | exact hne | exact hpt | exact n1 | exact n2 | exact hj | exact hm1 | exact ⟨by decide, by omega⟩ | exact (rT_head p q).2 hneg
  · have hs : l.sign = 1 := by rw [hsl]; exact Int.sign_eq_one_of_pos (by omega)
    have ep : zT p = nT p.natAbs := by
      have := zT_nat p.natAbs
      rw [show ((p.natAbs : Nat) : Int) = p by omega] at this
      exact this
    rw [ep] at hpt
    have hj := join_ok (q : Int) p.natAbs (by rw [Int.natAbs_natCast]; omega) (by omega)
    rw [zT_nat] at hj
    have hm1 := hmul 1 (by decide)
    rw [hfin 1 hs (by decide)] at hm1
    rw [Int.one_mul] at hm1
    have hh : ((((bstr (rT p q)).data.toList.getD (Int.toNat (0 : Int)) 0).toNat : Int) == 45) = false := by
      cases e : ((((bstr (rT p q)).data.toList.getD (Int.toNat (0 : Int)) 0).toNat : Int) == 45)
      · rfl
      · exact absurd ((rT_head p q).1 e) hneg
    refine rdiv_pos_ok _ _ (nT p.natAbs) (nT q) (rT (q : Int) p.natAbs) _ ?_
    repeat' first | exact AllP.nil | refine AllP.cons ?_ ?_
    all_goals first | exact hne | exact hpt | exact hj | exact hm1 | exact ⟨by decide, by omega⟩ | exact hh
theorem rat_div_zero (s : List UInt8) : CallsTo Tryz.prog 76 [sv s, sv [48]] (.tup [sv [], iv 17]) := by
  refine rdiv_zero_ok s ?_
  repeat' first | exact AllP.nil | refine AllP.cons ?_ ?_
  all_goals rfl
end Go.Flow.Tryz
namespace Go.Flow.Tryz
open Go Go.Proofs Go.RowKit Go.Flow
set_option maxRecDepth 100000
def qT (x : Rat) : List UInt8 := rT x.num x.den
abbrev qv (x : Rat) : AV := sv (qT x)
theorem fT_q (k : Int) (n : Nat) (hn : 0 < n) : fT k n = qT (mkRat k n) := by
  unfold fT qT
  rw [Rat.num_mkRat, Rat.den_mkRat, if_neg (by omega), if_neg (by omega), Nat.gcd_comm n k.natAbs]
  congr 1
  refine Int.tdiv_eq_ediv_of_dvd ?_
  exact Int.ofNat_dvd_left.2 (Nat.gcd_dvd_left _ _)
theorem qT_f (x : Rat) : qT x = fT x.num x.den := by
  rw [fT_q _ _ x.den_pos, Rat.mkRat_self]
theorem qT_inj {x y : Rat} (h : qT x = qT y) : x = y := by
  obtain ⟨h1, h2⟩ := rT_inj h
  exact Rat.ext h1 h2
theorem qT_eq_iff (x y : Rat) : qT x = qT y ↔ x = y := ⟨qT_inj, fun h => h ▸ rfl⟩
structure Sm (x : Rat) : Prop where
  num : x.num.natAbs < 1000000000
  den : x.den < 1000000000
theorem Sm.of (k : Int) (n : Nat) (hk : k.natAbs < 1000000000) (hn : 0 < n) (hn9 : n < 1000000000) : Sm (mkRat k n) := by
  constructor
  · rw [Rat.num_mkRat, if_neg (by omega)]
    have hd : ((n.gcd k.natAbs : Nat) : Int) ∣ k := Int.ofNat_dvd_left.2 (Nat.gcd_dvd_right _ _)
    rw [← Int.tdiv_eq_ediv_of_dvd hd]
    exact Nat.lt_of_le_of_lt (tdiv_bound (Nat.gcd_pos_of_pos_left _ hn) (Nat.le_refl _)) hk
  · rw [Rat.den_mkRat, if_neg (by omega)]
    exact Nat.lt_of_le_of_lt (Nat.div_le_self _ _) hn9
theorem Sm.zero : Sm 0 := ⟨by decide, by decide⟩
theorem Sm.one : Sm 1 := ⟨by decide, by decide⟩
def cmpQ (x y : Rat) : Int := if x < y then -1 else if x > y then 1 else 0
theorem cmpQ_lt (x y : Rat) : cmpQ x y < 0 ↔ x < y := by unfold cmpQ; split <;> (try split) <;> simp_all
theorem cmpQ_gt (x y : Rat) : cmpQ x y > 0 ↔ x > y := by
  unfold cmpQ
  split
  · rename_i h
    constructor
    · intro h'; omega
    · intro h'; exact absurd h (Rat.not_lt.2 (Rat.le_of_lt h'))
  · split <;> simp_all
theorem cmpQ_le (x y : Rat) : cmpQ x y ≤ 0 ↔ x ≤ y := by
  have := cmpQ_gt x y
  rw [← Rat.not_lt]
  constructor
  · intro h h'; exact absurd (this.2 h') (by omega)
  · intro h; by_cases hp : cmpQ x y > 0
    · exact absurd (this.1 hp) h
    · omega
theorem cmpZ_q (x y : Rat) : cmpZ (x.num * y.den) (y.num * x.den) = cmpQ x y := by
  unfold cmpZ cmpQ
  simp only [Rat.lt_iff, GT.gt]
variable {x y : Rat}
theorem qcmp (hx : Sm x) (hy : Sm y) : CallsTo Tryz.prog 14 [qv x, qv y] (iv (cmpQ x y)) := by
  have := cmp_ok x.num y.num x.den y.den x.den_pos y.den_pos hx.num hy.num hx.den hy.den
  rwa [cmpZ_q, ← qT_f, ← qT_f] at this
theorem inv_q (y : Rat) : y⁻¹ = mkRat (y.num.sign * y.den) y.num.natAbs := by
  by_cases h : y.num = 0
  · rw [(Rat.num_eq_zero).1 h]; simp
  · have e : mkRat (y.num.sign * y.den) y.num.natAbs = Rat.divInt y.den y.num := by
      rw [← Rat.divInt_ofNat]
      have hs : y.num.sign ≠ 0 := fun e => h (Int.sign_eq_zero_iff_zero.1 e)
      have h1 : ((y.num.natAbs : Nat) : Int) = y.num.sign * y.num := by
        rcases Int.lt_trichotomy y.num 0 with h0 | h0 | h0
        · rw [Int.sign_eq_neg_one_of_neg h0]; omega
        · exact absurd h0 h
        · rw [Int.sign_eq_one_of_pos h0]; omega
      rw [h1, Rat.divInt_mul_left hs]
    rw [e, ← Rat.inv_divInt, Rat.divInt_ofNat, Rat.mkRat_self]
theorem qdiv (hx : Sm x) (hy : Sm y) (h0 : y ≠ 0) : CallsTo Tryz.prog 76 [qv x, qv y] (.tup [qv (x / y), iv 0]) := by
  have hn : y.num ≠ 0 := fun e => h0 (Rat.num_eq_zero.1 e)
  have := div_ok x.num y.num x.den y.den x.den_pos y.den_pos hn hx.num hy.num hx.den hy.den
  have hpos : 0 < x.den * y.num.natAbs := Nat.mul_pos x.den_pos (by omega)
  rw [fT_q _ _ hpos, ← qT_f, ← qT_f] at this
  have e : mkRat (x.num * ↑y.den * y.num.sign) (x.den * y.num.natAbs) = x / y := by
    rw [Rat.div_def, inv_q, show x.num * (y.den : Int) * y.num.sign = x.num * (y.num.sign * y.den) by rw [Int.mul_assoc, Int.mul_comm (y.den : Int)], ← Rat.mkRat_mul_mkRat, Rat.mkRat_self]
  rwa [e] at this
theorem qT0 : qT 0 = [48] := by
  rw [qT_f]
  exact (fT_zero_iff 0 1 (by decide)).2 rfl
theorem qT1 : qT 1 = [49] := (rT_one_iff 1 1).2 ⟨rfl, rfl⟩
theorem qcheck (hx : Sm x) : CallsTo Tryz.prog 13 [qv x] (iv 0) := by
  have := rcheck_ok x.num x.den x.den_pos (by have := hx.num; omega) (by have := hx.den; omega)
  rwa [← qT_f] at this
theorem qmax (hx : Sm x) (hy : Sm y) : CallsTo Tryz.prog 77 [qv x, qv y] (qv (if y > x then y else x)) := by
  have := max_ok x.num y.num x.den y.den x.den_pos y.den_pos hx.num hy.num hx.den hy.den
  rw [← qT_f, ← qT_f] at this
  have e : (y.num * (x.den : Int) > x.num * y.den) ↔ (y > x) := (Rat.lt_iff x y).symm
  simp only [e] at this
  split at this <;> rename_i h
  · rwa [if_pos h]
  · rwa [if_neg h]
theorem qmin (hx : Sm x) (hy : Sm y) : CallsTo Tryz.prog 78 [qv x, qv y] (qv (if y < x then y else x)) := by
  have := min_ok x.num y.num x.den y.den x.den_pos y.den_pos hx.num hy.num hx.den hy.den
  rw [← qT_f, ← qT_f] at this
  have e : (y.num * (x.den : Int) < x.num * y.den) ↔ (y < x) := (Rat.lt_iff y x).symm
  simp only [e] at this
  split at this <;> rename_i h
  · rwa [if_pos h]
  · rwa [if_neg h]
end Go.Flow.Tryz
namespace Go.Flow.Tryz
open Go Go.Proofs Go.RowKit Go.Flow
set_option maxRecDepth 100000
def sdR0 (fn : Func) : Code := codeL (codeOf fn)
def sdLB (fn : Func) : Code := codeL (codeL (codeR (codeOf fn)))
def sdR1 (fn : Func) : Code := codeL (sdLB fn)
def sdC1 (fn : Func) : Code := codeL (codeR (sdLB fn))
def sdIn (fn : Func) : Code := codeL (codeL (codeR (codeR (sdLB fn))))
def sdR2 (fn : Func) : Code := codeL (sdIn fn)
def sdOps (fn : Func) : Array Oper := codeOps (codeL (codeR (sdIn fn)))
def sdC3 (fn : Func) : Code := codeR (codeR (sdIn fn))
def sdR4 (fn : Func) : Code := codeR (codeR (codeR (sdLB fn)))
def sdO11 (fn : Func) : Oper := ((sdOps fn).toList[11]?).getD default
def sdO12 (fn : Func) : Oper := ((sdOps fn).toList[12]?).getD default
theorem sd_body : Tryz.f121.body = some (.seq (sdR0 Tryz.f121) (.block 0 (.loop (.seq (sdR1 Tryz.f121) (.seq (sdC1 Tryz.f121) (.seq (.block 1 (.seq (sdR2 Tryz.f121) (.seq (.region 3 (sdOps Tryz.f121) true) (sdC3 Tryz.f121)))) (sdR4 Tryz.f121))))))) := by kernel_rfl
theorem sd_drop : (sdOps Tryz.f121).toList.drop 11 = [sdO11 Tryz.f121, sdO12 Tryz.f121] := by kernel_rfl
theorem sd_op11 : (sdO11 Tryz.f121).op = .call ⟨.value (.tmp 7), #[.tmp 8, .tmp 17], #[3, 25]⟩ ∧ (sdO11 Tryz.f121).guard = none ∧ (sdO11 Tryz.f121).dst = some 18 := ⟨by kernel_rfl, by kernel_rfl, by kernel_rfl⟩
abbrev sd5 (a b c : Int) (l : Nat) (z : AV) (k : Int) : List AV := [yv l, .lp [iv a, iv b, iv c], uu, z, iv k]
abbrev sdT (a b c : Int) (l : Nat) (z : AV) (k : Int) : List AV := sd5 a b c l z k ++ List.replicate 16 .any
abbrev sdM (a b c : Int) (l : Nat) (k t t' : Int) : List AV := sd5 a b c l (iv k) k ++ [.any, .any, yv l, iv k, .any, .any, .any, .any, .any, .any, .any, .any, .agg [iv t, iv t'], .any, .any, .any]
theorem sd_head (a b c : Int) (l : Nat) (H : Heap) : (evC Tryz.prog tab (sdR0 Tryz.f121) ([yv l, .lp [iv a, iv b, iv c]] ++ List.replicate 19 uu) H [] []).cut 5 = some (.normal, sdT a b c l uu 0, H, []) := by kernel_rfl
theorem sd_r1 (a b c : Int) (l : Nat) (z : AV) (k : Int) (H : Heap) : (evC Tryz.prog tab (sdR1 Tryz.f121) (sdT a b c l z k) H [] []).cut 6 = some (.normal, sd5 a b c l z k ++ bv (decide (k < 3)) :: List.replicate 15 .any, H, []) := by kernel_rfl
theorem sd_go (a b c : Int) (l : Nat) (z : AV) (k : Int) (H : Heap) : (evC Tryz.prog tab (sdC1 Tryz.f121) (sd5 a b c l z k ++ bv (decide (k < 3)) :: List.replicate 15 .any) H [.b true] []).cut 5 = some (.normal, sdT a b c l z k, H, [decide (k < 3) = true]) := by kernel_rfl
theorem sd_out (a b c : Int) (l : Nat) (z : AV) (k : Int) (H : Heap) : (evC Tryz.prog tab (sdC1 Tryz.f121) (sd5 a b c l z k ++ bv (decide (k < 3)) :: List.replicate 15 .any) H [.b false] []).cut 5 = some (.exit 0, sdT a b c l z k, H, [decide (k < 3) = false]) := by kernel_rfl
theorem sd_r2 (a b c : Int) (l : Nat) (z : AV) (k : Int) (H : Heap) : (evC Tryz.prog tab (sdR2 Tryz.f121) (sdT a b c l z k) H [] []).cut 5 = some (.normal, sdT a b c l (iv k) k, H, []) := by kernel_rfl
theorem sd_r4 (a b c : Int) (l : Nat) (z : AV) (k : Int) (H : Heap) : (evC Tryz.prog tab (sdR4 Tryz.f121) (sdT a b c l z k) H [] []).cut 5 = some (.normal, sdT a b c l z (k + 1), H, [IntKind.i64.wrap (k + 1) = k + 1]) := by kernel_rfl
abbrev sdT18 (a b c : Int) (l : Nat) (k : Int) : List AV := sd5 a b c l (iv k) k ++ List.replicate 13 .any ++ [bv true, .any, .any]
theorem sd_op12 (a b c : Int) (l : Nat) (k : Int) (H : Heap) : opsA Tryz.prog tab (sdOps Tryz.f121) [sdO12 Tryz.f121] (sdT18 a b c l k) H [] [] = .ok (sd5 a b c l (iv k) k ++ List.replicate 13 .any ++ [bv true, bv (!true), .any]) H [] [] [] := by kernel_rfl
theorem sd_c3 (a b c : Int) (l : Nat) (k : Int) (H : Heap) : (evC Tryz.prog tab (sdC3 Tryz.f121) (sd5 a b c l (iv k) k ++ List.replicate 13 .any ++ [bv true, bv (!true), .any]) H [.b false] []).cut 5 = some (.normal, sdT a b c l (iv k) k, H, [(!true) = false]) := by kernel_rfl
def SdPre (a b c : Int) (l : Nat) (k t t' : Int) : Prop := ∀ H : Heap, ∃ T11 cs fs, drawA Tryz.prog tab (sdOps Tryz.f121) H.length 0 ((sdOps Tryz.f121).toList.take 11) (sdT a b c l (iv k) k) H [] [] = .ok T11 H [] cs fs ∧
  apartA H.length 0 ((sdOps Tryz.f121).toList.take 11) fs = true ∧ AllP cs ∧ mask [true, true, true, true, true, false, false, true, true, false, false, false, false, false, false, false, false, true] T11 = sdM a b c l k t t'
theorem sd_lex : Region.lexTailB .any (sdOps Tryz.f121) 11 = true := by kernel_rfl
theorem sd_get2 (H : Heap) (x y : Aux) (us : List Value) (G : List AV) (E : Heap) : getH (bwH H x y us G ++ E) (H.length + 1) = some (.aux y) := by
  rw [getH_left (by simp)]; exact bw_get2 H x y us G
theorem setAt_left {H E : Heap} {k : Nat} {o : Option AObj} (h : k < H.length) : setAt (H ++ E) k o = setAt H k o ++ E := by
  induction H generalizing k with
  | nil => exact absurd h (by simp)
  | cons z zs ih => cases k with
    | zero => rfl
    | succ k => simp only [List.cons_append, setAt, ih (by simpa using h)]
theorem sd_set2 (H : Heap) (x y y' : Aux) (us : List Value) (G : List AV) (E : Heap) : setAt (bwH H x y us G ++ E) (H.length + 1) (some (.aux y')) = bwH H x y' us G ++ E := by
  rw [setAt_left (by simp), bw_set2]
theorem sd_round {a b c : Int} {l D : Nat} {k t t' : Int} {z : AV} {T0 : List AV} {Hj Hk : Heap} (hk : Hk.length = Hj.length) {fn : FuncId} {tm : Array Value} {p0 p1 : Tmp} {assign body : Code}
    (hpre : SdPre a b c l k t t') (hk3 : k < 3) (hk0 : 0 ≤ k)
    (hr : ∃ T1 T2 E1, ∀ (p q : Option Nat) (ob1 ob2 : Obj) (us : List Value), GoesIn Tryz.prog assign ((T0.set p0 (iv k)).set p1 (.agg [iv t, iv t'])) (bwH Hj ⟨p, ob1, false⟩ ⟨q, ob2, false⟩ us (T0 ++ sd5 a b c l (iv k) k)) .normal T1 (bwH Hj ⟨p, ob1, false⟩ ⟨q, ob2, false⟩ us (T0 ++ sd5 a b c l (iv k) k) ++ E1) ∧
      GoesIn Tryz.prog body T1 (bwH Hj ⟨p, ob1, false⟩ ⟨q, ob2, false⟩ us (T0 ++ sd5 a b c l (iv k) k) ++ E1) .normal T2 (bwH Hk ⟨p, ob1, false⟩ ⟨q, ob2, false⟩ us (T0 ++ sd5 a b c l (iv k) k)))
    (huj : unmarked Hj = true)
    {B : Nat} {S0 : Nat → Prop} {w0 : World} {α : Nat → Option Value} {a0 : Act} {w : World}
    (s : Sim B S0 w0 α (sdT a b c l z k) (bwH Hj ⟨some D, .deferred (some []), false⟩ ⟨some l, .loop (bwRec .ready fn tm p0 p1 assign body D), false⟩ tm.toList T0) a0 w)
    (hf : Fresh α (bwH Hj ⟨some D, .deferred (some []), false⟩ ⟨some l, .loop (bwRec .ready fn tm p0 p1 assign body D), false⟩ tm.toList T0)) (Q : Exit → Act → World → Prop)
    (hQ : ∀ (α' : Nat → Option Value) (a' : Act) (w' : World), Sim B S0 w0 α' (sdT a b c l (iv k) (k + 1)) (bwH Hk ⟨some D, .deferred (some []), false⟩ ⟨some l, .loop (bwRec .ready fn tm p0 p1 assign body D), false⟩ tm.toList T0) a' w' →
      Fresh α' (bwH Hk ⟨some D, .deferred (some []), false⟩ ⟨some l, .loop (bwRec .ready fn tm p0 p1 assign body D), false⟩ tm.toList T0) → Q .normal a' w') :
    (Code.seq (sdR1 Tryz.f121) (.seq (sdC1 Tryz.f121) (.seq (.block 1 (.seq (sdR2 Tryz.f121) (.seq (.region 3 (sdOps Tryz.f121) true) (sdC3 Tryz.f121)))) (sdR4 Tryz.f121)))).wpIn Fence.wide 0 Tryz.prog Q a0 w := by
  refine wpIn_seq (wpIn_wide.2 (Goes.cut fits hmix (sd_r1 a b c l z k _) trivial B S0 w0 α a0 w s hf _ fun α1 a1 w1 s1 hf1 => ?_))
  refine wpIn_seq (wpIn_wide.2 (Goes.cut fits hmix (sd_go a b c l z k _) ⟨decide_eq_true hk3, trivial⟩ B S0 w0 α1 a1 w1 s1 hf1 _ fun α2 a2 w2 s2 hf2 => ?_))
  refine wpIn_seq (wpIn_block (wpIn_seq (wpIn_wide.2 (Goes.cut fits hmix (sd_r2 a b c l z k _) trivial B S0 w0 α2 a2 w2 s2 hf2 _ fun α3 a3 w3 s3 hf3 => ?_))))
  obtain ⟨T11, cs, fs, hdr, hap, hcs, hmask⟩ := hpre (bwH Hj ⟨some D, .deferred (some []), false⟩ ⟨some l, .loop (bwRec .ready fn tm p0 p1 assign body D), false⟩ tm.toList T0)
  refine wpIn_seq (draw_tail fits hmix (fun _ h => wp_wide h) (fun _ => trivial) hdr sd_lex hap (by kernel_rfl) hcs.all s3 hf3 fun α6 a6 w6 s6' hf6 => ?_)
  rw [sd_drop]
  have s6 : Sim B S0 w0 α6 (sdM a b c l k t t') (bwH Hj ⟨some D, .deferred (some []), false⟩ ⟨some l, .loop (bwRec .ready fn tm p0 p1 assign body D), false⟩ tm.toList T0) a6 w6 := by
    rw [← hmask]
    exact s6'.reframe (mask_rep _ s6'.tmps) s6'.defers
  have hlen6 : a6.tmps.toList.length = 21 := by rw [s6.tmps.length]; rfl
  have hyv : a6.eval (.tmp 7) = .func (.yield l) #[] #[] := (s6.eval (.tmp 7)).inv_v
  have hvi : a6.eval (.tmp 8) = .int .i64 k := (s6.eval (.tmp 8)).inv_v
  have hvx : a6.eval (.tmp 17) = .agg #[.int .i64 t, .int .i64 t'] := by
    have h : Rep _ (.agg [iv t, iv t']) (a6.eval (.tmp 17)) := s6.eval (.tmp 17)
    obtain ⟨us, hu, h1⟩ := h.inv_agg
    cases h1 with
    | cons _ u0 _ us1 hx hxs =>
      cases hxs with
      | cons _ u1 _ us2 hy hn =>
        cases hn
        rw [hu, hx.inv_v, hy.inv_v]
  obtain ⟨l', hl1, hl2, hl3, hl4⟩ := s6.objs _ _ (bw_get2 Hj _ _ _ _)
  obtain rfl := hl4 l rfl
  have hgh := (s6.objs _ _ (bw_get3 Hj _ _ _ _)).2
  unfold wpListIn
  rw [if_pos (by simp [Region.wanted, sd_op11.2.1])]
  have hrun : (execOp a6.eval (sdO11 Tryz.f121)).run Tryz.prog w6 = .ok (.round l' fn ((tm.setIfInBounds p0 (.int .i64 k)).setIfInBounds p1 (.agg #[.int .i64 t, .int .i64 t'])) assign body) w6 := by
    have hy := run_yield (P := Tryz.prog) (args := #[.int .i64 k, .agg #[.int .i64 t, .int .i64 t']]) hl3 rfl
    simp [execOp, sd_op11.1, resolve, hyv, hvi, hvx, Deferred.ofValue, invoke, hy]
  refine ⟨fun _ _ => trivial, ?_⟩
  rw [Oper.semAt_eq _ _ _ fun c e => by rw [sd_op11.1] at e; cases e]
  rw [hrun]
  refine ⟨(fun h => by cases h), roundIn_of_wpIn trivial ?_⟩
  have hagg : ∀ E : Env, Rep E (.agg [iv t, iv t']) (.agg #[.int .i64 t, .int .i64 t']) := fun E => .agg _ [_, _] (.cons _ _ _ _ (.v _) (.cons _ _ _ _ (.v _) .nil))
  have htk5 := s6.tmps.take 5
  have sg := s6.reghost (us' := tm.toList ++ a6.tmps.toList.take 5) (xs' := T0 ++ sd5 a b c l' (iv k) k) (bw_get3 Hj _ _ _ _) (hgh.append htk5)
  rw [bw_set3] at sg
  have fr3 : ∀ {α : Nat → Option Value} {H H' : Heap} {x y x' y' : Aux} {us us' : List Value} {G G' : List AV}, H'.length = H.length → Fresh α (bwH H x y us G) → Fresh α (bwH H' x' y' us' G') := fun hl h k hk => h k (by simpa [hl] using hk)
  have sr := sg.reframe (T' := (T0.set p0 (iv k)).set p1 (.agg [iv t, iv t'])) (a' := { tmps := (tm.setIfInBounds p0 (.int .i64 k)).setIfInBounds p1 (.agg #[.int .i64 t, .int .i64 t']), defers := [] })
    (by
      have h2 : RepL (envOf B S0 α6 (bwH Hj ⟨some D, .deferred (some []), false⟩ ⟨some l', .loop (bwRec .ready fn tm p0 p1 assign body D), false⟩ (tm.toList ++ a6.tmps.toList.take 5) (T0 ++ sd5 a b c l' (iv k) k)) w6) T0 tm.toList := by
        have h3 := (sg.objs _ _ (bw_get3 Hj _ _ _ _)).2
        have h4 := RepL.take T0.length h3
        rw [List.take_left' rfl] at h4
        rw [List.take_left' (by rw [hgh.length])] at h4
        exact h4
      simpa using (h2.set p0 (x := iv k) (u := .int .i64 k) (.v _)).set p1 (hagg _)) .nil
  obtain ⟨T1, T2, E1, hr⟩ := hr
  refine (hr _ _ _ _ _).1 l' B S0 w0 α6 _ w6 sr (fr3 rfl hf6) _ fun α7 a7 w7 s7 hf7 => ?_
  obtain ⟨b7, b71, b72, b73, b74⟩ := s7.objs _ _ (sd_get2 Hj _ _ _ _ _)
  obtain rfl := b74 l' rfl
  refine ⟨_, run_beginRound b73 rfl, ?_⟩
  have s8 := s7.turn (o' := .loop (bwRec .busy fn tm p0 p1 assign body D)) (sd_get2 Hj _ _ _ _ _) b71 (.inr (by intro h; cases h))
  rw [sd_set2] at s8
  have hf8 : ∀ {y' : Aux}, Fresh α7 (bwH Hj ⟨some D, .deferred (some []), false⟩ y' (tm.toList ++ a6.tmps.toList.take 5) (T0 ++ sd5 a b c b7 (iv k) k) ++ E1) := fun {y'} q hq => hf7 q (by simpa using hq)
  refine (hr _ _ _ _ _).2 b7 B S0 w0 α7 _ _ s8 hf8 _ fun α9 a9 w9 s9 hf9 => ?_
  obtain ⟨b9, b91, b92, b93, b94⟩ := s9.objs _ _ (bw_get2 Hk _ _ _ _)
  obtain rfl := b94 b7 rfl
  refine ⟨_, _, run_endRound none b93, ?_⟩
  have s10 := s9.turn (o' := .loop (bwRec .ready fn tm p0 p1 assign body D)) (bw_get2 Hk _ _ _ _) b91 (.inr (by intro h; cases h))
  rw [bw_set2] at s10
  have hgh10 := (s10.objs _ _ (bw_get3 Hk _ _ _ _)).2
  have hdrop := RepL.drop T0.length hgh10
  rw [List.drop_left' rfl, List.drop_left' (by rw [hgh.length])] at hdrop
  have htake := RepL.take T0.length hgh10
  rw [List.take_left' rfl, List.take_left' (by rw [hgh.length])] at htake
  have hd6 : a6.defers = [] := defers_nil s6 (bw_unmarked (x := ⟨some D, .deferred (some []), false⟩) (y := ⟨some b9, .loop (bwRec .ready fn tm p0 p1 assign body D), false⟩) huj rfl rfl)
  have s11 := s10.reframe (T' := sdT18 a b c b9 k) (a' := a6.put (some 18) (.bool true)) (by
    have h1 : RepL _ (sd5 a b c b9 (iv k) k ++ List.replicate 16 .any) a6.tmps.toList := RepL.of_get (by simp [hlen6]) fun k' x u hx hu => by
      by_cases hk5 : k' < 5
      · rw [List.getElem?_append_left (by simpa using hk5)] at hx
        obtain ⟨u', hu', hr'⟩ := hdrop.get hx
        rw [List.getElem?_take_of_lt hk5, hu] at hu'
        cases hu'
        exact hr'
      · rw [List.getElem?_append_right (by simp; omega), List.getElem?_replicate] at hx
        split at hx
        · cases hx; exact .any _
        · cases hx
    have h2 := h1.set 18 (x := bv true) (u := .bool true) (.v _)
    simpa [Act.put] using h2) (by
      have e : (a6.put (some 18) (.bool true)).defers = [] := (show (a6.put (some 18) (.bool true)).defers = a6.defers from rfl).trans hd6
      rw [e]
      exact .nil)
  have s12 := s11.reghost (us' := tm.toList) (xs' := T0) (bw_get3 Hk _ _ _ _) htake
  rw [bw_set3] at s12
  have hl12 : Fresh α9 (bwH Hk ⟨some D, .deferred (some []), false⟩ ⟨some b9, .loop (bwRec .ready fn tm p0 p1 assign body D), false⟩ tm.toList T0) := fr3 rfl hf9
  have h18 := opsA_sound_gen fits (F := Fence.wide) (fun _ h => wp_wide h) (fun _ => trivial) (ol2 := []) (sd_op12 a b c b9 k _) (by kernel_rfl) (fun c hc => by simp at hc) s12 hl12
  rw [sd_op11.2.2]
  refine h18 _ fun α13 a13 w13 s13 hf13 => wpListIn_nil ?_
  refine wpIn_wide.2 (Goes.cut fits hmix (sd_c3 a b c b9 k _) ⟨rfl, trivial⟩ B S0 w0 α13 a13 w13 s13 hf13 _ fun α14 a14 w14 s14 hf14 => ?_)
  exact wpIn_wide.2 (Goes.cut fits hmix (sd_r4 a b c b9 (iv k) k _) ⟨by rw [w64]; omega, trivial⟩ B S0 w0 α14 a14 w14 s14 hf14 _ fun α15 a15 w15 s15 hf15 => hQ α15 a15 w15 s15 hf15)
theorem sd_pre0 (a b c : Int) (l : Nat) : SdPre a b c l 0 a b := fun H =>
  ⟨sd5 a b c l (iv 0) 0 ++ [.any, .any, yv l, iv 0, iv 0, .lp [iv a, iv b, iv c], iv a, iv 0, iv (0 + 1), iv (Int.tmod (0 + 1) 3), .lp [iv b, iv c], iv b, .agg [iv a, iv b], .any, .any, .any],
    [(0 : Int) ≤ 0 ∧ (0 : Int) < ((3 : Nat) : Int), IntKind.i64.wrap ((0 : Int) + 1) = (0 : Int) + 1, (3 : Int) ≠ 0, (0 : Int) ≤ Int.tmod (0 + 1) 3 ∧ Int.tmod (0 + 1) 3 < ((3 : Nat) : Int)],
    List.replicate 11 ([], []), by kernel_rfl, by kernel_rfl, by refine ⟨?_, ?_, ?_, ?_, trivial⟩ <;> decide, by kernel_rfl⟩
theorem sd_pre1 (a b c : Int) (l : Nat) : SdPre a b c l 1 b c := fun H =>
  ⟨sd5 a b c l (iv 1) 1 ++ [.any, .any, yv l, iv 1, iv 1, .lp [iv b, iv c], iv b, iv 1, iv (1 + 1), iv (Int.tmod (1 + 1) 3), .lp [iv c], iv c, .agg [iv b, iv c], .any, .any, .any],
    [(0 : Int) ≤ 1 ∧ (1 : Int) < ((3 : Nat) : Int), IntKind.i64.wrap ((1 : Int) + 1) = (1 : Int) + 1, (3 : Int) ≠ 0, (0 : Int) ≤ Int.tmod (1 + 1) 3 ∧ Int.tmod (1 + 1) 3 < ((3 : Nat) : Int)],
    List.replicate 11 ([], []), by kernel_rfl, by kernel_rfl, by refine ⟨?_, ?_, ?_, ?_, trivial⟩ <;> decide, by kernel_rfl⟩
theorem sd_pre2 (a b c : Int) (l : Nat) : SdPre a b c l 2 c a := fun H =>
  ⟨sd5 a b c l (iv 2) 2 ++ [.any, .any, yv l, iv 2, iv 2, .lp [iv c], iv c, iv 2, iv (2 + 1), iv (Int.tmod (2 + 1) 3), .lp [iv a, iv b, iv c], iv a, .agg [iv c, iv a], .any, .any, .any],
    [(0 : Int) ≤ 2 ∧ (2 : Int) < ((3 : Nat) : Int), IntKind.i64.wrap ((2 : Int) + 1) = (2 : Int) + 1, (3 : Int) ≠ 0, (0 : Int) ≤ Int.tmod (2 + 1) 3 ∧ Int.tmod (2 + 1) 3 < ((3 : Nat) : Int)],
    List.replicate 11 ([], []), by kernel_rfl, by kernel_rfl, by refine ⟨?_, ?_, ?_, ?_, trivial⟩ <;> decide, by kernel_rfl⟩
def sideOf (a b c : Int) : Nat → Int × Int
  | 0 => (a, b)
  | 1 => (b, c)
  | _ => (c, a)
theorem sd_pre (a b c : Int) (l : Nat) : ∀ j : Nat, j < 3 → SdPre a b c l j (sideOf a b c j).1 (sideOf a b c j).2
  | 0, _ => sd_pre0 a b c l
  | 1, _ => sd_pre1 a b c l
  | 2, _ => sd_pre2 a b c l
  | _ + 3, h => absurd h (by omega)
abbrev sdZ (j : Nat) : AV := match j with
  | 0 => uu
  | j + 1 => iv j
theorem goes_sides {a b c : Int} {T0 : List AV} {H0 : Heap} {n : Nat} {Hs : Nat → Heap} {g : Operand} {p0 p1 : Tmp} {assign body : Code}
    (hg : evalA T0 g = .fn 121 [.lp [iv a, iv b, iv c]]) (h0 : Hs 0 = H0) (hlen : ∀ j, (Hs j).length = H0.length) (hu : ∀ j, unmarked (Hs j) = true)
    (hren : ∀ (ps : List (Option Nat)) (x : Aux), ps.length = n → renH (List.range (H0.length + n + 1)) (Hs 3 ++ hdH ps ++ [some (.aux x)]) = Hs 3 ++ hdH ps ++ [some (.aux x)])
    (hr : ∀ (j : Nat), j < 3 → ∀ (l : Nat) (ps : List (Option Nat)), ps.length = n → ∃ T1 T2 E1, ∀ (p q : Option Nat) (ob1 ob2 : Obj) (us : List Value),
      GoesIn Tryz.prog assign ((T0.set p0 (iv j)).set p1 (.agg [iv (sideOf a b c j).1, iv (sideOf a b c j).2])) (bwH (Hs j ++ hdH ps) ⟨p, ob1, false⟩ ⟨q, ob2, false⟩ us (T0 ++ sd5 a b c l (iv j) j)) .normal T1 (bwH (Hs j ++ hdH ps) ⟨p, ob1, false⟩ ⟨q, ob2, false⟩ us (T0 ++ sd5 a b c l (iv j) j) ++ E1) ∧
      GoesIn Tryz.prog body T1 (bwH (Hs j ++ hdH ps) ⟨p, ob1, false⟩ ⟨q, ob2, false⟩ us (T0 ++ sd5 a b c l (iv j) j) ++ E1) .normal T2 (bwH (Hs (j + 1) ++ hdH ps) ⟨p, ob1, false⟩ ⟨q, ob2, false⟩ us (T0 ++ sd5 a b c l (iv j) j))) :
    Goes Tryz.prog (.rangeFunc g #[p0, p1] assign body) T0 (H0 ++ mkH n) .normal (T0.map (ren (List.range (H0.length + n + 1)) 9)) (Hs 3 ++ mkH (n + 1)) := by
  intro B S0 w0 α a0 w s hf Q hQ
  have hds := s.defers
  have sh := s.hide
  have hpl : (placesOf α H0.length n).length = n := by simp [placesOf]
  have hfh : Fresh α (H0 ++ hdH (placesOf α H0.length n)) := fun k hk => hf k (by simpa [hdH, mkH, hpl] using hk)
  generalize hps : placesOf α H0.length n = ps at *
  have hgv := sh.eval g
  rw [hg] at hgv
  obtain ⟨cus, hgv, hcap⟩ := hgv.inv_fn
  refine (wpIn_wide (n := 0)).1 (wpIn_rangeFunc (n := 0) fun fn _ => ?_)
  have f1 := fresh_upd (v := .chan (some w.heap.size)) hfh (o := some (.aux ⟨some w.heap.size, .deferred (some []), false⟩))
  have f2 := fresh_upd (v := .chan (some (w.alloc (.deferred (some []))).heap.size)) f1 (o := some (.aux ⟨some (w.alloc (.deferred (some []))).heap.size, .loop (bwRec .ready fn a0.tmps p0 p1 assign body w.heap.size), false⟩))
  have s2 := (sh.pushAux hfh (.deferred (some []))).pushAux f1 (.loop (bwRec .ready fn a0.tmps p0 p1 assign body w.heap.size))
  have sc := ((sh.reframe (T' := [.lp [iv a, iv b, iv c]]) (a' := { tmps := cus.toArray, defers := [] }) hcap .nil).pushAux hfh (.deferred (some []))).pushAux f1 (.loop (bwRec .ready fn a0.tmps p0 p1 assign body w.heap.size))
  have s3 := sc.pushGhost f2 (us := a0.tmps.toList) (xs := T0) s2.tmps
  have f3 := fresh_upd (v := undef) f2 (o := some (.ghost a0.tmps.toList T0))
  rw [World.size_alloc] at s3 f3
  simp only [List.append_assoc, List.cons_append, List.nil_append] at s3 f3
  rw [← List.append_assoc] at s3 f3
  generalize updα _ _ undef = α3 at s3 f3
  have hcus : cus.length = 1 := hcap.length
  have s4 := s3.reframe (T' := [yv (w.heap.size + 1), .lp [iv a, iv b, iv c]] ++ List.replicate 19 uu)
    (a' := { tmps := (#[Value.func (.yield (w.heap.size + 1)) #[] #[]] ++ cus.toArray) ++ Array.replicate (Tryz.f121.ntmps - (#[Value.func (.yield (w.heap.size + 1)) #[] #[]] ++ cus.toArray).size) undef, defers := [] }) (by
      have hn : Tryz.f121.ntmps - (#[Value.func (.yield (w.heap.size + 1)) #[] #[]] ++ cus.toArray).size = 19 := by
        have : Tryz.f121.ntmps = 21 := by kernel_rfl
        rw [this]
        simp [hcus]
      rw [hn]
      have h1 : ∀ E : Env, RepL E [yv (w.heap.size + 1)] [.func (.yield (w.heap.size + 1)) #[] #[]] := fun E => .cons _ _ _ _ (.v _) .nil
      have h2 : ∀ E : Env, RepL E (List.replicate 19 uu) (List.replicate 19 undef) := fun E => RepL.of_get (by simp) fun k x u hx hu => by
        rw [List.getElem?_replicate] at hx hu
        split at hx
        · rename_i hk
          rw [if_pos hk] at hu
          cases hx; cases hu
          exact .v _
        · cases hx
      have := ((h1 _).append s3.tmps).append (h2 _)
      simpa using this) .nil
  refine ⟨w.heap.size + 1, [{ target := .collected w.heap.size, args := #[] }], (w.alloc (.deferred (some []))).alloc (.loop (bwRec .ready fn a0.tmps p0 p1 assign body w.heap.size)), { target := .fn (.func 121) cus.toArray, args := #[Value.func (.yield (w.heap.size + 1)) #[] #[]] }, (w.alloc (.deferred (some []))).alloc (.loop (bwRec .ready fn a0.tmps p0 p1 assign body w.heap.size)), 121,
    #[Value.func (.yield (w.heap.size + 1)) #[] #[]] ++ cus.toArray, (w.alloc (.deferred (some []))).alloc (.loop (bwRec .ready fn a0.tmps p0 p1 assign body w.heap.size)), run_enterLoop_outer _ _ _ _ _, ?_, (fun _ _ => trivial), ?_, (fun h => by cases h), ?_⟩
  · have hgv' : a0.eval g = _ := hgv
    simp [resolve, hgv', Deferred.ofValue]
    rfl
  · have hb : Body Tryz.prog 121 := ⟨_, _, Tryz.func121, sd_body, by kernel_rfl⟩
    simp [invoke, run_callFunc hb]
  refine callsIn_of_wp Tryz.func121 sd_body trivial ?_
  refine wpIn_seq (wpIn_wide.2 (Goes.cut fits hmix (sd_head a b c (w.heap.size + 1) _) trivial B S0 w0 α3 _ _ s4 f3 _ fun α5 a5 w5 s5 f5 => ?_))
  have huj : ∀ j, unmarked (Hs j ++ hdH ps) = true := fun j => unmarked_app (hu j) (unmarked_hdH ps)
  have key : ∀ (m j : Nat) (α : Nat → Option Value) (a1 : Act) (w1 : World), j + m = 3 →
      Sim B S0 w0 α (sdT a b c (w.heap.size + 1) (sdZ j) j) (bwH (Hs j ++ hdH ps) ⟨some w.heap.size, .deferred (some []), false⟩ ⟨some (w.heap.size + 1), .loop (bwRec .ready fn a0.tmps p0 p1 assign body w.heap.size), false⟩ a0.tmps.toList T0) a1 w1 →
      Fresh α (bwH (Hs j ++ hdH ps) ⟨some w.heap.size, .deferred (some []), false⟩ ⟨some (w.heap.size + 1), .loop (bwRec .ready fn a0.tmps p0 p1 assign body w.heap.size), false⟩ a0.tmps.toList T0) →
      ∀ Q' : Exit → Act → World → Prop,
      (∀ (α' : Nat → Option Value) (a' : Act) (w' : World), Sim B S0 w0 α' (sdT a b c (w.heap.size + 1) (sdZ 3) ((3 : Nat) : Int)) (bwH (Hs 3 ++ hdH ps) ⟨some w.heap.size, .deferred (some []), false⟩ ⟨some (w.heap.size + 1), .loop (bwRec .ready fn a0.tmps p0 p1 assign body w.heap.size), false⟩ a0.tmps.toList T0) a' w' →
        Fresh α' (bwH (Hs 3 ++ hdH ps) ⟨some w.heap.size, .deferred (some []), false⟩ ⟨some (w.heap.size + 1), .loop (bwRec .ready fn a0.tmps p0 p1 assign body w.heap.size), false⟩ a0.tmps.toList T0) → Q' (.exit 0) a' w') →
      Code.roundsIn Fence.wide 0 Tryz.prog (Code.seq (sdR1 Tryz.f121) (.seq (sdC1 Tryz.f121) (.seq (.block 1 (.seq (sdR2 Tryz.f121) (.seq (.region 3 (sdOps Tryz.f121) true) (sdC3 Tryz.f121)))) (sdR4 Tryz.f121)))) Q' (m + 1) a1 w1 := by
    intro m
    induction m with
    | zero =>
      intro j α a1 w1 hj s f Q' hQ'
      have hj' : j = 3 := by omega
      subst hj'
      refine wpIn_seq (wpIn_wide.2 (Goes.cut fits hmix (sd_r1 a b c (w.heap.size + 1) _ _ _) trivial B S0 w0 α _ _ s f _ fun α5 a5 w5 s5 f5 => ?_))
      exact wpIn_seq (wpIn_wide.2 (Goes.cut fits hmix (sd_out a b c (w.heap.size + 1) _ _ _) ⟨by decide, trivial⟩ B S0 w0 α5 _ _ s5 f5 _ fun α6 a6 w6 s6 f6 => hQ' α6 a6 w6 s6 f6))
    | succ m ih =>
      intro j α a1 w1 hj s f Q' hQ'
      have hj3 : j < 3 := by omega
      refine sd_round (Hk := Hs (j + 1) ++ hdH ps) (by simp [hlen]) (sd_pre a b c (w.heap.size + 1) j hj3) (by omega) (by omega) (hr j hj3 (w.heap.size + 1) ps hpl) (huj j) s f _ fun α' a' w' s' f' => ?_
      exact ih (j + 1) α' a' w' (by omega) s' f' Q' hQ'
  have s5' : Sim B S0 w0 α5 (sdT a b c (w.heap.size + 1) (sdZ 0) ((0 : Nat) : Int)) (bwH (Hs 0 ++ hdH ps) ⟨some w.heap.size, .deferred (some []), false⟩ ⟨some (w.heap.size + 1), .loop (bwRec .ready fn a0.tmps p0 p1 assign body w.heap.size), false⟩ a0.tmps.toList T0) a5 w5 := by
    rw [h0]
    show Sim _ _ _ _ _ ((H0 ++ hdH ps) ++ _) _ _
    rw [List.append_assoc]
    exact s5
  refine wpIn_block (wpIn_loop_rounds 4 (key 3 0 α5 a5 w5 (by omega) s5' (by
    rw [h0]
    show Fresh _ ((H0 ++ hdH ps) ++ _)
    rw [List.append_assoc]
    exact f5) _ fun α6 a6 w6 s6 f6 => ?_))
  have hd6 : a6.defers = [] := defers_nil s6 (bw_unmarked (huj _) (x := ⟨some w.heap.size, .deferred (some []), false⟩) (y := ⟨some (w.heap.size + 1), .loop (bwRec .ready fn a0.tmps p0 p1 assign body w.heap.size), false⟩) rfl rfl)
  have hres : Tryz.f121.results = #[] := by kernel_rfl
  have hfin : bodyPost Tryz.prog Tryz.f121 (rangePost Fence.wide 0 Tryz.prog (w.heap.size + 1) Q { a0 with defers := [{ target := .collected w.heap.size, args := #[] }] ++ a0.defers }) .normal a6 w6 := by
    refine ⟨hd6, .tuple #[], by rw [results_eq, hres]; simp, ?_⟩
    obtain ⟨bl, l1, l2, l3, l4⟩ := s6.objs _ _ (bw_get2 (Hs 3 ++ hdH ps) _ _ _ _)
    obtain rfl := l4 _ rfl
    refine ⟨none, _, run_endLoop l3 (by simp), ?_⟩
    have s7 := s6.turn (o' := .loop { bwRec .ready fn a0.tmps p0 p1 assign body w.heap.size with state := .exhausted }) (bw_get2 (Hs 3 ++ hdH ps) _ _ _ _) l1 (.inl hd6)
    rw [bw_set2] at s7
    have s8 := s7.reframe (T' := T0) (a' := { a0 with defers := [] }) (s7.objs _ _ (bw_get3 (Hs 3 ++ hdH ps) _ _ _ _)).2 .nil
    have hlh : (Hs 3 ++ hdH ps).length = H0.length + n := by simp [hlen, hdH, hpl]
    have s10 := s8.ren (List.range (H0.length + n + 1)) List.nodup_range (auxIn_of fun h o ho hv => by
      have := unmarked_get (bw_unmarked (huj 3) (x := ⟨some w.heap.size, .deferred (some []), false⟩) (y := ⟨some (w.heap.size + 1), .loop { bwRec .ready fn a0.tmps p0 p1 assign body w.heap.size with state := .exhausted }, false⟩) rfl rfl) ho
      rw [hv] at this
      cases this)
    have hcon : renH (List.range (H0.length + n + 1)) (bwH (Hs 3 ++ hdH ps) ⟨some w.heap.size, .deferred (some []), false⟩ ⟨some (w.heap.size + 1), .loop { bwRec .ready fn a0.tmps p0 p1 assign body w.heap.size with state := .exhausted }, false⟩ a0.tmps.toList T0) =
        Hs 3 ++ hdH ps ++ [some (.aux ⟨some w.heap.size, .deferred (some []), false⟩)] := by
      rw [← hren ps ⟨some w.heap.size, .deferred (some []), false⟩ hpl]
      refine renH_congr fun k hk => ?_
      have hk' : k < H0.length + n + 1 := List.mem_range.1 hk
      by_cases e : k < (Hs 3 ++ hdH ps).length
      · rw [getH_left e, getH_left e]
      · have e' : k = (Hs 3 ++ hdH ps).length := by omega
        subst e'
        rw [getH_right _ _ (Nat.le_refl _), getH_right _ _ (Nat.le_refl _), Nat.sub_self]
        rfl
    have hfr := renα_fresh (List.range (H0.length + n + 1)) ‹_› (bwH (Hs 3 ++ hdH ps) ⟨some w.heap.size, .deferred (some []), false⟩ ⟨some (w.heap.size + 1), .loop { bwRec .ready fn a0.tmps p0 p1 assign body w.heap.size with state := .exhausted }, false⟩ a0.tmps.toList T0)
    rw [hcon] at s10 hfr
    rw [← hps] at s10
    have s11 := Sim.unhide hds (by rw [← h0]; exact hu 0) (hlen 3).symm s10
    have := hQ _ { a0 with defers := { target := .collected w.heap.size, args := #[] } :: a0.defers } _ s11 (fun k hk => hfr k (by simpa [mkH, hdH, hpl, Nat.add_assoc] using hk))
    simpa [Ex.toExit] using this
  simpa [Exit.inBlock] using hfin
end Go.Flow.Tryz
namespace Go.Flow.Tryz
open Go Go.Proofs Go.RowKit Go.Flow
set_option maxRecDepth 100000
theorem msides_ok (a b c : Int) : CallsTo Tryz.prog 90 [.agg [iv a, iv b, iv c]] (.fn 121 [.lp [iv a, iv b, iv c]]) :=
  fn_ok fits hmix Tryz.func90 (by kernel_rfl) [] (by kernel_rfl) AllP.nil
abbrev oKx (x y : AV) (es : List (Value × Value)) : Heap := [some (.box false 34 [x, y]), some (.box false 123 [.v (.map none)]), some (.box false 4 [bv false]), some (.map false es), some (.box false 123 [.mp 3])]
abbrev oK (ps ts : List AV) (es : List (Value × Value)) : Heap := oKx (.lst 2 ps) (.lst 3 ts) es
abbrev oB (a b c i : Int) : Heap := [some (.box false 3 [iv i]), some (.box false 42 [iv a, iv b, iv c])]
abbrev oTx (y : AV) (len i : Int) : List AV := st 36 [.any, .op 0 0, .op 1 0, .op 2 0, .op 4 0, .any, .any, .any, .any, .any, .any, .any, .any, y, iv len, iv i]
abbrev oT (ts : List AV) (len i : Int) : List AV := oTx (.lst 3 ts) len i
abbrev oT0x (y : AV) (a b c len i : Int) : List AV := st 36 [.any, .op 0 0, .op 1 0, .op 2 0, .op 4 0, .op 5 0, .op 6 0, .any, .any, .any, .any, .any, .any, y, iv len, iv i, .any, .any, .any, .any, .any, .fn 121 [.lp [iv a, iv b, iv c]]]
abbrev oT0 (ts : List AV) (a b c len i : Int) : List AV := oT0x (.lst 3 ts) a b c len i
abbrev oT1 (n : Nat) (ts : List AV) (a b c len i : Int) : List AV := st 36 [.any, .op 0 0, .op 1 0, .op 2 0, .op 4 0, .op (5 + n) 0, .op (6 + n) 0, .any, .any, .any, .any, .any, .any, .lst 3 ts, iv len, iv i, bv (decide (i < len)), iv i, .lp [iv a, iv b, iv c], .agg [iv a, iv b, iv c], .agg [iv a, iv b, iv c], .fn 121 [.lp [iv a, iv b, iv c]]]
abbrev oKey (x y : Int) : Value := .agg #[.int .i64 x, .int .i64 y]
theorem same_cast {T T' T1 : List AV} {H H' H1 : Heap} (h : Same T H T' H') (hT : T' = T1) (hH : H' = H1) : Same T H T1 H1 := hT ▸ hH ▸ h
theorem ren_lst {L : List Nat} {sz : Nat} {es : List AV} (h : es.all (hf 9) = true) : ren L 9 (.lst sz es) = .lst sz es := by
  show (if es.all (hf 9) then AV.lst sz es else .any) = _
  rw [if_pos h]
def owE (a b c i : Int) (es : List (Value × Value)) : Nat → List (Value × Value)
  | 0 => es
  | j + 1 => (oKey (sideOf a b c j).1 (sideOf a b c j).2, .int .i64 i) :: owE a b c i es j
theorem ow_code : loopAt Tryz.f83 1 = .rangeFunc (.tmp 21) #[22, 23] (rfA (loopAt Tryz.f83 1)) (rfB (loopAt Tryz.f83 1)) := by kernel_rfl
theorem ow_eq0 (ps ts : List AV) (es es' : List (Value × Value)) (a b c len i : Int) : (evC Tryz.prog tab (bodyOf (loopAt Tryz.f83 0)) (oT ts len i) (oK ps ts es ++ mkH 0) [.b true, .a (.agg [iv a, iv b, iv c]), .a (.fn 121 [.lp [iv a, iv b, iv c]]), .s 36 .normal (oT ts len i) (oK ps ts es' ++ mkH (0 + 1))] []).cut 16 =
    some (.normal, oT ts len (i + 1), oK ps ts es' ++ mkH (0 + 1), [decide (i < len) = true, 0 ≤ i ∧ ts[i.toNat]? = some (.agg [iv a, iv b, iv c]), CallsTo Tryz.prog 90 [.agg [iv a, iv b, iv c]] (.fn 121 [.lp [iv a, iv b, iv c]]),
      Goes Tryz.prog (loopAt Tryz.f83 1) (oT1 0 ts a b c len i) (oK ps ts es ++ mkH 0 ++ oB a b c i) .normal (oT ts len i) (oK ps ts es' ++ mkH (0 + 1)), IntKind.i64.wrap (i + 1) = i + 1]) := by kernel_rfl
theorem ow_as0 (ps ts : List AV) (es : List (Value × Value)) (a b c x y len i j : Int) (p p' : Option Nat) (o1 o2 : Obj) (vs : List Value) (G : List AV) : (evC Tryz.prog tab (rfA (loopAt Tryz.f83 1)) (((oT0 ts a b c len i).set 22 (iv j)).set 23 (.agg [iv x, iv y])) (bwH (oK ps ts es ++ oB a b c i ++ hdH []) ⟨p, o1, false⟩ ⟨p', o2, false⟩ vs G) [] []).cut 9 =
    some (.normal, ((oT0 ts a b c len i).take 8 ++ st 28 [.op 10 0]), bwH (oK ps ts es ++ oB a b c i ++ hdH []) ⟨p, o1, false⟩ ⟨p', o2, false⟩ vs G ++ [some (.box false 25 [iv x, iv y])], []) := by kernel_rfl
theorem ow_bo0 (ps ts : List AV) (es : List (Value × Value)) (a b c x y len i j : Int) (l : Nat) (p p' : Option Nat) (o1 o2 : Obj) (vs : List Value) : (evC Tryz.prog tab (rfB (loopAt Tryz.f83 1)) ((oT0 ts a b c len i).take 8 ++ st 28 [.op 10 0]) (bwH (oK ps ts es ++ oB a b c i ++ hdH []) ⟨p, o1, false⟩ ⟨p', o2, false⟩ vs (oT0 ts a b c len i ++ sd5 a b c l (iv j) j) ++ [some (.box false 25 [iv x, iv y])]) [.m none, .b false, .m none] []).tidy 8 (List.range 10) =
    some (.normal, st 36 ((oT0 ts a b c len i).take 8), bwH (oKx (ren (List.range 10) 9 (.lst 2 ps)) (ren (List.range 10) 9 (.lst 3 ts)) ((oKey x y, .int .i64 i) :: es) ++ oB a b c i ++ hdH []) ⟨p, o1, false⟩ ⟨p', o2, false⟩ vs (oT0x (ren (List.range 10) 9 (.lst 3 ts)) a b c len i ++ sd5 a b c l (iv j) j), [Found es (oKey x y) none, KeyFit Tryz.prog 25 es (oKey x y), false = false, Found es (oKey x y) none, KeyFit Tryz.prog 25 es (oKey x y)]) := by kernel_rfl
theorem ow_pre0 {ps ts : List AV} (hps : ps.all (hf 9) = true) (hts : ts.all (hf 9) = true) (es : List (Value × Value)) (a b c len i : Int) : Same (oT1 0 ts a b c len i) (oK ps ts es ++ mkH 0 ++ oB a b c i) (oT0 ts a b c len i) (oK ps ts es ++ oB a b c i ++ mkH 0) := by
  have h := (Same.mask (T := oT1 0 ts a b c len i) (H := oK ps ts es ++ mkH 0 ++ oB a b c i) (List.replicate 16 true ++ List.replicate 5 false ++ [true])).trans (Same.ren [0, 1, 2, 3, 4, 5, 6] (by kernel_rfl))
  refine same_cast h ?_ ?_
  · refine Eq.trans (b := oT0x (ren [0, 1, 2, 3, 4, 5, 6] 9 (.lst 3 ts)) a b c len i) (by kernel_rfl) ?_
    rw [ren_lst hts]
  · refine Eq.trans (b := oKx (ren [0, 1, 2, 3, 4, 5, 6] 9 (.lst 2 ps)) (ren [0, 1, 2, 3, 4, 5, 6] 9 (.lst 3 ts)) es ++ oB a b c i ++ mkH 0) (by kernel_rfl) ?_
    rw [ren_lst hps, ren_lst hts]
theorem ow_post0 {ps ts : List AV} (hps : ps.all (hf 9) = true) (hts : ts.all (hf 9) = true) (es : List (Value × Value)) (a b c len i : Int) : Same ((oT0 ts a b c len i).map (ren (List.range 8) 9)) (oK ps ts es ++ oB a b c i ++ mkH (0 + 1)) (oT ts len i) (oK ps ts es ++ mkH (0 + 1)) := by
  have h := (Same.mask (T := (oT0 ts a b c len i).map (ren (List.range 8) 9)) (H := oK ps ts es ++ oB a b c i ++ mkH (0 + 1)) (List.replicate 5 true ++ List.replicate 8 false ++ List.replicate 3 true)).trans (Same.ren [0, 1, 2, 3, 4, 7] (by kernel_rfl))
  refine same_cast h ?_ ?_
  · refine Eq.trans (b := oTx (ren [0, 1, 2, 3, 4, 7] 9 (ren (List.range 8) 9 (.lst 3 ts))) len i) (by kernel_rfl) ?_
    rw [ren_lst hts, ren_lst hts]
  · refine Eq.trans (b := oKx (ren [0, 1, 2, 3, 4, 7] 9 (.lst 2 ps)) (ren [0, 1, 2, 3, 4, 7] 9 (.lst 3 ts)) es ++ mkH (0 + 1)) (by kernel_rfl) ?_
    rw [ren_lst hps, ren_lst hts]
theorem ow_rf0 {ps ts : List AV} (hps : ps.all (hf 9) = true) (hts : ts.all (hf 9) = true) (es : List (Value × Value)) (a b c len i : Int)
    (hk : ∀ j < 3, Found (owE a b c i es j) (oKey (sideOf a b c j).1 (sideOf a b c j).2) none ∧ KeyFit Tryz.prog 25 (owE a b c i es j) (oKey (sideOf a b c j).1 (sideOf a b c j).2)) :
    Goes Tryz.prog (loopAt Tryz.f83 1) (oT1 0 ts a b c len i) (oK ps ts es ++ mkH 0 ++ oB a b c i) .normal (oT ts len i) (oK ps ts (owE a b c i es 3) ++ mkH (0 + 1)) := by
  rw [ow_code]
  refine (ow_pre0 hps hts es a b c len i).goes (Goes.same (goes_sides (a := a) (b := b) (c := c) (T0 := oT0 ts a b c len i) (H0 := oK ps ts es ++ oB a b c i) (n := 0) (Hs := fun j => oK ps ts (owE a b c i es j) ++ oB a b c i) (g := .tmp 21) (p0 := 22) (p1 := 23) rfl rfl (fun _ => rfl) (fun _ => by kernel_rfl) ?_ ?_) (ow_post0 hps hts (owE a b c i es 3) a b c len i))
  · intro qs x hq
    obtain ⟨rfl⟩ : qs = [] := by
      match qs, hq with
      | [], _ => exact rfl
    refine Eq.trans (b := oKx (ren (List.range 8) 9 (.lst 2 ps)) (ren (List.range 8) 9 (.lst 3 ts)) (owE a b c i es 3) ++ oB a b c i ++ hdH [] ++ [some (.aux x)]) (by kernel_rfl) ?_
    rw [ren_lst hps, ren_lst hts]
  · intro j hj l qs hq
    obtain ⟨rfl⟩ : qs = [] := by
      match qs, hq with
      | [], _ => exact rfl
    have hb := fun p p' o1 o2 vs => ow_bo0 ps ts (owE a b c i es j) a b c (sideOf a b c j).1 (sideOf a b c j).2 len i j l  p p' o1 o2 vs
    rw [ren_lst hps, ren_lst hts] at hb
    exact ⟨_, _, _, fun p p' o1 o2 vs => ⟨GoesIn.cut fits hmix (by kernel_rfl) (ow_as0 ps ts (owE a b c i es j) a b c (sideOf a b c j).1 (sideOf a b c j).2 len i j  p p' o1 o2 vs _) AllP.nil,
      GoesIn.of fits hmix (by kernel_rfl) _ 8 _ (hb p p' o1 o2 vs) ⟨(hk j hj).1, (hk j hj).2, rfl, (hk j hj).1, (hk j hj).2, trivial⟩⟩⟩
theorem ow_step0 {ps ts : List AV} (hps : ps.all (hf 9) = true) (hts : ts.all (hf 9) = true) (es : List (Value × Value)) (a b c len i : Int) (hi : i < len) (h0 : 0 ≤ i) (hl : len ≤ 1000) (ht : ts[i.toNat]? = some (.agg [iv a, iv b, iv c]))
    (hk : ∀ j < 3, Found (owE a b c i es j) (oKey (sideOf a b c j).1 (sideOf a b c j).2) none ∧ KeyFit Tryz.prog 25 (owE a b c i es j) (oKey (sideOf a b c j).1 (sideOf a b c j).2)) :
    Goes Tryz.prog (bodyOf (loopAt Tryz.f83 0)) (oT ts len i) (oK ps ts es ++ mkH 0) .normal (oT ts len (i + 1)) (oK ps ts (owE a b c i es 3) ++ mkH (0 + 1)) :=
  Goes.cut fits hmix (ow_eq0 ps ts es (owE a b c i es 3) a b c len i) ⟨decide_eq_true hi, ⟨h0, ht⟩, msides_ok a b c, ow_rf0 hps hts es a b c len i hk, by rw [w64]; omega, trivial⟩
theorem ow_eq1 (ps ts : List AV) (es es' : List (Value × Value)) (a b c len i : Int) : (evC Tryz.prog tab (bodyOf (loopAt Tryz.f83 0)) (oT ts len i) (oK ps ts es ++ mkH 1) [.b true, .a (.agg [iv a, iv b, iv c]), .a (.fn 121 [.lp [iv a, iv b, iv c]]), .s 36 .normal (oT ts len i) (oK ps ts es' ++ mkH (1 + 1))] []).cut 16 =
    some (.normal, oT ts len (i + 1), oK ps ts es' ++ mkH (1 + 1), [decide (i < len) = true, 0 ≤ i ∧ ts[i.toNat]? = some (.agg [iv a, iv b, iv c]), CallsTo Tryz.prog 90 [.agg [iv a, iv b, iv c]] (.fn 121 [.lp [iv a, iv b, iv c]]),
      Goes Tryz.prog (loopAt Tryz.f83 1) (oT1 1 ts a b c len i) (oK ps ts es ++ mkH 1 ++ oB a b c i) .normal (oT ts len i) (oK ps ts es' ++ mkH (1 + 1)), IntKind.i64.wrap (i + 1) = i + 1]) := by kernel_rfl
theorem ow_as1 (ps ts : List AV) (es : List (Value × Value)) (a b c x y len i j : Int) (q0 : Option Nat) (p p' : Option Nat) (o1 o2 : Obj) (vs : List Value) (G : List AV) : (evC Tryz.prog tab (rfA (loopAt Tryz.f83 1)) (((oT0 ts a b c len i).set 22 (iv j)).set 23 (.agg [iv x, iv y])) (bwH (oK ps ts es ++ oB a b c i ++ hdH [q0]) ⟨p, o1, false⟩ ⟨p', o2, false⟩ vs G) [] []).cut 9 =
    some (.normal, ((oT0 ts a b c len i).take 8 ++ st 28 [.op 11 0]), bwH (oK ps ts es ++ oB a b c i ++ hdH [q0]) ⟨p, o1, false⟩ ⟨p', o2, false⟩ vs G ++ [some (.box false 25 [iv x, iv y])], []) := by kernel_rfl
theorem ow_bo1 (ps ts : List AV) (es : List (Value × Value)) (a b c x y len i j : Int) (l : Nat) (q0 : Option Nat) (p p' : Option Nat) (o1 o2 : Obj) (vs : List Value) : (evC Tryz.prog tab (rfB (loopAt Tryz.f83 1)) ((oT0 ts a b c len i).take 8 ++ st 28 [.op 11 0]) (bwH (oK ps ts es ++ oB a b c i ++ hdH [q0]) ⟨p, o1, false⟩ ⟨p', o2, false⟩ vs (oT0 ts a b c len i ++ sd5 a b c l (iv j) j) ++ [some (.box false 25 [iv x, iv y])]) [.m none, .b false, .m none] []).tidy 8 (List.range 11) =
    some (.normal, st 36 ((oT0 ts a b c len i).take 8), bwH (oKx (ren (List.range 11) 9 (.lst 2 ps)) (ren (List.range 11) 9 (.lst 3 ts)) ((oKey x y, .int .i64 i) :: es) ++ oB a b c i ++ hdH [q0]) ⟨p, o1, false⟩ ⟨p', o2, false⟩ vs (oT0x (ren (List.range 11) 9 (.lst 3 ts)) a b c len i ++ sd5 a b c l (iv j) j), [Found es (oKey x y) none, KeyFit Tryz.prog 25 es (oKey x y), false = false, Found es (oKey x y) none, KeyFit Tryz.prog 25 es (oKey x y)]) := by kernel_rfl
theorem ow_pre1 {ps ts : List AV} (hps : ps.all (hf 9) = true) (hts : ts.all (hf 9) = true) (es : List (Value × Value)) (a b c len i : Int) : Same (oT1 1 ts a b c len i) (oK ps ts es ++ mkH 1 ++ oB a b c i) (oT0 ts a b c len i) (oK ps ts es ++ oB a b c i ++ mkH 1) := by
  have h := (Same.mask (T := oT1 1 ts a b c len i) (H := oK ps ts es ++ mkH 1 ++ oB a b c i) (List.replicate 16 true ++ List.replicate 5 false ++ [true])).trans (Same.ren [0, 1, 2, 3, 4, 6, 7, 5] (by kernel_rfl))
  refine same_cast h ?_ ?_
  · refine Eq.trans (b := oT0x (ren [0, 1, 2, 3, 4, 6, 7, 5] 9 (.lst 3 ts)) a b c len i) (by kernel_rfl) ?_
    rw [ren_lst hts]
  · refine Eq.trans (b := oKx (ren [0, 1, 2, 3, 4, 6, 7, 5] 9 (.lst 2 ps)) (ren [0, 1, 2, 3, 4, 6, 7, 5] 9 (.lst 3 ts)) es ++ oB a b c i ++ mkH 1) (by kernel_rfl) ?_
    rw [ren_lst hps, ren_lst hts]
theorem ow_post1 {ps ts : List AV} (hps : ps.all (hf 9) = true) (hts : ts.all (hf 9) = true) (es : List (Value × Value)) (a b c len i : Int) : Same ((oT0 ts a b c len i).map (ren (List.range 9) 9)) (oK ps ts es ++ oB a b c i ++ mkH (1 + 1)) (oT ts len i) (oK ps ts es ++ mkH (1 + 1)) := by
  have h := (Same.mask (T := (oT0 ts a b c len i).map (ren (List.range 9) 9)) (H := oK ps ts es ++ oB a b c i ++ mkH (1 + 1)) (List.replicate 5 true ++ List.replicate 8 false ++ List.replicate 3 true)).trans (Same.ren [0, 1, 2, 3, 4, 7, 8] (by kernel_rfl))
  refine same_cast h ?_ ?_
  · refine Eq.trans (b := oTx (ren [0, 1, 2, 3, 4, 7, 8] 9 (ren (List.range 9) 9 (.lst 3 ts))) len i) (by kernel_rfl) ?_
    rw [ren_lst hts, ren_lst hts]
  · refine Eq.trans (b := oKx (ren [0, 1, 2, 3, 4, 7, 8] 9 (.lst 2 ps)) (ren [0, 1, 2, 3, 4, 7, 8] 9 (.lst 3 ts)) es ++ mkH (1 + 1)) (by kernel_rfl) ?_
    rw [ren_lst hps, ren_lst hts]
theorem ow_rf1 {ps ts : List AV} (hps : ps.all (hf 9) = true) (hts : ts.all (hf 9) = true) (es : List (Value × Value)) (a b c len i : Int)
    (hk : ∀ j < 3, Found (owE a b c i es j) (oKey (sideOf a b c j).1 (sideOf a b c j).2) none ∧ KeyFit Tryz.prog 25 (owE a b c i es j) (oKey (sideOf a b c j).1 (sideOf a b c j).2)) :
    Goes Tryz.prog (loopAt Tryz.f83 1) (oT1 1 ts a b c len i) (oK ps ts es ++ mkH 1 ++ oB a b c i) .normal (oT ts len i) (oK ps ts (owE a b c i es 3) ++ mkH (1 + 1)) := by
  rw [ow_code]
  refine (ow_pre1 hps hts es a b c len i).goes (Goes.same (goes_sides (a := a) (b := b) (c := c) (T0 := oT0 ts a b c len i) (H0 := oK ps ts es ++ oB a b c i) (n := 1) (Hs := fun j => oK ps ts (owE a b c i es j) ++ oB a b c i) (g := .tmp 21) (p0 := 22) (p1 := 23) rfl rfl (fun _ => rfl) (fun _ => by kernel_rfl) ?_ ?_) (ow_post1 hps hts (owE a b c i es 3) a b c len i))
  · intro qs x hq
    obtain ⟨q0, rfl⟩ : ∃ q0, qs = [q0] := by
      match qs, hq with
      | [q0], _ => exact ⟨q0, rfl⟩
    refine Eq.trans (b := oKx (ren (List.range 9) 9 (.lst 2 ps)) (ren (List.range 9) 9 (.lst 3 ts)) (owE a b c i es 3) ++ oB a b c i ++ hdH [q0] ++ [some (.aux x)]) (by kernel_rfl) ?_
    rw [ren_lst hps, ren_lst hts]
  · intro j hj l qs hq
    obtain ⟨q0, rfl⟩ : ∃ q0, qs = [q0] := by
      match qs, hq with
      | [q0], _ => exact ⟨q0, rfl⟩
    have hb := fun p p' o1 o2 vs => ow_bo1 ps ts (owE a b c i es j) a b c (sideOf a b c j).1 (sideOf a b c j).2 len i j l q0 p p' o1 o2 vs
    rw [ren_lst hps, ren_lst hts] at hb
    exact ⟨_, _, _, fun p p' o1 o2 vs => ⟨GoesIn.cut fits hmix (by kernel_rfl) (ow_as1 ps ts (owE a b c i es j) a b c (sideOf a b c j).1 (sideOf a b c j).2 len i j q0 p p' o1 o2 vs _) AllP.nil,
      GoesIn.of fits hmix (by kernel_rfl) _ 8 _ (hb p p' o1 o2 vs) ⟨(hk j hj).1, (hk j hj).2, rfl, (hk j hj).1, (hk j hj).2, trivial⟩⟩⟩
theorem ow_step1 {ps ts : List AV} (hps : ps.all (hf 9) = true) (hts : ts.all (hf 9) = true) (es : List (Value × Value)) (a b c len i : Int) (hi : i < len) (h0 : 0 ≤ i) (hl : len ≤ 1000) (ht : ts[i.toNat]? = some (.agg [iv a, iv b, iv c]))
    (hk : ∀ j < 3, Found (owE a b c i es j) (oKey (sideOf a b c j).1 (sideOf a b c j).2) none ∧ KeyFit Tryz.prog 25 (owE a b c i es j) (oKey (sideOf a b c j).1 (sideOf a b c j).2)) :
    Goes Tryz.prog (bodyOf (loopAt Tryz.f83 0)) (oT ts len i) (oK ps ts es ++ mkH 1) .normal (oT ts len (i + 1)) (oK ps ts (owE a b c i es 3) ++ mkH (1 + 1)) :=
  Goes.cut fits hmix (ow_eq1 ps ts es (owE a b c i es 3) a b c len i) ⟨decide_eq_true hi, ⟨h0, ht⟩, msides_ok a b c, ow_rf1 hps hts es a b c len i hk, by rw [w64]; omega, trivial⟩
theorem ow_eq2 (ps ts : List AV) (es es' : List (Value × Value)) (a b c len i : Int) : (evC Tryz.prog tab (bodyOf (loopAt Tryz.f83 0)) (oT ts len i) (oK ps ts es ++ mkH 2) [.b true, .a (.agg [iv a, iv b, iv c]), .a (.fn 121 [.lp [iv a, iv b, iv c]]), .s 36 .normal (oT ts len i) (oK ps ts es' ++ mkH (2 + 1))] []).cut 16 =
    some (.normal, oT ts len (i + 1), oK ps ts es' ++ mkH (2 + 1), [decide (i < len) = true, 0 ≤ i ∧ ts[i.toNat]? = some (.agg [iv a, iv b, iv c]), CallsTo Tryz.prog 90 [.agg [iv a, iv b, iv c]] (.fn 121 [.lp [iv a, iv b, iv c]]),
      Goes Tryz.prog (loopAt Tryz.f83 1) (oT1 2 ts a b c len i) (oK ps ts es ++ mkH 2 ++ oB a b c i) .normal (oT ts len i) (oK ps ts es' ++ mkH (2 + 1)), IntKind.i64.wrap (i + 1) = i + 1]) := by kernel_rfl
theorem ow_as2 (ps ts : List AV) (es : List (Value × Value)) (a b c x y len i j : Int) (q0 q1 : Option Nat) (p p' : Option Nat) (o1 o2 : Obj) (vs : List Value) (G : List AV) : (evC Tryz.prog tab (rfA (loopAt Tryz.f83 1)) (((oT0 ts a b c len i).set 22 (iv j)).set 23 (.agg [iv x, iv y])) (bwH (oK ps ts es ++ oB a b c i ++ hdH [q0, q1]) ⟨p, o1, false⟩ ⟨p', o2, false⟩ vs G) [] []).cut 9 =
    some (.normal, ((oT0 ts a b c len i).take 8 ++ st 28 [.op 12 0]), bwH (oK ps ts es ++ oB a b c i ++ hdH [q0, q1]) ⟨p, o1, false⟩ ⟨p', o2, false⟩ vs G ++ [some (.box false 25 [iv x, iv y])], []) := by kernel_rfl
theorem ow_bo2 (ps ts : List AV) (es : List (Value × Value)) (a b c x y len i j : Int) (l : Nat) (q0 q1 : Option Nat) (p p' : Option Nat) (o1 o2 : Obj) (vs : List Value) : (evC Tryz.prog tab (rfB (loopAt Tryz.f83 1)) ((oT0 ts a b c len i).take 8 ++ st 28 [.op 12 0]) (bwH (oK ps ts es ++ oB a b c i ++ hdH [q0, q1]) ⟨p, o1, false⟩ ⟨p', o2, false⟩ vs (oT0 ts a b c len i ++ sd5 a b c l (iv j) j) ++ [some (.box false 25 [iv x, iv y])]) [.m none, .b false, .m none] []).tidy 8 (List.range 12) =
    some (.normal, st 36 ((oT0 ts a b c len i).take 8), bwH (oKx (ren (List.range 12) 9 (.lst 2 ps)) (ren (List.range 12) 9 (.lst 3 ts)) ((oKey x y, .int .i64 i) :: es) ++ oB a b c i ++ hdH [q0, q1]) ⟨p, o1, false⟩ ⟨p', o2, false⟩ vs (oT0x (ren (List.range 12) 9 (.lst 3 ts)) a b c len i ++ sd5 a b c l (iv j) j), [Found es (oKey x y) none, KeyFit Tryz.prog 25 es (oKey x y), false = false, Found es (oKey x y) none, KeyFit Tryz.prog 25 es (oKey x y)]) := by kernel_rfl
theorem ow_pre2 {ps ts : List AV} (hps : ps.all (hf 9) = true) (hts : ts.all (hf 9) = true) (es : List (Value × Value)) (a b c len i : Int) : Same (oT1 2 ts a b c len i) (oK ps ts es ++ mkH 2 ++ oB a b c i) (oT0 ts a b c len i) (oK ps ts es ++ oB a b c i ++ mkH 2) := by
  have h := (Same.mask (T := oT1 2 ts a b c len i) (H := oK ps ts es ++ mkH 2 ++ oB a b c i) (List.replicate 16 true ++ List.replicate 5 false ++ [true])).trans (Same.ren [0, 1, 2, 3, 4, 7, 8, 5, 6] (by kernel_rfl))
  refine same_cast h ?_ ?_
  · refine Eq.trans (b := oT0x (ren [0, 1, 2, 3, 4, 7, 8, 5, 6] 9 (.lst 3 ts)) a b c len i) (by kernel_rfl) ?_
    rw [ren_lst hts]
  · refine Eq.trans (b := oKx (ren [0, 1, 2, 3, 4, 7, 8, 5, 6] 9 (.lst 2 ps)) (ren [0, 1, 2, 3, 4, 7, 8, 5, 6] 9 (.lst 3 ts)) es ++ oB a b c i ++ mkH 2) (by kernel_rfl) ?_
    rw [ren_lst hps, ren_lst hts]
theorem ow_post2 {ps ts : List AV} (hps : ps.all (hf 9) = true) (hts : ts.all (hf 9) = true) (es : List (Value × Value)) (a b c len i : Int) : Same ((oT0 ts a b c len i).map (ren (List.range 10) 9)) (oK ps ts es ++ oB a b c i ++ mkH (2 + 1)) (oT ts len i) (oK ps ts es ++ mkH (2 + 1)) := by
  have h := (Same.mask (T := (oT0 ts a b c len i).map (ren (List.range 10) 9)) (H := oK ps ts es ++ oB a b c i ++ mkH (2 + 1)) (List.replicate 5 true ++ List.replicate 8 false ++ List.replicate 3 true)).trans (Same.ren [0, 1, 2, 3, 4, 7, 8, 9] (by kernel_rfl))
  refine same_cast h ?_ ?_
  · refine Eq.trans (b := oTx (ren [0, 1, 2, 3, 4, 7, 8, 9] 9 (ren (List.range 10) 9 (.lst 3 ts))) len i) (by kernel_rfl) ?_
    rw [ren_lst hts, ren_lst hts]
  · refine Eq.trans (b := oKx (ren [0, 1, 2, 3, 4, 7, 8, 9] 9 (.lst 2 ps)) (ren [0, 1, 2, 3, 4, 7, 8, 9] 9 (.lst 3 ts)) es ++ mkH (2 + 1)) (by kernel_rfl) ?_
    rw [ren_lst hps, ren_lst hts]
theorem ow_rf2 {ps ts : List AV} (hps : ps.all (hf 9) = true) (hts : ts.all (hf 9) = true) (es : List (Value × Value)) (a b c len i : Int)
    (hk : ∀ j < 3, Found (owE a b c i es j) (oKey (sideOf a b c j).1 (sideOf a b c j).2) none ∧ KeyFit Tryz.prog 25 (owE a b c i es j) (oKey (sideOf a b c j).1 (sideOf a b c j).2)) :
    Goes Tryz.prog (loopAt Tryz.f83 1) (oT1 2 ts a b c len i) (oK ps ts es ++ mkH 2 ++ oB a b c i) .normal (oT ts len i) (oK ps ts (owE a b c i es 3) ++ mkH (2 + 1)) := by
  rw [ow_code]
  refine (ow_pre2 hps hts es a b c len i).goes (Goes.same (goes_sides (a := a) (b := b) (c := c) (T0 := oT0 ts a b c len i) (H0 := oK ps ts es ++ oB a b c i) (n := 2) (Hs := fun j => oK ps ts (owE a b c i es j) ++ oB a b c i) (g := .tmp 21) (p0 := 22) (p1 := 23) rfl rfl (fun _ => rfl) (fun _ => by kernel_rfl) ?_ ?_) (ow_post2 hps hts (owE a b c i es 3) a b c len i))
  · intro qs x hq
    obtain ⟨q0, q1, rfl⟩ : ∃ q0 q1, qs = [q0, q1] := by
      match qs, hq with
      | [q0, q1], _ => exact ⟨q0, q1, rfl⟩
    refine Eq.trans (b := oKx (ren (List.range 10) 9 (.lst 2 ps)) (ren (List.range 10) 9 (.lst 3 ts)) (owE a b c i es 3) ++ oB a b c i ++ hdH [q0, q1] ++ [some (.aux x)]) (by kernel_rfl) ?_
    rw [ren_lst hps, ren_lst hts]
  · intro j hj l qs hq
    obtain ⟨q0, q1, rfl⟩ : ∃ q0 q1, qs = [q0, q1] := by
      match qs, hq with
      | [q0, q1], _ => exact ⟨q0, q1, rfl⟩
    have hb := fun p p' o1 o2 vs => ow_bo2 ps ts (owE a b c i es j) a b c (sideOf a b c j).1 (sideOf a b c j).2 len i j l q0 q1 p p' o1 o2 vs
    rw [ren_lst hps, ren_lst hts] at hb
    exact ⟨_, _, _, fun p p' o1 o2 vs => ⟨GoesIn.cut fits hmix (by kernel_rfl) (ow_as2 ps ts (owE a b c i es j) a b c (sideOf a b c j).1 (sideOf a b c j).2 len i j q0 q1 p p' o1 o2 vs _) AllP.nil,
      GoesIn.of fits hmix (by kernel_rfl) _ 8 _ (hb p p' o1 o2 vs) ⟨(hk j hj).1, (hk j hj).2, rfl, (hk j hj).1, (hk j hj).2, trivial⟩⟩⟩
theorem ow_step2 {ps ts : List AV} (hps : ps.all (hf 9) = true) (hts : ts.all (hf 9) = true) (es : List (Value × Value)) (a b c len i : Int) (hi : i < len) (h0 : 0 ≤ i) (hl : len ≤ 1000) (ht : ts[i.toNat]? = some (.agg [iv a, iv b, iv c]))
    (hk : ∀ j < 3, Found (owE a b c i es j) (oKey (sideOf a b c j).1 (sideOf a b c j).2) none ∧ KeyFit Tryz.prog 25 (owE a b c i es j) (oKey (sideOf a b c j).1 (sideOf a b c j).2)) :
    Goes Tryz.prog (bodyOf (loopAt Tryz.f83 0)) (oT ts len i) (oK ps ts es ++ mkH 2) .normal (oT ts len (i + 1)) (oK ps ts (owE a b c i es 3) ++ mkH (2 + 1)) :=
  Goes.cut fits hmix (ow_eq2 ps ts es (owE a b c i es 3) a b c len i) ⟨decide_eq_true hi, ⟨h0, ht⟩, msides_ok a b c, ow_rf2 hps hts es a b c len i hk, by rw [w64]; omega, trivial⟩
theorem ow_eq3 (ps ts : List AV) (es es' : List (Value × Value)) (a b c len i : Int) : (evC Tryz.prog tab (bodyOf (loopAt Tryz.f83 0)) (oT ts len i) (oK ps ts es ++ mkH 3) [.b true, .a (.agg [iv a, iv b, iv c]), .a (.fn 121 [.lp [iv a, iv b, iv c]]), .s 36 .normal (oT ts len i) (oK ps ts es' ++ mkH (3 + 1))] []).cut 16 =
    some (.normal, oT ts len (i + 1), oK ps ts es' ++ mkH (3 + 1), [decide (i < len) = true, 0 ≤ i ∧ ts[i.toNat]? = some (.agg [iv a, iv b, iv c]), CallsTo Tryz.prog 90 [.agg [iv a, iv b, iv c]] (.fn 121 [.lp [iv a, iv b, iv c]]),
      Goes Tryz.prog (loopAt Tryz.f83 1) (oT1 3 ts a b c len i) (oK ps ts es ++ mkH 3 ++ oB a b c i) .normal (oT ts len i) (oK ps ts es' ++ mkH (3 + 1)), IntKind.i64.wrap (i + 1) = i + 1]) := by kernel_rfl
theorem ow_as3 (ps ts : List AV) (es : List (Value × Value)) (a b c x y len i j : Int) (q0 q1 q2 : Option Nat) (p p' : Option Nat) (o1 o2 : Obj) (vs : List Value) (G : List AV) : (evC Tryz.prog tab (rfA (loopAt Tryz.f83 1)) (((oT0 ts a b c len i).set 22 (iv j)).set 23 (.agg [iv x, iv y])) (bwH (oK ps ts es ++ oB a b c i ++ hdH [q0, q1, q2]) ⟨p, o1, false⟩ ⟨p', o2, false⟩ vs G) [] []).cut 9 =
    some (.normal, ((oT0 ts a b c len i).take 8 ++ st 28 [.op 13 0]), bwH (oK ps ts es ++ oB a b c i ++ hdH [q0, q1, q2]) ⟨p, o1, false⟩ ⟨p', o2, false⟩ vs G ++ [some (.box false 25 [iv x, iv y])], []) := by kernel_rfl
theorem ow_bo3 (ps ts : List AV) (es : List (Value × Value)) (a b c x y len i j : Int) (l : Nat) (q0 q1 q2 : Option Nat) (p p' : Option Nat) (o1 o2 : Obj) (vs : List Value) : (evC Tryz.prog tab (rfB (loopAt Tryz.f83 1)) ((oT0 ts a b c len i).take 8 ++ st 28 [.op 13 0]) (bwH (oK ps ts es ++ oB a b c i ++ hdH [q0, q1, q2]) ⟨p, o1, false⟩ ⟨p', o2, false⟩ vs (oT0 ts a b c len i ++ sd5 a b c l (iv j) j) ++ [some (.box false 25 [iv x, iv y])]) [.m none, .b false, .m none] []).tidy 8 (List.range 13) =
    some (.normal, st 36 ((oT0 ts a b c len i).take 8), bwH (oKx (ren (List.range 13) 9 (.lst 2 ps)) (ren (List.range 13) 9 (.lst 3 ts)) ((oKey x y, .int .i64 i) :: es) ++ oB a b c i ++ hdH [q0, q1, q2]) ⟨p, o1, false⟩ ⟨p', o2, false⟩ vs (oT0x (ren (List.range 13) 9 (.lst 3 ts)) a b c len i ++ sd5 a b c l (iv j) j), [Found es (oKey x y) none, KeyFit Tryz.prog 25 es (oKey x y), false = false, Found es (oKey x y) none, KeyFit Tryz.prog 25 es (oKey x y)]) := by kernel_rfl
theorem ow_pre3 {ps ts : List AV} (hps : ps.all (hf 9) = true) (hts : ts.all (hf 9) = true) (es : List (Value × Value)) (a b c len i : Int) : Same (oT1 3 ts a b c len i) (oK ps ts es ++ mkH 3 ++ oB a b c i) (oT0 ts a b c len i) (oK ps ts es ++ oB a b c i ++ mkH 3) := by
  have h := (Same.mask (T := oT1 3 ts a b c len i) (H := oK ps ts es ++ mkH 3 ++ oB a b c i) (List.replicate 16 true ++ List.replicate 5 false ++ [true])).trans (Same.ren [0, 1, 2, 3, 4, 8, 9, 5, 6, 7] (by kernel_rfl))
  refine same_cast h ?_ ?_
  · refine Eq.trans (b := oT0x (ren [0, 1, 2, 3, 4, 8, 9, 5, 6, 7] 9 (.lst 3 ts)) a b c len i) (by kernel_rfl) ?_
    rw [ren_lst hts]
  · refine Eq.trans (b := oKx (ren [0, 1, 2, 3, 4, 8, 9, 5, 6, 7] 9 (.lst 2 ps)) (ren [0, 1, 2, 3, 4, 8, 9, 5, 6, 7] 9 (.lst 3 ts)) es ++ oB a b c i ++ mkH 3) (by kernel_rfl) ?_
    rw [ren_lst hps, ren_lst hts]
theorem ow_post3 {ps ts : List AV} (hps : ps.all (hf 9) = true) (hts : ts.all (hf 9) = true) (es : List (Value × Value)) (a b c len i : Int) : Same ((oT0 ts a b c len i).map (ren (List.range 11) 9)) (oK ps ts es ++ oB a b c i ++ mkH (3 + 1)) (oT ts len i) (oK ps ts es ++ mkH (3 + 1)) := by
  have h := (Same.mask (T := (oT0 ts a b c len i).map (ren (List.range 11) 9)) (H := oK ps ts es ++ oB a b c i ++ mkH (3 + 1)) (List.replicate 5 true ++ List.replicate 8 false ++ List.replicate 3 true)).trans (Same.ren [0, 1, 2, 3, 4, 7, 8, 9, 10] (by kernel_rfl))
  refine same_cast h ?_ ?_
  · refine Eq.trans (b := oTx (ren [0, 1, 2, 3, 4, 7, 8, 9, 10] 9 (ren (List.range 11) 9 (.lst 3 ts))) len i) (by kernel_rfl) ?_
    rw [ren_lst hts, ren_lst hts]
  · refine Eq.trans (b := oKx (ren [0, 1, 2, 3, 4, 7, 8, 9, 10] 9 (.lst 2 ps)) (ren [0, 1, 2, 3, 4, 7, 8, 9, 10] 9 (.lst 3 ts)) es ++ mkH (3 + 1)) (by kernel_rfl) ?_
    rw [ren_lst hps, ren_lst hts]
theorem ow_rf3 {ps ts : List AV} (hps : ps.all (hf 9) = true) (hts : ts.all (hf 9) = true) (es : List (Value × Value)) (a b c len i : Int)
    (hk : ∀ j < 3, Found (owE a b c i es j) (oKey (sideOf a b c j).1 (sideOf a b c j).2) none ∧ KeyFit Tryz.prog 25 (owE a b c i es j) (oKey (sideOf a b c j).1 (sideOf a b c j).2)) :
    Goes Tryz.prog (loopAt Tryz.f83 1) (oT1 3 ts a b c len i) (oK ps ts es ++ mkH 3 ++ oB a b c i) .normal (oT ts len i) (oK ps ts (owE a b c i es 3) ++ mkH (3 + 1)) := by
  rw [ow_code]
  refine (ow_pre3 hps hts es a b c len i).goes (Goes.same (goes_sides (a := a) (b := b) (c := c) (T0 := oT0 ts a b c len i) (H0 := oK ps ts es ++ oB a b c i) (n := 3) (Hs := fun j => oK ps ts (owE a b c i es j) ++ oB a b c i) (g := .tmp 21) (p0 := 22) (p1 := 23) rfl rfl (fun _ => rfl) (fun _ => by kernel_rfl) ?_ ?_) (ow_post3 hps hts (owE a b c i es 3) a b c len i))
  · intro qs x hq
    obtain ⟨q0, q1, q2, rfl⟩ : ∃ q0 q1 q2, qs = [q0, q1, q2] := by
      match qs, hq with
      | [q0, q1, q2], _ => exact ⟨q0, q1, q2, rfl⟩
    refine Eq.trans (b := oKx (ren (List.range 11) 9 (.lst 2 ps)) (ren (List.range 11) 9 (.lst 3 ts)) (owE a b c i es 3) ++ oB a b c i ++ hdH [q0, q1, q2] ++ [some (.aux x)]) (by kernel_rfl) ?_
    rw [ren_lst hps, ren_lst hts]
  · intro j hj l qs hq
    obtain ⟨q0, q1, q2, rfl⟩ : ∃ q0 q1 q2, qs = [q0, q1, q2] := by
      match qs, hq with
      | [q0, q1, q2], _ => exact ⟨q0, q1, q2, rfl⟩
    have hb := fun p p' o1 o2 vs => ow_bo3 ps ts (owE a b c i es j) a b c (sideOf a b c j).1 (sideOf a b c j).2 len i j l q0 q1 q2 p p' o1 o2 vs
    rw [ren_lst hps, ren_lst hts] at hb
    exact ⟨_, _, _, fun p p' o1 o2 vs => ⟨GoesIn.cut fits hmix (by kernel_rfl) (ow_as3 ps ts (owE a b c i es j) a b c (sideOf a b c j).1 (sideOf a b c j).2 len i j q0 q1 q2 p p' o1 o2 vs _) AllP.nil,
      GoesIn.of fits hmix (by kernel_rfl) _ 8 _ (hb p p' o1 o2 vs) ⟨(hk j hj).1, (hk j hj).2, rfl, (hk j hj).1, (hk j hj).2, trivial⟩⟩⟩
theorem ow_step3 {ps ts : List AV} (hps : ps.all (hf 9) = true) (hts : ts.all (hf 9) = true) (es : List (Value × Value)) (a b c len i : Int) (hi : i < len) (h0 : 0 ≤ i) (hl : len ≤ 1000) (ht : ts[i.toNat]? = some (.agg [iv a, iv b, iv c]))
    (hk : ∀ j < 3, Found (owE a b c i es j) (oKey (sideOf a b c j).1 (sideOf a b c j).2) none ∧ KeyFit Tryz.prog 25 (owE a b c i es j) (oKey (sideOf a b c j).1 (sideOf a b c j).2)) :
    Goes Tryz.prog (bodyOf (loopAt Tryz.f83 0)) (oT ts len i) (oK ps ts es ++ mkH 3) .normal (oT ts len (i + 1)) (oK ps ts (owE a b c i es 3) ++ mkH (3 + 1)) :=
  Goes.cut fits hmix (ow_eq3 ps ts es (owE a b c i es 3) a b c len i) ⟨decide_eq_true hi, ⟨h0, ht⟩, msides_ok a b c, ow_rf3 hps hts es a b c len i hk, by rw [w64]; omega, trivial⟩
end Go.Flow.Tryz
namespace Go.Flow.Tryz
open Go Go.Proofs Go.RowKit Go.Flow
set_option maxRecDepth 100000
theorem u25 : Tryz.prog.underlying 25 = some (.array 2 3) := by kernel_rfl
theorem u3 : Tryz.prog.underlying 3 = some (.int .i64) := by kernel_rfl
theorem c25 : Tryz.prog.cellsOf 25 = 2 := by kernel_rfl
theorem c3 : Tryz.prog.cellsOf 3 = 1 := by kernel_rfl
theorem kt25 : Tryz.prog.keyType 25 = true := by kernel_rfl
theorem laidOut : laidOutB Tryz.prog = true := by kernel_rfl
theorem keyed25 : Maps.Keyed Tryz.prog 25 := .of_law (deep_law_laid laidOut (m := 3) (by decide) (Nat.le_of_ble_eq_true (by kernel_rfl)) (by kernel_rfl) (by kernel_rfl))
theorem keyed3 : Maps.Keyed Tryz.prog 3 := Maps.int_keyed u3
theorem wf64 {x : Int} (h0 : 0 ≤ x) (h1 : x < 4611686018427387904) : (Lit.int .i64 x).wf = true := by
  simp [Lit.wf, IntKind.min, IntKind.max, IntKind.signed, IntKind.bits]
  omega
theorem key25 {x y : Int} (hx : 0 ≤ x ∧ x < 4611686018427387904) (hy : 0 ≤ y ∧ y < 4611686018427387904) : ∃ l, keyOf Tryz.prog 25 (oKey x y) = some l := by
  have wx := wf64 hx.1 hx.2
  have wy := wf64 hy.1 hy.2
  have l3 : ∀ d (z : Int), (Lit.int .i64 z).wf = true → Tryz.prog.keyLits (d + 1) 3 [.int .i64 z] = some [.int .i64 z] := fun d z hz => by
    simp [Program.keyLits, u3, hz]
  have l25 : ∀ d, Tryz.prog.keyLits (d + 2) 25 [.int .i64 x, .int .i64 y] = some [.int .i64 x, .int .i64 y] := fun d => by
    unfold Program.keyLits
    simp only [u25, c25, c3]
    simp [l3 d x wx, l3 d y wy, List.range_succ]
  have hs : 0 < Tryz.prog.types.size := Nat.le_of_ble_eq_true (by kernel_rfl)
  have hd : Tryz.prog.types.size + 1 = (Tryz.prog.types.size - 1) + 2 := by omega
  refine ⟨.string (keyBytes [.int .i64 x, .int .i64 y]), ?_⟩
  unfold keyOf
  simp only [u25]
  rw [if_pos (by simp [kt25, Value.formed, u25, c25]), hd]
  show Option.map _ (Tryz.prog.keyLits ((Tryz.prog.types.size - 1) + 2) 25 [.int .i64 x, .int .i64 y]) = _
  rw [l25]
  rfl
theorem key3 {x : Int} (hx : 0 ≤ x ∧ x < 4611686018427387904) : ∃ l, keyOf Tryz.prog 3 (.int .i64 x) = some l := by
  unfold keyOf
  simp only [u3]
  simp [mapKey, u3, wf64 hx.1 hx.2]
end Go.Flow.Tryz
namespace Go.Flow.Tryz
open Go Go.Proofs Go.RowKit Go.Flow
set_option maxRecDepth 100000
abbrev Tri := Int × Int × Int
def triAV (t : Tri) : AV := .agg [iv t.1, iv t.2.1, iv t.2.2]
def encM (m : List ((Int × Int) × Int)) : List (Value × Value) := m.map fun e => (oKey e.1.1 e.1.2, .int .i64 e.2)
def owT (t : Tri) (i : Int) (m : List ((Int × Int) × Int)) : List ((Int × Int) × Int) := ((t.2.2, t.1), i) :: ((t.2.1, t.2.2), i) :: ((t.1, t.2.1), i) :: m
def ownP : Int → List Tri → List ((Int × Int) × Int) → List ((Int × Int) × Int)
  | _, [], m => m
  | i, t :: ts, m => ownP (i + 1) ts (owT t i m)
def inR (x : Int) : Prop := 0 ≤ x ∧ x < 4611686018427387904
def triIn (t : Tri) : Prop := inR t.1 ∧ inR t.2.1 ∧ inR t.2.2
def sidesL (t : Tri) : List (Int × Int) := [(t.2.2, t.1), (t.2.1, t.2.2), (t.1, t.2.1)]
theorem owE_enc (t : Tri) (i : Int) (m : List ((Int × Int) × Int)) : owE t.1 t.2.1 t.2.2 i (encM m) 3 = encM (owT t i m) := rfl
theorem found_enc {m : List ((Int × Int) × Int)} {x y : Int} (h : (x, y) ∉ m.map (·.1)) : Found (encM m) (oKey x y) none := by
  intro p hp e
  obtain ⟨q, hq, rfl⟩ := List.mem_map.1 hp
  refine h (List.mem_map.2 ⟨q, hq, ?_⟩)
  have e : (Value.agg #[.int .i64 q.1.1, .int .i64 q.1.2]) = .agg #[.int .i64 x, .int .i64 y] := e
  simp at e
  exact Prod.ext e.1 e.2
theorem fit_enc {m : List ((Int × Int) × Int)} {x y : Int} (hx : inR x) (hy : inR y) (hm : ∀ e ∈ m, inR e.1.1 ∧ inR e.1.2) : KeyFit Tryz.prog 25 (encM m) (oKey x y) :=
  ⟨keyed25, key25 hx hy, fun p hp => by
    obtain ⟨q, hq, rfl⟩ := List.mem_map.1 hp
    exact key25 (hm q hq).1 (hm q hq).2⟩
theorem hf_tris (ts : List Tri) : (ts.map triAV).all (hf 9) = true := by
  rw [List.all_eq_true]
  intro x hx
  obtain ⟨t, _, rfl⟩ := List.mem_map.1 hx
  rfl
theorem ow_step {n : Nat} (hn : n < 4) {ps ts : List AV} (hps : ps.all (hf 9) = true) (hts : ts.all (hf 9) = true) (es : List (Value × Value)) (a b c len i : Int) (hi : i < len) (h0 : 0 ≤ i) (hl : len ≤ 1000) (ht : ts[i.toNat]? = some (.agg [iv a, iv b, iv c]))
    (hk : ∀ j < 3, Found (owE a b c i es j) (oKey (sideOf a b c j).1 (sideOf a b c j).2) none ∧ KeyFit Tryz.prog 25 (owE a b c i es j) (oKey (sideOf a b c j).1 (sideOf a b c j).2)) :
    Goes Tryz.prog (bodyOf (loopAt Tryz.f83 0)) (oT ts len i) (oK ps ts es ++ mkH n) .normal (oT ts len (i + 1)) (oK ps ts (owE a b c i es 3) ++ mkH (n + 1)) := by
  match n, hn with
  | 0, _ => exact ow_step0 hps hts es a b c len i hi h0 hl ht hk
  | 1, _ => exact ow_step1 hps hts es a b c len i hi h0 hl ht hk
  | 2, _ => exact ow_step2 hps hts es a b c len i hi h0 hl ht hk
  | 3, _ => exact ow_step3 hps hts es a b c len i hi h0 hl ht hk
theorem ow_end (ts : List AV) (len i : Int) (H : Heap) : (evC Tryz.prog tab (bodyOf (loopAt Tryz.f83 0)) (oT ts len i) H [.b false] []).cut 16 = some (.exit 0, oT ts len i, H, [decide (i < len) = false]) := by kernel_rfl
theorem ow_fn (ps ts : List AV) (es : List (Value × Value)) (n : Nat) (i : Int) : evF Tryz.prog tab Tryz.f83 [.agg [.lst 2 ps, .lst 3 ts]] [.s 16 (.exit 0) (oT ts ts.length i) (oK ps ts es ++ mkH n)] =
    some (.tup [.mv es, bv true], [Goes Tryz.prog (loopAt Tryz.f83 0) ([.agg [.lst 2 ps, .lst 3 ts], .op 0 0, .op 1 0, .op 2 0, .op 4 0, uu, uu, uu, uu, uu, uu, .mp 3, .op 0 1, .lst 3 ts, iv ts.length, iv 0] ++ List.replicate 20 .any) (oK ps ts []) (.exit 0) (oT ts ts.length i) (oK ps ts es ++ mkH n)]) := by kernel_rfl
theorem ow_loop : loopAt Tryz.f83 0 = .loop (bodyOf (loopAt Tryz.f83 0)) := by kernel_rfl
theorem ownP_append (ts : List Tri) (t : Tri) : ∀ (i : Int) (m : List ((Int × Int) × Int)), ownP i (ts ++ [t]) m = owT t (i + ts.length) (ownP i ts m) := by
  induction ts with
  | nil => intro i m; simp [ownP]
  | cons u us ih => intro i m; simp only [List.cons_append, ownP, ih, List.length_cons]; congr 1; push_cast; omega
theorem ownP_keys (ts : List Tri) : ∀ (i : Int) (m : List ((Int × Int) × Int)), (ownP i ts m).map (·.1) = (ts.reverse.flatMap sidesL) ++ m.map (·.1) := by
  induction ts with
  | nil => intro i m; simp [ownP]
  | cons u us ih => intro i m; simp [ownP, ih, owT, sidesL]
theorem owners_ok {ps : List AV} (hps : ps.all (hf 9) = true) (tris : List Tri) (h4 : tris.length ≤ 4) (hin : ∀ t ∈ tris, triIn t) (hnd : (tris.reverse.flatMap sidesL).Nodup) :
    CallsTo Tryz.prog 83 [.agg [.lst 2 ps, .lst 3 (tris.map triAV)]] (.tup [.mv (encM (ownP 0 tris [])), bv true]) := by
  refine fn_ok fits hmix Tryz.func83 (by kernel_rfl) _ (ow_fn ps (tris.map triAV) (encM (ownP 0 tris [])) tris.length tris.length) ⟨?_, trivial⟩
  have hts := hf_tris tris
  have key : ∀ (rest pre : List Tri), tris = pre ++ rest → Rounds Tryz.prog (bodyOf (loopAt Tryz.f83 0)) (rest.length + 1) (oT (tris.map triAV) tris.length pre.length) (oK ps (tris.map triAV) (encM (ownP 0 pre [])) ++ mkH pre.length) (.exit 0) (oT (tris.map triAV) tris.length tris.length) (oK ps (tris.map triAV) (encM (ownP 0 tris [])) ++ mkH tris.length) := by
    intro rest
    induction rest with
    | nil =>
      intro pre hp
      have hp : pre = tris := by simpa using hp.symm
      subst hp
      exact .out _ (Goes.cut fits hmix (ow_end _ _ _ _) ⟨by simp, trivial⟩) (by intro h; cases h)
    | cons t rest ih =>
      intro pre hp
      have hl : tris.length = pre.length + (rest.length + 1) := by rw [hp]; simp
      have ht : (tris.map triAV)[((pre.length : Nat) : Int).toNat]? = some (.agg [iv t.1, iv t.2.1, iv t.2.2]) := by
        rw [hp, Int.toNat_natCast, List.getElem?_map, List.getElem?_append_right (Nat.le_refl _)]
        simp [triAV]
      have htin := hin t (by rw [hp]; simp)
      have hpin : ∀ e ∈ ownP 0 pre [], inR e.1.1 ∧ inR e.1.2 := by
        intro e he
        have : e.1 ∈ (ownP 0 pre []).map (·.1) := List.mem_map.2 ⟨e, he, rfl⟩
        rw [ownP_keys] at this
        simp only [List.map_nil, List.append_nil, List.mem_flatMap, List.mem_reverse] at this
        obtain ⟨u, hu, h⟩ := this
        have huin := hin u (by rw [hp]; simp [hu])
        simp only [sidesL, List.mem_cons, List.not_mem_nil, or_false] at h
        obtain ⟨h1, h2, h3⟩ := huin
        rcases h with h | h | h <;> rw [h] <;> exact ⟨by assumption, by assumption⟩
      have hnd' : (sidesL t ++ (ownP 0 pre []).map (·.1)).Nodup := by
        rw [ownP_keys]
        rw [hp] at hnd
        simp only [List.reverse_append, List.reverse_cons, List.append_assoc, List.flatMap_append, List.flatMap_cons, List.flatMap_nil, List.append_nil, List.nil_append] at hnd
        simpa using (List.nodup_append.1 hnd).2.1
      have hstep := ow_step (n := pre.length) (by omega) hps hts (encM (ownP 0 pre [])) t.1 t.2.1 t.2.2 tris.length pre.length (by omega) (by omega) (by omega) ht (by
        obtain ⟨h1, h2, h3⟩ := htin
        simp only [sidesL, List.cons_append, List.nil_append, List.nodup_cons, List.mem_cons, not_or] at hnd'
        obtain ⟨⟨n1, n2, n3⟩, ⟨n4, n5⟩, n6, _⟩ := hnd'
        intro j hj
        match j, hj with
        | 0, _ => exact ⟨found_enc n6, fit_enc h1 h2 hpin⟩
        | 1, _ =>
          refine ⟨found_enc (x := t.2.1) (y := t.2.2) (m := ((t.1, t.2.1), (pre.length : Int)) :: ownP 0 pre []) (by simpa using ⟨fun a b => n4 (Prod.ext a b), by simpa using n5⟩), fit_enc (m := ((t.1, t.2.1), (pre.length : Int)) :: ownP 0 pre []) h2 h3 ?_⟩
          intro e he
          rcases List.mem_cons.1 he with rfl | he
          · exact ⟨h1, h2⟩
          · exact hpin e he
        | 2, _ =>
          refine ⟨found_enc (x := t.2.2) (y := t.1) (m := ((t.2.1, t.2.2), (pre.length : Int)) :: ((t.1, t.2.1), (pre.length : Int)) :: ownP 0 pre []) (by simpa using ⟨fun a b => n1 (Prod.ext a b), fun a b => n2 (Prod.ext a b), by simpa using n3⟩), fit_enc (m := ((t.2.1, t.2.2), (pre.length : Int)) :: ((t.1, t.2.1), (pre.length : Int)) :: ownP 0 pre []) h3 h1 ?_⟩
          intro e he
          rcases List.mem_cons.1 he with rfl | he
          · exact ⟨h2, h3⟩
          rcases List.mem_cons.1 he with rfl | he
          · exact ⟨h1, h2⟩
          · exact hpin e he)
      rw [owE_enc] at hstep
      have ih' := ih (pre ++ [t]) (by rw [hp]; simp)
      rw [ownP_append, Int.zero_add] at ih'
      rw [show (pre ++ [t]).length = pre.length + 1 by simp] at ih'
      exact .step hstep (by simpa using ih')
  rw [ow_loop, List.length_map]
  refine (Same.mask (List.replicate 5 false |>.set 1 true |>.set 2 true |>.set 3 true |>.set 4 true |>.append (List.replicate 8 false) |>.append (List.replicate 3 true))).goes (Goes.loop (n := tris.length + 1) ?_)
  exact key tris [] rfl
end Go.Flow.Tryz
namespace Go.Flow
open Go Go.RowKit Go.Flow.Tryz
open Go.ChangeMaps (setBlock)
variable {P : Program} {τ : Tab} {B : Nat} {S0 : Nat → Prop} {w0 : World} {α : Nat → Option Value} {T : List AV} {H : Heap} {a : Act} {w : World}
abbrev pv (l : Nat) : AV := .v (.pointer (some ⟨l, 0, none⟩))
abbrev itH (l bm : Nat) (seen : Array Nat) (arr : Array MapEntry) (clock : Nat) : Heap := [some (.aux ⟨some l, .mapIter (some bm) clock seen clock, false⟩), some (.ghost [.map (some bm)] [.mx arr clock])]
theorem it_get1 (H : Heap) (l bm : Nat) (seen : Array Nat) (arr : Array MapEntry) (clock : Nat) : getH (H ++ itH l bm seen arr clock) H.length = some (.aux ⟨some l, .mapIter (some bm) clock seen clock, false⟩) := by
  simp [getH]
theorem it_get2 (H : Heap) (l bm : Nat) (seen : Array Nat) (arr : Array MapEntry) (clock : Nat) : getH (H ++ itH l bm seen arr clock) (H.length + 1) = some (.ghost [.map (some bm)] [.mx arr clock]) := by
  simp [getH]
theorem it_set1 (H : Heap) (l bm : Nat) (seen seen' : Array Nat) (arr : Array MapEntry) (clock : Nat) : setAt (H ++ itH l bm seen arr clock) H.length (some (.aux ⟨some l, .mapIter (some bm) clock seen' clock, false⟩)) = H ++ itH l bm seen' arr clock := by
  rw [show H.length = H.length + 0 from rfl, setAt_app]; rfl
theorem it_facts {l bm : Nat} {seen : Array Nat} {arr : Array MapEntry} {clock : Nat} (s : Sim B S0 w0 α T (H ++ itH l bm seen arr clock) a w) :
    α H.length = some (.chan (some l)) ∧ w.heap[l]? = some (.mapIter (some bm) clock seen clock) ∧ w.heap[bm]? = some (.map arr clock) := by
  obtain ⟨l', e1, _, e3, e4⟩ := s.objs _ _ (it_get1 H l bm seen arr clock)
  obtain rfl := e4 l rfl
  have h := (s.objs _ _ (it_get2 H l' bm seen arr clock)).2
  cases h with
  | cons _ u _ us hx hxs =>
    obtain ⟨b, e5, _, e6⟩ := hx.inv_mx
    cases e5
    exact ⟨e1, e3, e6⟩
theorem evalA_pv {l : Nat} {it : Tmp} (s : Sim B S0 w0 α T H a w) (hT : evalA T (.tmp it) = pv l) : a.eval (.tmp it) = .pointer (some ⟨l, 0, none⟩) := by
  have := s.eval (.tmp it)
  rw [hT] at this
  exact this.inv_v
theorem Sim.putv (s : Sim B S0 w0 α T H a w) {d : Tmp} {x : AV} {u : Value} (h : Rep (envOf B S0 α H w) x u) : Sim B S0 w0 α (T.set d x) H (a.put (some d) u) w :=
  s.reframe (by simpa [Act.put] using s.tmps.set d h) s.defers
theorem wp_next {ops : Array Oper} {Q : Exit → Act → World → Prop} {rest : List Oper} {o : Oper} {it d1 : Tmp} (ho : o.op = .next (.tmp it) false) (hg : o.guard = none) (hd : o.dst = some d1) {l bm : Nat} {seen : Array Nat} {arr : Array MapEntry} {clock : Nat}
    (hT : evalA T (.tmp it) = pv l) (s : Sim B S0 w0 α T (H ++ itH l bm seen arr clock) a w) (hold : ∀ x ∈ arr.toList, x.born < clock)
    (h0 : (leftOf arr seen).size = 0 → ∀ a', Sim B S0 w0 α (T.set d1 (.tup [bv false])) (H ++ itH l bm seen arr clock) a' w → wpListIn Fence.wide 0 P ops Q rest a' w)
    (h1 : ∀ e ∈ (leftOf arr seen).toList, ∀ a' w', Sim B S0 w0 α (T.set d1 (.tup [bv true, .v e.key, .v e.val])) (H ++ itH l bm (seen.push e.born) arr clock) a' w' → wpListIn Fence.wide 0 P ops Q rest a' w') :
    wpListIn Fence.wide 0 P ops Q (o :: rest) a w := by
  unfold wpListIn
  rw [if_pos (by simp [Region.wanted, hg])]
  refine wp_wide ?_
  obtain ⟨f1, f2, f3⟩ := it_facts s
  have hv := evalA_pv s hT
  unfold Oper.wp
  rcases run_next_at (P := P) w o.type l bm clock clock seen arr clock f2 f3 hold (Nat.le_refl _) with ⟨hz, hrun⟩ | ⟨e, he, w1, hw1, hrun⟩
  · rw [run_v ho (by simp [execOp, ho]; rfl) (by rw [hv]; exact hrun)]
    show wpListIn _ _ _ _ _ _ (a.put o.dst _) w
    rw [hd]
    exact h0 hz _ (s.putv (.tup _ [_] (.cons _ _ _ _ (.v _) .nil)))
  · rw [run_v ho (by simp [execOp, ho]; rfl) (by rw [hv]; exact hrun)]
    show wpListIn _ _ _ _ _ _ (a.put o.dst _) _
    rw [hd]
    have s1 : Sim B S0 w0 α T (H ++ itH l bm seen arr clock) a w1 := by
      rcases hw1 with rfl | rfl
      · exact s
      · exact s.drew
    have s2 := s1.turn (o' := .mapIter (some bm) clock (seen.push e.born) clock) (it_get1 H l bm seen arr clock) f1 (.inr (by intro h; cases h))
    rw [it_set1] at s2
    exact h1 e he _ _ (s2.putv (.tup _ [_, _, _] (.cons _ _ _ _ (.v _) (.cons _ _ _ _ (.v _) (.cons _ _ _ _ (.v _) .nil)))))
theorem wp_entry {ops : Array Oper} {Q : Exit → Act → World → Prop} {rest : List Oper} {o : Oper} {it d2 : Tmp} (ho : o.op = .entry (.tmp it)) (hg : o.guard = none) (hd : o.dst = some d2) {l bm : Nat} {seen : Array Nat} {arr : Array MapEntry} {clock : Nat}
    (hT : evalA T (.tmp it) = pv l) {e : MapEntry} (s : Sim B S0 w0 α T (H ++ itH l bm (seen.push e.born) arr clock) a w) (he : e ∈ arr.toList) (hn : (arr.toList.map (·.born)).Nodup)
    (h1 : ∀ a', Sim B S0 w0 α (T.set d2 (.tup [.v e.key, .v e.val])) (H ++ itH l bm (seen.push e.born) arr clock) a' w → wpListIn Fence.wide 0 P ops Q rest a' w) :
    wpListIn Fence.wide 0 P ops Q (o :: rest) a w := by
  unfold wpListIn
  rw [if_pos (by simp [Region.wanted, hg])]
  refine wp_wide ?_
  obtain ⟨f1, f2, f3⟩ := it_facts s
  have hv := evalA_pv s hT
  unfold Oper.wp
  rw [run_v ho (by simp [execOp, ho]; rfl) (by rw [hv]; exact run_entry_at (P := P) w l bm clock seen arr clock e f2 f3 he hn)]
  show wpListIn _ _ _ _ _ _ (a.put o.dst _) _
  rw [hd]
  exact h1 _ (s.putv (.tup _ [_, _] (.cons _ _ _ _ (.v _) (.cons _ _ _ _ (.v _) .nil))))
theorem wp_range {ops : Array Oper} {Q : Exit → Act → World → Prop} {rest : List Oper} {o : Oper} {m it : Tmp} {t k e : TypeId} (ho : o.op = .range t (.tmp m)) (hg : o.guard = none) (hd : o.dst = some it) (ht : P.underlying t = some (.map k e)) {es : List (Value × Value)}
    (hT : evalA T (.tmp m) = .mv es) (s : Sim B S0 w0 α T H a w) (hf : Fresh α H)
    (h1 : ∀ (l bm : Nat) (arr : Array MapEntry) (clock : Nat), MapIs es arr clock → ∀ α' a' w', Sim B S0 w0 α' (T.set it (pv l)) (H ++ itH l bm #[] arr clock) a' w' → Fresh α' (H ++ itH l bm #[] arr clock) → wpListIn Fence.wide 0 P ops Q rest a' w') :
    wpListIn Fence.wide 0 P ops Q (o :: rest) a w := by
  unfold wpListIn
  rw [if_pos (by simp [Region.wanted, hg])]
  refine wp_wide ?_
  have hm := s.eval (.tmp m)
  rw [hT] at hm
  obtain ⟨bm, arr, clock, hv, hS, hb, hM⟩ := hm.inv_mv
  unfold Oper.wp
  rw [run_v ho (by simp [execOp, ho]; rfl) (by rw [hv]; exact run_range_map w t k e bm arr clock ht hb)]
  show wpListIn _ _ _ _ _ _ (a.put o.dst _) _
  rw [hd]
  have f1 := fresh_upd (v := .chan (some w.heap.size)) hf (o := some (.aux ⟨some w.heap.size, .mapIter (some bm) clock #[] clock, false⟩))
  have s2 := s.pushAux hf (.mapIter (some bm) clock #[] clock)
  have sc := (s.reframe (T' := [.mx arr clock]) (a' := { tmps := #[.map (some bm)], defers := [] }) (.cons _ _ _ _ (.mx _ _ _ hS hb) .nil) .nil).pushAux hf (.mapIter (some bm) clock #[] clock)
  have s3 := s2.pushGhost f1 (us := [.map (some bm)]) (xs := [.mx arr clock]) sc.tmps
  have f3 := fresh_upd (v := undef) f1 (o := some (.ghost [.map (some bm)] [.mx arr clock]))
  rw [List.append_assoc] at s3 f3
  exact h1 _ bm arr clock hM _ _ _ (s3.putv (.v _)) f3
def OpsGo (P : Program) (ops : Array Oper) (l : List Oper) (T : List AV) (H : Heap) (T' : List AV) (H' : Heap) : Prop :=
  ∀ (B : Nat) (S0 : Nat → Prop) (w0 : World) (α : Nat → Option Value) (a : Act) (w : World), Sim B S0 w0 α T H a w → Fresh α H → ∀ (Q : Exit → Act → World → Prop) (l2 : List Oper),
    (∀ (α' : Nat → Option Value) (a' : Act) (w' : World), Sim B S0 w0 α' T' H' a' w' → Fresh α' H' → wpListIn Fence.wide 0 P ops Q l2 a' w') → wpListIn Fence.wide 0 P ops Q (l ++ l2) a w
theorem OpsGo.of (hτ : Fits P τ) {ops : Array Oper} {l : List Oper} {T T' : List AV} {H H' : Heap} {orc orc' : List Orc} {cs : List Prop} {fs : List (List Nat × List Nat)} (h : opsA P τ ops l T H orc [] = .ok T' H' orc' cs fs) (hd : (l.all fun o => !isDefer o.op) = true) (hc : AllP cs) : OpsGo P ops l T H T' H' :=
  fun _ _ _ _ _ _ s hf Q l2 hQ => opsA_sound_gen hτ (F := Fence.wide) (fun _ h => wp_wide h) (fun _ => trivial) (ol2 := l2) h hd hc.all s hf Q hQ
def kv (e : MapEntry) : Value × Value := (e.key, e.val)
theorem perm_pick : ∀ {L : List MapEntry} {e : MapEntry}, (L.map (·.born)).Nodup → e ∈ L → (e :: L.filter fun x => x.born != e.born).Perm L
  | x :: L, e, hn, he => by
    simp only [List.map_cons, List.nodup_cons] at hn
    rcases List.mem_cons.1 he with rfl | he
    · have : (e :: L).filter (fun x => x.born != e.born) = L := by
        rw [List.filter_cons_of_neg (by simp)]
        refine List.filter_eq_self.2 fun y hy => ?_
        simp only [bne_iff_ne, ne_eq]
        exact fun h => hn.1 (List.mem_map.2 ⟨y, hy, h⟩)
      rw [this]
    · have hx : x.born ≠ e.born := fun h => hn.1 (List.mem_map.2 ⟨e, he, h.symm⟩)
      rw [List.filter_cons_of_pos (by simpa using hx)]
      exact (List.Perm.swap ..).trans ((perm_pick hn.2 he).cons x)
theorem left_push (arr : Array MapEntry) (seen : Array Nat) (e : MapEntry) : (leftOf arr (seen.push e.born)).toList = (leftOf arr seen).toList.filter fun x => x.born != e.born := by
  unfold leftOf
  simp only [Array.toList_filter, List.filter_filter]
  congr 1
  funext x
  rw [contains_push]
  cases seen.contains x.born <;> cases h : (x.born == e.born) <;> simp_all
theorem left_nodup {arr : Array MapEntry} (h : (arr.toList.map (·.born)).Nodup) (seen : Array Nat) : ((leftOf arr seen).toList.map (·.born)).Nodup := by
  unfold leftOf
  rw [Array.toList_filter]
  exact List.Nodup.sublist (List.Sublist.map _ List.filter_sublist) h
theorem goes_rangemap {i1 i2 i3 id id2 : Nat} {ops1 ops2 ops3 : Array Oper} {mv rg nx ex en : Oper} {l3 : List Oper} {cnd body : Code} {T0 T1 T' : List AV} {H0 H' : Heap} {f : List (Value × Value) → List AV} {Hf : List (Value × Value) → Heap} {m it d1 d2 : Tmp} {t k e : TypeId} {es : List (Value × Value)}
    (e1 : ops1.toList = [mv, rg]) (e2 : ops2.toList = [nx, ex]) (e3 : ops3.toList = en :: l3)
    (hrg : rg.op = .range t (.tmp m) ∧ rg.guard = none ∧ rg.dst = some it) (hnx : nx.op = .next (.tmp it) false ∧ nx.guard = none ∧ nx.dst = some d1) (hen : en.op = .entry (.tmp it) ∧ en.guard = none ∧ en.dst = some d2)
    (ht : P.underlying t = some (.map k e)) (hmv : OpsGo P ops1 [mv] T0 H0 T1 (Hf [])) (hm : evalA T1 (.tmp m) = .mv es) (hst : ∀ l H, Same (T1.set it (pv l)) H ((f []).set it (pv l)) H)
    (hit : ∀ d l, evalA ((f d).set it (pv l)) (.tmp it) = pv l)
    (hout : ∀ d l H, ∃ N, OpsGo P ops2 [ex] (((f d).set it (pv l)).set d1 (.tup [bv false])) H N H ∧ Goes P cnd N H (.exit id) (f d) H)
    (hgo : ∀ d (x y : Value) l H, ∃ N, OpsGo P ops2 [ex] (((f d).set it (pv l)).set d1 (.tup [bv true, .v x, .v y])) H N H ∧ Goes P cnd N H .normal ((f d).set it (pv l)) H)
    (hbody : ∀ d x left, (d ++ x :: left).Perm es → ∀ l bm seen arr clock, ∃ N HN ex, (ex = .normal ∨ ex = .exit id2) ∧ OpsGo P ops3 l3 (((f d).set it (pv l)).set d2 (.tup [.v x.1, .v x.2])) (Hf d ++ itH l bm seen arr clock) N HN ∧
      Goes P body N HN ex ((f (d ++ [x])).set it (pv l)) (Hf (d ++ [x]) ++ itH l bm seen arr clock))
    (hfin : ∀ d, d.Perm es → ∀ l bm seen arr clock, Same (f d) (Hf d ++ itH l bm seen arr clock) T' H') :
    Goes P (.seq (.region i1 ops1 false) (.block id (.loop (.seq (.region i2 ops2 false) (.seq cnd (.block id2 (.seq (.region i3 ops3 false) body))))))) T0 H0 .normal T' H' := by
  intro B S0 w0 α a w s hf Q hQ
  refine (wpIn_wide (n := 0)).1 (wpIn_seq (wpIn_region_list ?_))
  rw [e1]
  refine hmv B S0 w0 α a w s hf _ [rg] fun α1 a1 w1 s1 f1 => ?_
  refine wp_range hrg.1 hrg.2.1 hrg.2.2 ht hm s1 f1 fun l bm arr clock hM α2 a2 w2 s2 f2 => wpListIn_nil ?_
  obtain ⟨α3, s3, f3⟩ := hst l _ B S0 w0 α2 a2 w2 s2 f2
  have key : ∀ (n : Nat) (seen : Array Nat) (d : List (Value × Value)) (α : Nat → Option Value) (a : Act) (w : World), (leftOf arr seen).size = n → (d ++ (leftOf arr seen).toList.map kv).Perm es →
      Sim B S0 w0 α ((f d).set it (pv l)) (Hf d ++ itH l bm seen arr clock) a w → Fresh α (Hf d ++ itH l bm seen arr clock) → ∀ Q' : Exit → Act → World → Prop,
      (∀ seen d α a w, d.Perm es → Sim B S0 w0 α (f d) (Hf d ++ itH l bm seen arr clock) a w → Fresh α (Hf d ++ itH l bm seen arr clock) → Q' (.exit id) a w) →
      Code.roundsIn Fence.wide 0 P (.seq (.region i2 ops2 false) (.seq cnd (.block id2 (.seq (.region i3 ops3 false) body)))) Q' (n + 1) a w := by
    intro n
    induction n with
    | zero =>
      intro seen d α a w hn hp s hf Q' hQ'
      refine wpIn_seq (wpIn_region_list ?_)
      rw [e2]
      refine wp_next hnx.1 hnx.2.1 hnx.2.2 (hit d l) s hM.2.1 (fun hz a' s' => ?_) (fun e he _ _ _ => ?_)
      · obtain ⟨N, o1, g1⟩ := hout d l (Hf d ++ itH l bm seen arr clock)
        refine o1 _ _ _ _ _ _ s' hf _ [] fun α4 a4 w4 s4 f4 => wpListIn_nil ?_
        refine wpIn_seq (wpIn_wide.2 (g1 _ _ _ _ _ _ s4 f4 _ fun α5 a5 w5 s5 f5 => ?_))
        refine hQ' seen d α5 a5 w5 ?_ s5 f5
        have : (leftOf arr seen).toList = [] := List.eq_nil_of_length_eq_zero (by simpa using hz)
        rw [this] at hp
        simpa using hp
      · have : (leftOf arr seen).toList = [] := List.eq_nil_of_length_eq_zero (by simpa using hn)
        rw [this] at he
        exact absurd he (by simp)
    | succ n ih =>
      intro seen d α a w hn hp s hf Q' hQ'
      refine wpIn_seq (wpIn_region_list ?_)
      rw [e2]
      refine wp_next hnx.1 hnx.2.1 hnx.2.2 (hit d l) s hM.2.1 (fun hz _ _ => absurd hz (by omega)) (fun e he a' w' s' => ?_)
      obtain ⟨N, o1, g1⟩ := hgo d e.key e.val l (Hf d ++ itH l bm (seen.push e.born) arr clock)
      refine o1 _ _ _ _ _ _ s' (fun q hq => hf q (by simpa using hq)) _ [] fun α4 a4 w4 s4 f4 => wpListIn_nil ?_
      refine wpIn_seq (wpIn_wide.2 (g1 _ _ _ _ _ _ s4 f4 _ fun α5 a5 w5 s5 f5 => ?_))
      refine wpIn_block (wpIn_seq (wpIn_region_list ?_))
      rw [e3]
      have hein : e ∈ arr.toList := by
        unfold leftOf at he
        rw [Array.toList_filter] at he
        exact (List.mem_filter.1 he).1
      refine wp_entry hen.1 hen.2.1 hen.2.2 (hit d l) s5 hein hM.2.2.1 fun a6 s6 => ?_
      have hpk : (d ++ kv e :: (leftOf arr (seen.push e.born)).toList.map kv).Perm es := by
        rw [left_push]
        refine List.Perm.trans (List.Perm.append_left d ?_) hp
        exact (perm_pick (left_nodup hM.2.2.1 seen) he).map kv
      obtain ⟨N, HN, ex, hex, o2, g2⟩ := hbody d (kv e) _ hpk l bm (seen.push e.born) arr clock
      have h6 := o2 _ _ _ _ _ _ s6 f5 (Exit.then (body.wpIn Fence.wide 0 P (Exit.inBlock id2 (Exit.then (Code.roundsIn Fence.wide 0 P (.seq (.region i2 ops2 false) (.seq cnd (.block id2 (.seq (.region i3 ops3 false) body)))) Q' (n + 1)) Q'))) (Exit.inBlock id2 (Exit.then (Code.roundsIn Fence.wide 0 P (.seq (.region i2 ops2 false) (.seq cnd (.block id2 (.seq (.region i3 ops3 false) body)))) Q' (n + 1)) Q'))) []
        fun α7 a7 w7 s7 f7 => wpListIn_nil ?_
      · simpa using h6
      refine wpIn_wide.2 (g2 _ _ _ _ _ _ s7 f7 _ fun α8 a8 w8 s8 f8 => ?_)
      have hnext : Code.roundsIn Fence.wide 0 P (.seq (.region i2 ops2 false) (.seq cnd (.block id2 (.seq (.region i3 ops3 false) body)))) Q' (n + 1) a8 w8 := by
        refine ih (seen.push e.born) (d ++ [kv e]) α8 a8 w8 ?_ (by simpa using hpk) s8 f8 Q' hQ'
        have h1 : (leftOf arr seen).toList.length = n + 1 := by simpa using hn
        have h2 := (perm_pick (left_nodup hM.2.2.1 seen) he).length_eq
        rw [← left_push] at h2
        simp only [List.length_cons] at h2
        have : (leftOf arr (seen.push e.born)).toList.length = n := by omega
        simpa using this
      rcases hex with rfl | rfl
      · exact hnext
      · show Exit.inBlock id2 _ (.exit id2) a8 w8
        simp only [Exit.inBlock, if_true]
        exact hnext
  refine wpIn_block (wpIn_loop_rounds _ (key _ #[] [] α3 a2 w2 rfl ?_ s3 f3 _ fun seen d α9 a9 w9 hp s9 f9 => ?_))
  · have h1 : (leftOf arr #[]).toList = arr.toList := by
      unfold leftOf
      rw [Array.toList_filter]
      exact List.filter_eq_self.2 fun x _ => by simp
    rw [h1]
    exact hM.1
  · obtain ⟨α10, s10, f10⟩ := hfin d hp l bm seen arr clock B S0 w0 α9 a9 w9 s9 f9
    show Exit.inBlock id _ (.exit id) a9 w9
    simp only [Exit.inBlock, if_true]
    exact hQ α10 a9 w9 s10 f10
theorem fn_goes (hτ : Fits P τ) {f : FuncId} {fn : Func} {c : Code} (hf : P.funcs[f]? = some fn) (hname : (fn.name == "runtime.NumGoroutine") = false) (hb : fn.body = some c) {args ys : List AV} {r : AV} {T : List AV} {H : Heap}
    (hg : Goes P c (args ++ List.replicate (fn.ntmps - args.length) (.v undef)) [] .ret T H) (hys : resultsA τ T H fn.results.toList = some ys) (hl : look H 9 (oneOrTup ys) = some r) : CallsTo P f args r := by
  refine ⟨⟨fn, c, hf, hb, hname⟩, fun w S us hG hS hargs => ?_⟩
  have hinit : Sim w.heap.size S w (fun _ => none) (args ++ List.replicate (fn.ntmps - args.length) (.v undef)) [] { tmps := us.toArray ++ Array.replicate (fn.ntmps - us.toArray.size) undef, defers := [] } w := by
    refine ⟨Below.refl _ _, Nat.le_refl _, .nil, ?_, fun h o ho => by simp [getH] at ho, fun h h' o o' v v' b ho => by simp [getH] at ho, hG⟩
    have hle : Env.Le ⟨fun _ => none, S, w⟩ (envOf w.heap.size S (fun _ => none) [] w) := ⟨(fun _ _ h => h), (fun b hb => ⟨hS b hb, fun _ => hb, fun h o v ho => by simp [getH] at ho⟩), (fun _ _ => rfl)⟩
    have h1 := hargs.mono hle
    have h2 : RepL (envOf w.heap.size S (fun _ => none) [] w) (List.replicate (fn.ntmps - args.length) (.v undef)) (List.replicate (fn.ntmps - us.length) undef) := by
      rw [hargs.length]
      generalize fn.ntmps - args.length = n
      induction n with
      | zero => exact .nil
      | succ n ih => exact .cons _ _ _ _ (.v _) ih
    have := h1.append h2
    simpa using this
  refine callsIn_wide.1 (callsIn_of_wp_marks (n := 0) hf hb trivial (wpIn_wide.2 (hg w.heap.size S w (fun _ => none) _ w hinit (fun _ _ => rfl) _ fun α' a' w' s' hf' => ?_)))
  have main : ∀ {H2 : Heap} {a2 : Act} {w2 : World}, Sim w.heap.size S w α' T H2 a2 w2 → resultsA τ T H2 fn.results.toList = some ys → look H2 9 (oneOrTup ys) = some r →
      ∃ v, (results fn a2.tmps).run P w2 = .ok v w2 ∧ (∃ v', Ending.returned v = .returned v' ∧ Below w.heap.size w w2 ∧ Rep ⟨fun _ => none, fun b => b < w2.heap.size ∧ (b < w.heap.size → S b), w2⟩ r v') := fun {H2 a2 w2} s' hys hl => by
    obtain ⟨vs, hv1, hv2⟩ := resultsA_run hτ s' hys
    have hv : ∃ v, (results fn a2.tmps).run P w2 = .ok v w2 ∧ Rep (envOf w.heap.size S α' H2 w2) (oneOrTup ys) v := by
      have hrun : (fn.results.mapM (resOne a2.tmps)).run P w2 = .ok vs.toArray w2 := by
        rw [Array.mapM_eq_mapM_toList]
        simp [hv1]
      have hlen := hv2.length
      refine ⟨if h : vs.toArray.size = 1 then vs.toArray[0] else .tuple vs.toArray, ?_, ?_⟩
      · rw [results_eq]
        simp only [Sem.run_bind]
        rw [hrun]
        rfl
      · cases hv2 with
        | nil => exact .tup [] [] .nil
        | cons x u xs us hx hxs =>
          cases hxs with
          | nil => exact hx
          | cons y v ys vs hy hyss =>
            have : ¬ (u :: v :: vs).toArray.size = 1 := by simp
            rw [dif_neg this]
            exact .tup _ _ (.cons _ _ _ _ hx (.cons _ _ _ _ hy hyss))
    obtain ⟨v, hrv, hrep⟩ := hv
    refine ⟨v, hrv, v, rfl, s'.below, ?_⟩
    refine look_rep s' (S' := fun b => b < w2.heap.size ∧ (b < w.heap.size → S b)) (fun b hb => ⟨hb.1, hb.2.1⟩) 9 _ r v hl (fun k o _ ho v b hv hb => ?_) hrep
    obtain ⟨u, hu, hlt⟩ := s'.alpha ho
    rw [hv] at hu
    cases hu
    exact ⟨(hlt b hb).2, fun h => absurd (hlt b hb).1 (by omega)⟩
  have hpost : LeavesInM Fence.wide 0 P fn a'.tmps (fun e w' => ∃ v, e = .returned v ∧ Below w.heap.size w w' ∧ Rep ⟨fun _ => none, fun b => b < w'.heap.size ∧ (b < w.heap.size → S b), w'⟩ r v) a'.defers .returning w' := by
    exact leaves_of (τ := τ) a'.defers (s'.reframe s'.tmps .nil) s'.defers fun H1 w1 s1 e1 e2 _ => main (a2 := { tmps := a'.tmps, defers := [] }) s1 ((e1 _).trans hys) ((e2 _ _).trans hl)
  exact hpost
theorem OpsGo.same {ops : Array Oper} {l : List Oper} {T T1 T' : List AV} {H H1 H' : Heap} (h : Same T H T1 H1) (g : OpsGo P ops l T1 H1 T' H') : OpsGo P ops l T H T' H' :=
  fun B S0 w0 α a w s hf Q l2 hQ => by
    obtain ⟨α', s', f'⟩ := h B S0 w0 α a w s hf
    exact g B S0 w0 α' a w s' f' Q l2 hQ
theorem Same.perm (h : Nat) {fr : Bool} {es es' : List (Value × Value)} (ho : getH H h = some (.map fr es)) (hp : es.Perm es') : Same T H T (setAt H h (some (.map fr es'))) :=
  fun B S0 w0 α a w s hf => ⟨α, s.swapObj ho rfl rfl (fun E ⟨b, arr, clock, h1, h2, h3, h4⟩ => ⟨b, arr, clock, h1, h2, h3, h4.1.trans hp, h4.2⟩), fresh_set (getH_lt ho) hf⟩
end Go.Flow
namespace Go.Flow.Tryz
open Go Go.Proofs Go.RowKit Go.Flow
set_option maxRecDepth 100000
theorem go_uin (es : List (Value × Value)) (nx : List (Value × Value)) (fi : Int) (l : Nat) (p : Option Nat) (o : Obj) (us : List Value) (arr : Array MapEntry) (clock : Nat) (x : Int) (y : Int) (i : Int) (h : AllP
    [(0 : Int) ≤ (1 : Int) ∧ (1 : Int) < (↑(2 : Nat) : Int),
     (0 : Int) ≤ (0 : Int) ∧ (0 : Int) < (↑(2 : Nat) : Int),
     Flow.Found es (Value.agg { toList := [Value.int IntKind.i64 y, Value.int IntKind.i64 x] }) (some (Value.int IntKind.i64 i)),
     KeyFit Tryz.prog (25 : Nat) es (Value.agg { toList := [Value.int IntKind.i64 y, Value.int IntKind.i64 x] }),
     true = true]) :
    Goes Tryz.prog (codeR (codeL (codeR (codeR (bodyOf (loopAt Tryz.f91 (0 : Nat))))))) (st 93 [AV.any, AV.mv es, AV.any, AV.any, AV.v (Value.slice none 0 0), bv (false), AV.mp (0 : Nat), iv (fi), AV.op 3 0, AV.any, AV.any, AV.any, AV.any, AV.any, AV.any, AV.any, AV.any, AV.any, AV.any, AV.v (Value.pointer (some { block := l, off := nat_lit 0 }))]) [some (AObj.map false nx), some (AObj.aux { place := p, obj := o, live := false }), some (AObj.ghost us [AV.mx arr clock]), some (AObj.box false 25 [iv (x), iv (y)])] (Ex.exit (1 : Nat)) (st 93 [AV.any, AV.mv es, AV.any, AV.any, AV.v (Value.slice none 0 0), bv (false), AV.mp (0 : Nat), iv (fi), AV.any, iv (i), bv (true), AV.any, AV.any, AV.any, AV.any, AV.any, AV.any, AV.any, AV.any, AV.v (Value.pointer (some { block := l, off := nat_lit 0 }))]) [some (AObj.map false nx), some (AObj.aux { place := p, obj := o, live := false }), some (AObj.ghost us [AV.mx arr clock])] :=
  Goes.of fits hmix (orc := [Orc.m (some (Value.int IntKind.i64 i)), Orc.b true]) (k := (20 : Nat)) (L := [(0 : Nat), (1 : Nat), (2 : Nat)]) (by kernel_rfl) h
theorem go_ub1 (es : List (Value × Value)) (nx : List (Value × Value)) (fi : Int) (l : Nat) (p : Option Nat) (o : Obj) (us : List Value) (arr : Array MapEntry) (clock : Nat) (x : Int) (y : Int) (h : AllP
    [(0 : Int) ≤ (1 : Int) ∧ (1 : Int) < (↑(2 : Nat) : Int),
     (0 : Int) ≤ (0 : Int) ∧ (0 : Int) < (↑(2 : Nat) : Int),
     Flow.Found es (Value.agg { toList := [Value.int IntKind.i64 y, Value.int IntKind.i64 x] }) none,
     KeyFit Tryz.prog (25 : Nat) es (Value.agg { toList := [Value.int IntKind.i64 y, Value.int IntKind.i64 x] }),
     false = false,
     (0 : Int) ≤ (0 : Int) ∧ (0 : Int) < (↑(2 : Nat) : Int),
     Flow.Found nx (Value.int IntKind.i64 x) none,
     KeyFit Tryz.prog (3 : Nat) nx (Value.int IntKind.i64 x),
     false = false,
     (0 : Int) ≤ (0 : Int) ∧ (0 : Int) < (↑(2 : Nat) : Int),
     (0 : Int) ≤ (1 : Int) ∧ (1 : Int) < (↑(2 : Nat) : Int),
     Flow.Found nx (Value.int IntKind.i64 x) none,
     KeyFit Tryz.prog (3 : Nat) nx (Value.int IntKind.i64 x),
     decide (fi < (0 : Int)) = true,
     decide (fi < (0 : Int)) = true,
     decide (fi < (0 : Int)) = true,
     decide (fi < (0 : Int)) = true,
     decide (fi < (0 : Int)) = true,
     true = true,
     (0 : Int) ≤ (0 : Int) ∧ (0 : Int) < (↑(2 : Nat) : Int)]) :
    Goes Tryz.prog (codeR (codeL (codeR (codeR (bodyOf (loopAt Tryz.f91 (0 : Nat))))))) (st 93 [AV.any, AV.mv es, AV.any, AV.any, AV.v (Value.slice none 0 0), bv (false), AV.mp (0 : Nat), iv (fi), AV.op 3 0, AV.any, AV.any, AV.any, AV.any, AV.any, AV.any, AV.any, AV.any, AV.any, AV.any, AV.v (Value.pointer (some { block := l, off := nat_lit 0 }))]) [some (AObj.map false nx), some (AObj.aux { place := p, obj := o, live := false }), some (AObj.ghost us [AV.mx arr clock]), some (AObj.box false 25 [iv (x), iv (y)])] (Ex.normal) (st 93 [AV.any, AV.mv es, AV.any, AV.any, AV.v (Value.slice none 0 0), bv (false), AV.mp (0 : Nat), iv (x), AV.any, iv 0, bv (false), iv 0, bv (false), AV.any, AV.any, AV.any, AV.any, AV.any, AV.any, AV.v (Value.pointer (some { block := l, off := nat_lit 0 }))]) [some (AObj.map false ((Value.int IntKind.i64 x, Value.int IntKind.i64 y) :: nx)), some (AObj.aux { place := p, obj := o, live := false }), some (AObj.ghost us [AV.mx arr clock])] :=
  Goes.of fits hmix (orc := [Orc.m none, Orc.b false, Orc.m none, Orc.b false, Orc.m none, Orc.b true, Orc.b true, Orc.b true, Orc.b true, Orc.b true, Orc.b true]) (k := (20 : Nat)) (L := [(0 : Nat), (1 : Nat), (2 : Nat)]) (by kernel_rfl) h
theorem go_ub2 (es : List (Value × Value)) (nx : List (Value × Value)) (fi : Int) (l : Nat) (p : Option Nat) (o : Obj) (us : List Value) (arr : Array MapEntry) (clock : Nat) (x : Int) (y : Int) (h : AllP
    [(0 : Int) ≤ (1 : Int) ∧ (1 : Int) < (↑(2 : Nat) : Int),
     (0 : Int) ≤ (0 : Int) ∧ (0 : Int) < (↑(2 : Nat) : Int),
     Flow.Found es (Value.agg { toList := [Value.int IntKind.i64 y, Value.int IntKind.i64 x] }) none,
     KeyFit Tryz.prog (25 : Nat) es (Value.agg { toList := [Value.int IntKind.i64 y, Value.int IntKind.i64 x] }),
     false = false,
     (0 : Int) ≤ (0 : Int) ∧ (0 : Int) < (↑(2 : Nat) : Int),
     Flow.Found nx (Value.int IntKind.i64 x) none,
     KeyFit Tryz.prog (3 : Nat) nx (Value.int IntKind.i64 x),
     false = false,
     (0 : Int) ≤ (0 : Int) ∧ (0 : Int) < (↑(2 : Nat) : Int),
     (0 : Int) ≤ (1 : Int) ∧ (1 : Int) < (↑(2 : Nat) : Int),
     Flow.Found nx (Value.int IntKind.i64 x) none,
     KeyFit Tryz.prog (3 : Nat) nx (Value.int IntKind.i64 x),
     decide (fi < (0 : Int)) = false,
     (0 : Int) ≤ (0 : Int) ∧ (0 : Int) < (↑(2 : Nat) : Int),
     decide (fi < (0 : Int)) = false,
     decide (fi < (0 : Int)) = false,
     decide (fi < (0 : Int)) = false,
     decide (fi < (0 : Int)) = false,
     decide (x < fi) = true,
     (0 : Int) ≤ (0 : Int) ∧ (0 : Int) < (↑(2 : Nat) : Int)]) :
    Goes Tryz.prog (codeR (codeL (codeR (codeR (bodyOf (loopAt Tryz.f91 (0 : Nat))))))) (st 93 [AV.any, AV.mv es, AV.any, AV.any, AV.v (Value.slice none 0 0), bv (false), AV.mp (0 : Nat), iv (fi), AV.op 3 0, AV.any, AV.any, AV.any, AV.any, AV.any, AV.any, AV.any, AV.any, AV.any, AV.any, AV.v (Value.pointer (some { block := l, off := nat_lit 0 }))]) [some (AObj.map false nx), some (AObj.aux { place := p, obj := o, live := false }), some (AObj.ghost us [AV.mx arr clock]), some (AObj.box false 25 [iv (x), iv (y)])] (Ex.normal) (st 93 [AV.any, AV.mv es, AV.any, AV.any, AV.v (Value.slice none 0 0), bv (false), AV.mp (0 : Nat), iv (x), AV.any, iv 0, bv (false), iv 0, bv (false), AV.any, AV.any, AV.any, AV.any, AV.any, AV.any, AV.v (Value.pointer (some { block := l, off := nat_lit 0 }))]) [some (AObj.map false ((Value.int IntKind.i64 x, Value.int IntKind.i64 y) :: nx)), some (AObj.aux { place := p, obj := o, live := false }), some (AObj.ghost us [AV.mx arr clock])] :=
  Goes.of fits hmix (orc := [Orc.m none, Orc.b false, Orc.m none, Orc.b false, Orc.m none, Orc.b false, Orc.b false, Orc.b false, Orc.b false, Orc.b false, Orc.b true]) (k := (20 : Nat)) (L := [(0 : Nat), (1 : Nat), (2 : Nat)]) (by kernel_rfl) h
theorem go_ub3 (es : List (Value × Value)) (nx : List (Value × Value)) (fi : Int) (l : Nat) (p : Option Nat) (o : Obj) (us : List Value) (arr : Array MapEntry) (clock : Nat) (x : Int) (y : Int) (h : AllP
    [(0 : Int) ≤ (1 : Int) ∧ (1 : Int) < (↑(2 : Nat) : Int),
     (0 : Int) ≤ (0 : Int) ∧ (0 : Int) < (↑(2 : Nat) : Int),
     Flow.Found es (Value.agg { toList := [Value.int IntKind.i64 y, Value.int IntKind.i64 x] }) none,
     KeyFit Tryz.prog (25 : Nat) es (Value.agg { toList := [Value.int IntKind.i64 y, Value.int IntKind.i64 x] }),
     false = false,
     (0 : Int) ≤ (0 : Int) ∧ (0 : Int) < (↑(2 : Nat) : Int),
     Flow.Found nx (Value.int IntKind.i64 x) none,
     KeyFit Tryz.prog (3 : Nat) nx (Value.int IntKind.i64 x),
     false = false,
     (0 : Int) ≤ (0 : Int) ∧ (0 : Int) < (↑(2 : Nat) : Int),
     (0 : Int) ≤ (1 : Int) ∧ (1 : Int) < (↑(2 : Nat) : Int),
     Flow.Found nx (Value.int IntKind.i64 x) none,
     KeyFit Tryz.prog (3 : Nat) nx (Value.int IntKind.i64 x),
     decide (fi < (0 : Int)) = false,
     (0 : Int) ≤ (0 : Int) ∧ (0 : Int) < (↑(2 : Nat) : Int),
     decide (fi < (0 : Int)) = false,
     decide (fi < (0 : Int)) = false,
     decide (fi < (0 : Int)) = false,
     decide (fi < (0 : Int)) = false,
     decide (x < fi) = false]) :
    Goes Tryz.prog (codeR (codeL (codeR (codeR (bodyOf (loopAt Tryz.f91 (0 : Nat))))))) (st 93 [AV.any, AV.mv es, AV.any, AV.any, AV.v (Value.slice none 0 0), bv (false), AV.mp (0 : Nat), iv (fi), AV.op 3 0, AV.any, AV.any, AV.any, AV.any, AV.any, AV.any, AV.any, AV.any, AV.any, AV.any, AV.v (Value.pointer (some { block := l, off := nat_lit 0 }))]) [some (AObj.map false nx), some (AObj.aux { place := p, obj := o, live := false }), some (AObj.ghost us [AV.mx arr clock]), some (AObj.box false 25 [iv (x), iv (y)])] (Ex.normal) (st 93 [AV.any, AV.mv es, AV.any, AV.any, AV.v (Value.slice none 0 0), bv (false), AV.mp (0 : Nat), iv (fi), AV.any, iv 0, bv (false), iv 0, bv (false), AV.any, AV.any, AV.any, AV.any, AV.any, AV.any, AV.v (Value.pointer (some { block := l, off := nat_lit 0 }))]) [some (AObj.map false ((Value.int IntKind.i64 x, Value.int IntKind.i64 y) :: nx)), some (AObj.aux { place := p, obj := o, live := false }), some (AObj.ghost us [AV.mx arr clock])] :=
  Goes.of fits hmix (orc := [Orc.m none, Orc.b false, Orc.m none, Orc.b false, Orc.m none, Orc.b false, Orc.b false, Orc.b false, Orc.b false, Orc.b false, Orc.b false]) (k := (20 : Nat)) (L := [(0 : Nat), (1 : Nat), (2 : Nat)]) (by kernel_rfl) h
theorem cy_first_step (nx : List (Value × Value)) (fi : Int) (a : Int) (b : Int) {ex : Ex} {T2 : List AV} {H2 : Heap} (m : Nat) (h : AllP
    [decide ((↑(0 : Nat) : Int) < (↑(List.length nx) : Int)) = true,
     Flow.Found nx (Value.int IntKind.i64 a) (some (Value.int IntKind.i64 b)),
     KeyFit Tryz.prog (3 : Nat) nx (Value.int IntKind.i64 a),
     false = false,
     false = false,
     false = false,
     false = false,
     (a == fi) = true,
     (a == fi) = true,
     (a == fi) = true,
     false = false,
     (a == fi) = true,
     false = false,
     false = false,
     nat_lit 1 ≤ nat_lit 9223372036854775807 ∧ nat_lit 8 ≤ nat_lit 140737488355328,
     Flow.Found nx (Value.int IntKind.i64 a) (some (Value.int IntKind.i64 b)),
     KeyFit Tryz.prog (3 : Nat) nx (Value.int IntKind.i64 a)])
    (h2 : Rounds Tryz.prog (bodyOf (loopAt Tryz.f91 (1 : Nat))) m (st 93 [AV.any, AV.any, AV.any, AV.any, AV.v (Value.slice none 0 0), bv (false), AV.mp (0 : Nat), iv (fi), AV.any, AV.any, AV.any, AV.any, AV.any, AV.own 1, iv (b)]) [some (AObj.map false nx), some (AObj.row false 3 1 [iv (a)])] ex T2 H2) :
    Rounds Tryz.prog (bodyOf (loopAt Tryz.f91 (1 : Nat))) (m + 1) (st 93 [AV.any, AV.any, AV.any, AV.any, AV.v (Value.slice none 0 0), bv (false), AV.mp (0 : Nat), iv (fi), AV.any, AV.any, AV.any, AV.any, AV.any, AV.v (Value.slice none 0 0), iv (a)]) [some (AObj.map false nx)] ex T2 H2 :=
  Rounds.step_of fits hmix [Orc.b true, Orc.m (some (Value.int IntKind.i64 b)), Orc.b false, Orc.b false, Orc.b false, Orc.b false, Orc.b true, Orc.b true, Orc.b true, Orc.b false, Orc.b true, Orc.b false, Orc.b false, Orc.m (some (Value.int IntKind.i64 b))] (15 : Nat) [(0 : Nat), (2 : Nat)] (by kernel_rfl) h h2
theorem cy_next_step (nx : List (Value × Value)) (xs : List AV) (fi : Int) (a : Int) (b : Int) {ex : Ex} {T2 : List AV} {H2 : Heap} (m : Nat) (h : AllP
    [decide ((↑(List.length xs) : Int) < (↑(List.length nx) : Int)) = true,
     Flow.Found nx (Value.int IntKind.i64 a) (some (Value.int IntKind.i64 b)),
     KeyFit Tryz.prog (3 : Nat) nx (Value.int IntKind.i64 a),
     false = false,
     false = false,
     false = false,
     false = false,
     (a == fi) = false,
     (a == fi) = false,
     (a == fi) = false,
     false = false,
     (a == fi) = false,
     false = false,
     false = false,
     List.length xs + nat_lit 1 ≤ nat_lit 9223372036854775807 ∧ (List.length xs + nat_lit 1) * nat_lit 8 ≤ nat_lit 140737488355328,
     Flow.Found nx (Value.int IntKind.i64 a) (some (Value.int IntKind.i64 b)),
     KeyFit Tryz.prog (3 : Nat) nx (Value.int IntKind.i64 a)])
    (h2 : Rounds Tryz.prog (bodyOf (loopAt Tryz.f91 (1 : Nat))) m (st 93 [AV.any, AV.any, AV.any, AV.any, AV.v (Value.slice none 0 0), bv (false), AV.mp (0 : Nat), iv (fi), AV.any, AV.any, AV.any, AV.any, AV.any, AV.own 1, iv (b)]) [some (AObj.map false nx), some (AObj.row false 3 1 (List.map (ren [(0 : Nat), (3 : Nat)] (9 : Nat)) (xs ++ [iv (a)])))] ex T2 H2) :
    Rounds Tryz.prog (bodyOf (loopAt Tryz.f91 (1 : Nat))) (m + 1) (st 93 [AV.any, AV.any, AV.any, AV.any, AV.v (Value.slice none 0 0), bv (false), AV.mp (0 : Nat), iv (fi), AV.any, AV.any, AV.any, AV.any, AV.any, AV.own 1, iv (a)]) [some (AObj.map false nx), some (AObj.row false 3 1 xs)] ex T2 H2 :=
  Rounds.step_of fits hmix [Orc.b true, Orc.m (some (Value.int IntKind.i64 b)), Orc.b false, Orc.b false, Orc.b false, Orc.b false, Orc.b false, Orc.b false, Orc.b false, Orc.b false, Orc.b false, Orc.b false, Orc.b false, Orc.m (some (Value.int IntKind.i64 b))] (15 : Nat) [(0 : Nat), (3 : Nat)] (by kernel_rfl) h h2
theorem cy_end_out (nx : List (Value × Value)) (xs : List AV) (fi : Int) (a : Int) (m : Nat) (h : AllP
    [decide ((↑(List.length xs) : Int) < (↑(List.length nx) : Int)) = false]) :
    Rounds Tryz.prog (bodyOf (loopAt Tryz.f91 (1 : Nat))) (m + 1) (st 93 [AV.any, AV.any, AV.any, AV.any, AV.v (Value.slice none 0 0), bv (false), AV.mp (0 : Nat), iv (fi), AV.any, AV.any, AV.any, AV.any, AV.any, AV.own 1, iv (a)]) [some (AObj.map false nx), some (AObj.row false 3 1 xs)] (Ex.exit (2 : Nat)) (st 93 [AV.any, AV.any, AV.any, AV.any, AV.v (Value.slice none 0 0), bv (false), AV.mp (0 : Nat), iv (fi), AV.any, AV.any, AV.any, AV.any, AV.any, AV.own 1, iv (a)]) [some (AObj.map false nx), some (AObj.row false 3 1 (List.map (ren [(0 : Nat), (1 : Nat)] (9 : Nat)) xs))] :=
  Rounds.out_of fits hmix [Orc.b false] (15 : Nat) [(0 : Nat), (1 : Nat)] m (by simp) (by kernel_rfl) h
end Go.Flow.Tryz
namespace Go.Flow.Tryz
open Go Go.Proofs Go.RowKit Go.Flow
set_option maxRecDepth 100000
abbrev PM := List ((Int × Int) × Int)
def isBorder (m : PM) (e : (Int × Int) × Int) : Bool := !(m.any fun q => q.1 == (e.1.2, e.1.1))
def encN (nx : List (Int × Int)) : List (Value × Value) := nx.map fun p => (.int .i64 p.1, .int .i64 p.2)
def decE (v : Value × Value) : (Int × Int) × Int := match v with
  | (.agg cs, .int _ i) => match cs.toList with
    | [.int _ x, .int _ y] => ((x, y), i)
    | _ => ((0, 0), 0)
  | _ => ((0, 0), 0)
theorem dec_enc (e : (Int × Int) × Int) : decE (oKey e.1.1 e.1.2, .int .i64 e.2) = e := rfl
theorem dec_encM (m : PM) : (encM m).map decE = m := by
  unfold encM
  rw [List.map_map]
  induction m with
  | nil => rfl
  | cons e m ih => rw [List.map_cons, ih]; rfl
def nxP (m d : PM) : List (Int × Int) := ((d.filter (isBorder m)).map (·.1)).reverse
def stepF (fi x : Int) : Int := if fi < 0 ∨ x < fi then x else fi
def fiP (m d : PM) : Int := ((d.filter (isBorder m)).map (·.1.1)).foldl stepF (-1)
theorem nxP_push (m d : PM) (e : (Int × Int) × Int) : nxP m (d ++ [e]) = if isBorder m e then e.1 :: nxP m d else nxP m d := by
  unfold nxP
  rw [List.filter_append]
  by_cases h : isBorder m e = true
  · simp [h]
  · simp [h]
theorem fiP_push (m d : PM) (e : (Int × Int) × Int) : fiP m (d ++ [e]) = if isBorder m e then stepF (fiP m d) e.1.1 else fiP m d := by
  unfold fiP
  rw [List.filter_append]
  by_cases h : isBorder m e = true
  · simp [h]
  · simp [h]
abbrev uF (es : List (Value × Value)) (fi : Int) : List AV := st 93 [.any, .mv es, .any, .any, .v (.slice none 0 0), bv false, .mp 0, iv fi]
def uR0 (fn : Func) : Code := codeL (codeOf fn)
def uR1 (fn : Func) : Code := codeL (codeR (codeOf fn))
def uR2 (fn : Func) : Code := codeL (codeR (codeR (codeOf fn)))
def uML (fn : Func) : Code := codeL (codeR (codeR (codeR (codeOf fn))))
def uR14 (fn : Func) : Code := codeL (codeR (codeR (codeR (codeR (codeOf fn)))))
def uL2 (fn : Func) : Code := codeL (codeR (codeR (codeR (codeR (codeR (codeOf fn))))))
def uTail (fn : Func) : Code := codeR (codeR (codeR (codeR (codeR (codeR (codeOf fn))))))
def uo1 (fn : Func) : Array Oper := codeOps (codeL (uML fn))
def ubody (fn : Func) : Code := codeL (codeL (codeR (uML fn)))
def uo2 (fn : Func) : Array Oper := codeOps (codeL (ubody fn))
def ucnd (fn : Func) : Code := codeL (codeR (ubody fn))
def uo3 (fn : Func) : Array Oper := codeOps (codeL (codeL (codeR (codeR (ubody fn)))))
def urest (fn : Func) : Code := codeR (codeL (codeR (codeR (bodyOf (loopAt fn 0)))))
def opAt (ops : Array Oper) (i : Nat) : Oper := (ops.toList[i]?).getD default
theorem u_body : Tryz.f91.body = some (.seq (uR0 Tryz.f91) (.seq (uR1 Tryz.f91) (.seq (uR2 Tryz.f91) (.seq (uML Tryz.f91) (.seq (uR14 Tryz.f91) (.seq (uL2 Tryz.f91) (uTail Tryz.f91))))))) := by kernel_rfl
theorem u_ml : uML Tryz.f91 = .seq (.region 3 (uo1 Tryz.f91) false) (.block 0 (.loop (.seq (.region 4 (uo2 Tryz.f91) false) (.seq (ucnd Tryz.f91) (.block 1 (.seq (.region 5 (uo3 Tryz.f91) false) (urest Tryz.f91))))))) := by kernel_rfl
theorem u_o1 : (uo1 Tryz.f91).toList = [opAt (uo1 Tryz.f91) 0, opAt (uo1 Tryz.f91) 1] := by kernel_rfl
theorem u_o2 : (uo2 Tryz.f91).toList = [opAt (uo2 Tryz.f91) 0, opAt (uo2 Tryz.f91) 1] := by kernel_rfl
theorem u_o3 : (uo3 Tryz.f91).toList = opAt (uo3 Tryz.f91) 0 :: (uo3 Tryz.f91).toList.drop 1 := by kernel_rfl
theorem u_rg : (opAt (uo1 Tryz.f91) 1).op = .range 123 (.tmp 18) ∧ (opAt (uo1 Tryz.f91) 1).guard = none ∧ (opAt (uo1 Tryz.f91) 1).dst = some 19 := ⟨by kernel_rfl, by kernel_rfl, by kernel_rfl⟩
theorem u_nx : (opAt (uo2 Tryz.f91) 0).op = .next (.tmp 19) false ∧ (opAt (uo2 Tryz.f91) 0).guard = none ∧ (opAt (uo2 Tryz.f91) 0).dst = some 20 := ⟨by kernel_rfl, by kernel_rfl, by kernel_rfl⟩
theorem u_en : (opAt (uo3 Tryz.f91) 0).op = .entry (.tmp 19) ∧ (opAt (uo3 Tryz.f91) 0).guard = none ∧ (opAt (uo3 Tryz.f91) 0).dst = some 22 := ⟨by kernel_rfl, by kernel_rfl, by kernel_rfl⟩
theorem u123 : Tryz.prog.underlying 123 = some (.map 25 3) := by kernel_rfl
theorem u_mv (es : List (Value × Value)) (fi : Int) (H : Heap) : opsA Tryz.prog tab (uo1 Tryz.f91) [opAt (uo1 Tryz.f91) 0] (uF es fi) H [] [] = .ok ((uF es fi).set 18 (.mv es)) H [] [] [] := by kernel_rfl
theorem u_ex0 (es : List (Value × Value)) (fi : Int) (l : Nat) (H : Heap) : opsA Tryz.prog tab (uo2 Tryz.f91) [opAt (uo2 Tryz.f91) 1] (((uF es fi).set 19 (pv l)).set 20 (.tup [bv false])) H [] [] = .ok ((((uF es fi).set 19 (pv l)).set 20 (.tup [bv false])).set 21 (bv false)) H [] [] [] := by kernel_rfl
theorem u_ex1 (es : List (Value × Value)) (fi : Int) (x y : Value) (l : Nat) (H : Heap) : opsA Tryz.prog tab (uo2 Tryz.f91) [opAt (uo2 Tryz.f91) 1] (((uF es fi).set 19 (pv l)).set 20 (.tup [bv true, .v x, .v y])) H [] [] = .ok ((((uF es fi).set 19 (pv l)).set 20 (.tup [bv true, .v x, .v y])).set 21 (bv true)) H [] [] [] := by kernel_rfl
theorem u_c0 (es : List (Value × Value)) (fi : Int) (l : Nat) (H : Heap) : (evC Tryz.prog tab (ucnd Tryz.f91) ((((uF es fi).set 19 (pv l)).set 20 (.tup [bv false])).set 21 (bv false)) H [.b false] []).cut 8 = some (.exit 0, uF es fi, H, [false = false]) := by kernel_rfl
theorem u_c1 (es : List (Value × Value)) (fi : Int) (x y : Value) (l : Nat) (H : Heap) : (evC Tryz.prog tab (ucnd Tryz.f91) ((((uF es fi).set 19 (pv l)).set 20 (.tup [bv true, .v x, .v y])).set 21 (bv true)) H [.b true] []).cut 20 = some (.normal, (uF es fi).set 19 (pv l), H, [true = true]) := by kernel_rfl
theorem u_ent (es nx : List (Value × Value)) (fi x y : Int) (i : Value) (l bm : Nat) (seen : Array Nat) (arr : Array MapEntry) (clock : Nat) : opsA Tryz.prog tab (uo3 Tryz.f91) ((uo3 Tryz.f91).toList.drop 1) (((uF es fi).set 19 (pv l)).set 22 (.tup [.agg [iv x, iv y], .v i])) ([some (.map false nx)] ++ itH l bm seen arr clock) [] [] =
    .ok (((((uF es fi).set 19 (pv l)).set 22 (.tup [.agg [iv x, iv y], .v i])).set 23 (.agg [iv x, iv y])).set 8 (.op 3 0)) ([some (.map false nx)] ++ itH l bm seen arr clock ++ [some (.box false 25 [iv x, iv y])]) [] [] [] := by kernel_rfl
theorem rep_key {E : Env} {x y : Int} {i : Value} {u : Value} (h : Rep E (.tup [.v (oKey x y), .v i]) u) : Rep E (.tup [.agg [iv x, iv y], .v i]) u := by
  obtain ⟨us, rfl, hl⟩ := h.inv_tup
  cases hl with
  | cons _ u0 _ us0 h0 hl =>
    rw [h0.inv_v]
    exact .tup _ _ (.cons _ _ _ _ (.agg [iv x, iv y] [.int .i64 x, .int .i64 y] (.cons _ _ _ _ (.v _) (.cons _ _ _ _ (.v _) .nil))) hl)
theorem u_key (es nx : List (Value × Value)) (fi x y : Int) (i : Value) (l bm : Nat) (seen : Array Nat) (arr : Array MapEntry) (clock : Nat) : OpsGo Tryz.prog (uo3 Tryz.f91) ((uo3 Tryz.f91).toList.drop 1) (((uF es fi).set 19 (pv l)).set 22 (.tup [.v (oKey x y), .v i])) ([some (.map false nx)] ++ itH l bm seen arr clock)
    (((((uF es fi).set 19 (pv l)).set 22 (.tup [.agg [iv x, iv y], .v i])).set 23 (.agg [iv x, iv y])).set 8 (.op 3 0)) ([some (.map false nx)] ++ itH l bm seen arr clock ++ [some (.box false 25 [iv x, iv y])]) :=
  OpsGo.same (Same.slot 22 (x := .tup [.v (oKey x y), .v i]) (y := .tup [.agg [iv x, iv y], .v i]) rfl fun _ _ => rep_key) (OpsGo.of fits (u_ent es nx fi x y i l bm seen arr clock) (by kernel_rfl) AllP.nil)
end Go.Flow.Tryz
namespace Go.Flow.Tryz
open Go Go.Proofs Go.RowKit Go.Flow
set_option maxRecDepth 100000
theorem goes_from {P : Program} {c : Code} {T T1 T' : List AV} {H H' : Heap} {ex : Ex} (e : T1 = T) (g : Goes P c T1 H ex T' H') : Goes P c T H ex T' H' := e ▸ g
def starts (m : PM) : List Int := (m.filter (isBorder m)).map (·.1.1)
theorem fold_min {c0 : Int} : ∀ (L : List Int) (fi : Int), (fi < 0 ∨ c0 ≤ fi) → (∀ x ∈ L, 0 ≤ x ∧ c0 ≤ x) → 0 ≤ c0 → (c0 ∈ L ∨ fi = c0) → L.foldl stepF fi = c0
  | [], fi, _, _, _, h => by
    rcases h with h | h
    · exact absurd h (by simp)
    · exact h
  | x :: L, fi, hf, hx, h0, h => by
    rw [List.foldl_cons]
    have hx0 := hx x (by simp)
    refine fold_min L _ ?_ (fun y hy => hx y (by simp [hy])) h0 ?_
    · unfold stepF; split <;> omega
    · rcases h with h | h
      · rcases List.mem_cons.1 h with h | h
        · right; unfold stepF; split <;> omega
        · exact .inl h
      · right; unfold stepF; split <;> omega
theorem found_encN {nx : List (Int × Int)} {x : Int} (h : x ∉ nx.map (·.1)) : Found (encN nx) (.int .i64 x) none := by
  intro p hp e
  obtain ⟨q, hq, rfl⟩ := List.mem_map.1 hp
  have e : (Value.int .i64 q.1) = .int .i64 x := e
  simp at e
  exact h (List.mem_map.2 ⟨q, hq, e⟩)
theorem fit_encN {nx : List (Int × Int)} {x : Int} (hx : inR x) (hm : ∀ e ∈ nx, inR e.1) : KeyFit Tryz.prog 3 (encN nx) (.int .i64 x) :=
  ⟨keyed3, key3 hx, fun p hp => by
    obtain ⟨q, hq, rfl⟩ := List.mem_map.1 hp
    exact key3 (hm q hq)⟩
theorem not_border {m : PM} {e : (Int × Int) × Int} (h : isBorder m e = false) : ∃ i, ((e.1.2, e.1.1), i) ∈ m := by
  simp only [isBorder, Bool.not_eq_false', List.any_eq_true, beq_iff_eq] at h
  obtain ⟨q, hq, h⟩ := h
  exact ⟨q.2, by rw [← h]; exact hq⟩
theorem border_not {m : PM} {e : (Int × Int) × Int} (h : isBorder m e = true) : (e.1.2, e.1.1) ∉ m.map (·.1) := by
  intro hm
  obtain ⟨q, hq, h2⟩ := List.mem_map.1 hm
  simp only [isBorder, Bool.not_eq_true', List.any_eq_false] at h
  exact h q hq (by simpa using h2)
abbrev uMask : List Bool := [false, true, false, false, true, true, true, true] ++ List.replicate 11 false ++ [true]
theorem u_round (m : PM) (hin : ∀ e ∈ m, inR e.1.1 ∧ inR e.1.2) (hst : (starts m).Nodup) (d left : PM) (e : (Int × Int) × Int) (hp : (d ++ e :: left).Perm m) (l bm : Nat) (seen : Array Nat) (arr : Array MapEntry) (clock : Nat) :
    ∃ ex, (ex = .normal ∨ ex = .exit 1) ∧ Goes Tryz.prog (urest Tryz.f91) (((((uF (encM m) (fiP m d)).set 19 (pv l)).set 22 (.tup [.agg [iv e.1.1, iv e.1.2], .v (.int .i64 e.2)])).set 23 (.agg [iv e.1.1, iv e.1.2])).set 8 (.op 3 0)) ([some (.map false (encN (nxP m d)))] ++ itH l bm seen arr clock ++ [some (.box false 25 [iv e.1.1, iv e.1.2])]) ex
      ((uF (encM m) (fiP m (d ++ [e]))).set 19 (pv l)) ([some (.map false (encN (nxP m (d ++ [e]))))] ++ itH l bm seen arr clock) := by
  have hem : e ∈ m := hp.mem_iff.1 (by simp)
  have hdm : ∀ q ∈ d, q ∈ m := fun q hq => hp.mem_iff.1 (by simp [hq])
  obtain ⟨hx, hy⟩ := hin e hem
  have kf := fit_enc (m := m) hy hx hin
  have hnin : ∀ q ∈ nxP m d, inR q.1 := by
    intro q hq
    simp only [nxP, List.mem_reverse, List.mem_map] at hq
    obtain ⟨r, hr, rfl⟩ := hq
    exact (hin r (hdm r (List.mem_filter.1 hr).1)).1
  have kn := fit_encN hx hnin
  cases hb : isBorder m e with
  | false =>
    rw [nxP_push, fiP_push, hb]
    simp only [Bool.false_eq_true, if_false]
    obtain ⟨i, hi⟩ := not_border hb
    refine ⟨.exit 1, .inr rfl, Goes.same (Goes.keep 20 (goes_from (by kernel_rfl) (go_uin (encM m) (encN (nxP m d)) (fiP m d) l (some l) (.mapIter (some bm) clock seen clock) [.map (some bm)] arr clock e.1.1 e.1.2 i ?_))) (same_cast (Same.mask uMask) (by kernel_rfl) rfl)⟩
    exact ⟨by decide, by decide, List.mem_map.2 ⟨_, hi, rfl⟩, kf, rfl, trivial⟩
  | true =>
    rw [nxP_push, fiP_push, hb]
    simp only [if_true]
    have hfe := found_enc (border_not hb)
    have hsn : e.1.1 ∉ (nxP m d).map (·.1) := by
      have h1 : (((d ++ e :: left).filter (isBorder m)).map (·.1.1)).Nodup := ((hp.filter _).map _).nodup_iff.2 hst
      rw [List.filter_append, List.filter_cons_of_pos hb, List.map_append, List.map_cons, List.nodup_append] at h1
      intro h
      have h2 : e.1.1 ∈ (d.filter (isBorder m)).map (·.1.1) := by
        simp only [nxP, List.map_reverse, List.mem_reverse, List.map_map] at h
        exact h
      exact h1.2.2 _ h2 _ (by simp) rfl
    have hfn := found_encN hsn
    by_cases h1 : fiP m d < 0
    · rw [show stepF (fiP m d) e.1.1 = e.1.1 by unfold stepF; rw [if_pos (.inl h1)]]
      refine ⟨.normal, .inl rfl, Goes.same (Goes.keep 20 (goes_from (by kernel_rfl) (go_ub1 (encM m) (encN (nxP m d)) (fiP m d) l (some l) (.mapIter (some bm) clock seen clock) [.map (some bm)] arr clock e.1.1 e.1.2 ?_))) (same_cast (Same.mask uMask) (by kernel_rfl) rfl)⟩
      repeat' first | exact AllP.nil | refine AllP.cons ?_ ?_
      all_goals first | decide | exact hfe | exact kf | exact hfn | exact kn | rfl | exact decide_eq_true h1
    · by_cases h2 : e.1.1 < fiP m d
      · rw [show stepF (fiP m d) e.1.1 = e.1.1 by unfold stepF; rw [if_pos (.inr h2)]]
        refine ⟨.normal, .inl rfl, Goes.same (Goes.keep 20 (goes_from (by kernel_rfl) (go_ub2 (encM m) (encN (nxP m d)) (fiP m d) l (some l) (.mapIter (some bm) clock seen clock) [.map (some bm)] arr clock e.1.1 e.1.2 ?_))) (same_cast (Same.mask uMask) (by kernel_rfl) rfl)⟩
        repeat' first | exact AllP.nil | refine AllP.cons ?_ ?_
        all_goals first | decide | exact hfe | exact kf | exact hfn | exact kn | rfl | exact decide_eq_false h1 | exact decide_eq_true h2
      · rw [show stepF (fiP m d) e.1.1 = fiP m d by unfold stepF; rw [if_neg (by rintro (h | h) <;> contradiction)]]
        refine ⟨.normal, .inl rfl, Goes.same (Goes.keep 20 (goes_from (by kernel_rfl) (go_ub3 (encM m) (encN (nxP m d)) (fiP m d) l (some l) (.mapIter (some bm) clock seen clock) [.map (some bm)] arr clock e.1.1 e.1.2 ?_))) (same_cast (Same.mask uMask) (by kernel_rfl) rfl)⟩
        repeat' first | exact AllP.nil | refine AllP.cons ?_ ?_
        all_goals first | decide | exact hfe | exact kf | exact hfn | exact kn | rfl | exact decide_eq_false h1 | exact decide_eq_false h2
abbrev vF (fi : Int) : List AV := st 93 [.any, .any, .any, .any, .v (.slice none 0 0), bv false, .mp 0, iv fi]
theorem u_range (m : PM) (hin : ∀ e ∈ m, inR e.1.1 ∧ inR e.1.2) (hst : (starts m).Nodup) {nx : List (Int × Int)} (hnx : ((m.filter (isBorder m)).map (·.1)).Perm nx) {c0 : Int} (hc : c0 ∈ starts m) (hmin : ∀ x ∈ starts m, c0 ≤ x) :
    Goes Tryz.prog (uML Tryz.f91) (uF (encM m) (-1)) [some (.map false [])] .normal (vF c0) [some (.map false (encN nx))] := by
  rw [u_ml]
  refine goes_rangemap (m := 18) (it := 19) (d1 := 20) (d2 := 22) (f := fun d => uF (encM m) (fiP m (d.map decE))) (Hf := fun d => [some (.map false (encN (nxP m (d.map decE))))]) u_o1 u_o2 u_o3 u_rg u_nx u_en u123
    (OpsGo.of fits (u_mv (encM m) (-1) _) (by kernel_rfl) AllP.nil) rfl ?_ (fun _ _ => rfl)
    (fun d l H => ⟨_, OpsGo.of fits (u_ex0 _ _ l H) (by kernel_rfl) AllP.nil, Goes.cut fits hmix (u_c0 _ _ l H) ⟨rfl, trivial⟩⟩)
    (fun d x y l H => ⟨_, OpsGo.of fits (u_ex1 _ _ x y l H) (by kernel_rfl) AllP.nil, Goes.cut fits hmix (u_c1 _ _ x y l H) ⟨rfl, trivial⟩⟩) ?_ ?_
  · intro l H
    exact same_cast (Same.mask ([false, true, false, false, true, true, true, true] ++ List.replicate 11 false ++ [true])) (by kernel_rfl) rfl
  · intro d x left hp l bm seen arr clock
    have hx : x ∈ encM m := hp.mem_iff.1 (by simp)
    obtain ⟨e, he, rfl⟩ := List.mem_map.1 hx
    have hp' : (d.map decE ++ e :: left.map decE).Perm m := by
      have := hp.map decE
      rw [dec_encM] at this
      simpa [dec_enc] using this
    obtain ⟨ex, hex, hg⟩ := u_round m hin hst (d.map decE) (left.map decE) e hp' l bm seen arr clock
    refine ⟨_, _, ex, hex, u_key (encM m) (encN (nxP m (d.map decE))) (fiP m (d.map decE)) e.1.1 e.1.2 (.int .i64 e.2) l bm seen arr clock, ?_⟩
    have hd : (d ++ [(oKey e.1.1 e.1.2, Value.int .i64 e.2)]).map decE = d.map decE ++ [e] := by simp [dec_enc]
    show Goes _ _ _ _ _ ((uF (encM m) (fiP m ((d ++ [(oKey e.1.1 e.1.2, Value.int .i64 e.2)]).map decE))).set 19 (pv l)) ([some (.map false (encN (nxP m ((d ++ [(oKey e.1.1 e.1.2, Value.int .i64 e.2)]).map decE))))] ++ _)
    rw [hd]
    exact hg
  · intro d hp l bm seen arr clock
    have hp' : (d.map decE).Perm m := by
      have := hp.map decE
      rwa [dec_encM] at this
    have hfi : fiP m (d.map decE) = c0 := by
      have hs : ((d.map decE).filter (isBorder m)).map (·.1.1) |>.Perm (starts m) := (hp'.filter _).map _
      have hpos : ∀ x ∈ starts m, 0 ≤ x := fun x hx => by
        obtain ⟨q, hq, rfl⟩ := List.mem_map.1 hx
        exact (hin q (List.mem_filter.1 hq).1).1.1
      exact fold_min _ _ (.inl (by decide)) (fun x hx => ⟨hpos x (hs.mem_iff.1 hx), hmin x (hs.mem_iff.1 hx)⟩) (hpos c0 hc) (.inl (hs.mem_iff.2 hc))
    have hpn : (encN (nxP m (d.map decE))).Perm (encN nx) := by
      refine List.Perm.map _ ?_
      exact (List.reverse_perm _).trans (((hp'.filter _).map _).trans hnx)
    rw [hfi]
    have h1 := (Same.mask (T := uF (encM m) c0) (H := [some (.map false (encN (nxP m (d.map decE))))] ++ itH l bm seen arr clock) [false, false, false, false, true, true, true, true]).trans (Same.ren [0] (by kernel_rfl))
    have h2 := same_cast h1 (T1 := vF c0) (H1 := [some (.map false (encN (nxP m (d.map decE))))]) (by kernel_rfl) (by kernel_rfl)
    exact h2.trans (Same.perm 0 rfl hpn)
end Go.Flow.Tryz
namespace Go.Flow.Tryz
open Go Go.Proofs Go.RowKit Go.Flow
set_option maxRecDepth 100000
def hdOr (l : List Int) (c : Int) : Int := match l with
  | [] => c
  | b :: _ => b
def chain : List Int → Int → List (Int × Int)
  | [], _ => []
  | a :: l, c => (a, hdOr l c) :: chain l c
theorem chain_length (c : Int) : ∀ l, (chain l c).length = l.length
  | [] => rfl
  | _ :: l => by simp [chain, chain_length c l]
theorem chain_suffix (c : Int) : ∀ pre suf : List Int, ∀ p ∈ chain suf c, p ∈ chain (pre ++ suf) c
  | [], _, p, h => h
  | x :: pre, suf, p, h => by
    rw [List.cons_append, chain]
    exact List.mem_cons_of_mem _ (chain_suffix c pre suf p h)
theorem chain_fst (c : Int) : ∀ l, (chain l c).map (·.1) = l
  | [] => rfl
  | _ :: l => by simp [chain, chain_fst c l]
theorem ren_ivs (L : List Nat) (l : List Int) : (l.map fun x => iv x).map (ren L 9) = l.map fun x => iv x := by
  rw [List.map_map]
  exact List.map_congr_left fun _ _ => rfl
theorem lookL_ivs (H : Heap) (n : Nat) (l : List Int) : lookL (look H (n + 1)) (l.map fun x => iv x) = some (l.map fun x => iv x) := by
  induction l with
  | nil => rfl
  | cons x l ih =>
    show (match look H (n + 1) (iv x), lookL (look H (n + 1)) (l.map fun x => iv x) with | some y, some ys => some (y :: ys) | _, _ => none) = _
    rw [ih]
    rfl
abbrev wT0 (fi at' : Int) : List AV := st 93 [.any, .any, .any, .any, .v (.slice none 0 0), bv false, .mp 0, iv fi, .any, .any, .any, .any, .any, .v (.slice none 0 0), iv at']
abbrev wT (fi at' : Int) : List AV := st 93 [.any, .any, .any, .any, .v (.slice none 0 0), bv false, .mp 0, iv fi, .any, .any, .any, .any, .any, .own 1, iv at']
theorem found_in {nx : List (Int × Int)} {a b : Int} (h : (a, b) ∈ nx) : Found (encN nx) (.int .i64 a) (some (.int .i64 b)) := List.mem_map.2 ⟨(a, b), h, rfl⟩
theorem encN_length (nx : List (Int × Int)) : (encN nx).length = nx.length := by simp [encN]
theorem u_cycle (c0 : Int) (rest : List Int) (hnd : (c0 :: rest).Nodup) (hin : ∀ x ∈ c0 :: rest, inR x) (hl : (c0 :: rest).length ≤ 1000) :
    Goes Tryz.prog (loopAt Tryz.f91 1) (wT0 c0 c0) [some (.map false (encN (chain (c0 :: rest) c0)))] (.exit 2) (wT c0 c0) [some (.map false (encN (chain (c0 :: rest) c0))), some (.row false 3 1 ((c0 :: rest).map fun x => iv x))] := by
  have hfit : ∀ x ∈ c0 :: rest, KeyFit Tryz.prog 3 (encN (chain (c0 :: rest) c0)) (.int .i64 x) := fun x hx => fit_encN (hin x hx) fun e he => by
    have : e.1 ∈ (chain (c0 :: rest) c0).map (·.1) := List.mem_map.2 ⟨e, he, rfl⟩
    rw [chain_fst] at this
    exact hin _ this
  have key : ∀ (suf pre : List Int), c0 :: rest = pre ++ suf → pre ≠ [] → Rounds Tryz.prog (bodyOf (loopAt Tryz.f91 1)) (suf.length + 1) (wT c0 (hdOr suf c0)) [some (.map false (encN (chain (c0 :: rest) c0))), some (.row false 3 1 (pre.map fun x => iv x))] (.exit 2) (wT c0 c0)
      [some (.map false (encN (chain (c0 :: rest) c0))), some (.row false 3 1 ((c0 :: rest).map fun x => iv x))] := by
    intro suf
    induction suf with
    | nil =>
      intro pre hp _
      have := cy_end_out (encN (chain (c0 :: rest) c0)) (pre.map fun x => iv x) c0 c0 0 ⟨by rw [encN_length, chain_length, hp]; simp, trivial⟩
      rw [ren_ivs] at this
      rw [hp, List.append_nil] at this ⊢
      exact this
    | cons a suf ih =>
      intro pre hp hne
      have hac : a ≠ c0 := by
        intro h
        obtain ⟨p0, pre', rfl⟩ : ∃ p0 pre', pre = p0 :: pre' := by
          cases pre with
          | nil => exact absurd rfl hne
          | cons p0 pre' => exact ⟨p0, pre', rfl⟩
        rw [List.cons_append, List.cons.injEq] at hp
        rw [List.nodup_cons] at hnd
        exact hnd.1 (by rw [hp.2, ← h]; simp)
      have hmem : (a, hdOr suf c0) ∈ chain (c0 :: rest) c0 := by
        rw [hp]
        exact chain_suffix c0 pre (a :: suf) _ (by simp [chain])
      have hlen : (c0 :: rest).length = pre.length + (suf.length + 1) := by rw [hp]; simp
      have ham : a ∈ c0 :: rest := by rw [hp]; simp
      have h2 := ih (pre ++ [a]) (by rw [hp]; simp) (by simp)
      refine cy_next_step (encN (chain (c0 :: rest) c0)) (pre.map fun x => iv x) c0 a (hdOr suf c0) _ ?_ (by
        have e : (pre.map fun x => iv x) ++ [iv a] = (pre ++ [a]).map fun x => iv x := by simp
        rw [e, ren_ivs]
        exact h2)
      have hb : (a == c0) = false := by simpa using hac
      repeat' first | exact AllP.nil | refine AllP.cons ?_ ?_
      all_goals first | rfl | exact found_in hmem | exact hfit a ham | exact hb | skip
      · rw [encN_length, chain_length, hlen]; simp; omega
      · simp only [List.length_map]
        constructor
        · show pre.length + 1 ≤ 9223372036854775807; omega
        · show (pre.length + 1) * 8 ≤ 140737488355328; omega
  have hloop : loopAt Tryz.f91 1 = .loop (bodyOf (loopAt Tryz.f91 1)) := by kernel_rfl
  rw [hloop]
  refine Goes.loop (n := rest.length + 1 + 1) ?_
  refine cy_first_step (encN (chain (c0 :: rest) c0)) c0 c0 (hdOr rest c0) _ ?_ (key rest [c0] rfl (by simp))
  have hmem : (c0, hdOr rest c0) ∈ chain (c0 :: rest) c0 := by simp [chain]
  have hb : (c0 == c0) = true := by simp
  repeat' first | exact AllP.nil | refine AllP.cons ?_ ?_
  all_goals first | rfl | exact found_in hmem | exact hfit c0 (by simp) | exact hb | skip
  · rw [encN_length, chain_length]; simp <;> omega
  · decide
theorem u_r0 (ps ts : List AV) (es : List (Value × Value)) : (evC Tryz.prog tab (uR0 Tryz.f91) ([.agg [.lst 2 ps, .lst 3 ts], .mv es] ++ List.replicate 91 uu) [] [] []).cut 93 =
    some (.normal, [.agg [.lst 2 ps, .lst 3 ts], .mv es, .op 0 0, uu, .v (.slice none 0 0), bv false] ++ List.replicate 87 uu, [some (.box false 34 [.lst 2 ps, .lst 3 ts])], []) := by kernel_rfl
theorem u_r1 (x : AV) (es : List (Value × Value)) (b : Option AObj) : (evC Tryz.prog tab (uR1 Tryz.f91) ([x, .mv es, .op 0 0, uu, .v (.slice none 0 0), bv false] ++ List.replicate 87 uu) [b] [] []).cut 8 =
    some (.normal, st 93 [x, .mv es, .op 0 0, uu, .v (.slice none 0 0), bv false, .mp 1, uu], [b, some (.map false [])], []) := by kernel_rfl
theorem u_r2 (x : AV) (es : List (Value × Value)) (H : Heap) : (evC Tryz.prog tab (uR2 Tryz.f91) (st 93 [x, .mv es, .op 0 0, uu, .v (.slice none 0 0), bv false, .mp 1, uu]) H [] []).cut 8 =
    some (.normal, st 93 [x, .mv es, .op 0 0, uu, .v (.slice none 0 0), bv false, .mp 1, iv (-1)], H, []) := by kernel_rfl
theorem u_r14 (fi : Int) (H : Heap) : (evC Tryz.prog tab (uR14 Tryz.f91) (vF fi) H [] []).cut 14 =
    some (.normal, st 93 [.any, .any, .any, .any, .v (.slice none 0 0), bv false, .mp 0, iv fi, .any, .any, .any, .any, .any, .v (.slice none 0 0)], H, []) := by kernel_rfl
theorem u_r15 (fi : Int) (H : Heap) : (evC Tryz.prog tab (codeL (uL2 Tryz.f91)) (st 93 [.any, .any, .any, .any, .v (.slice none 0 0), bv false, .mp 0, iv fi, .any, .any, .any, .any, .any, .v (.slice none 0 0)]) H [] []).cut 15 = some (.normal, wT0 fi fi, H, []) := by kernel_rfl
theorem u_l2 : uL2 Tryz.f91 = .seq (codeL (uL2 Tryz.f91)) (.block 2 (loopAt Tryz.f91 1)) := by kernel_rfl
theorem u_tail (fi : Int) (o : Option AObj) (xs : List AV) : (evC Tryz.prog tab (uTail Tryz.f91) (wT fi fi) [o, some (.row false 3 1 xs)] [] []).cut 6 =
    some (.ret, st 93 [.any, .any, .any, .any, .own 1, bv (decide ((0 : Int) < xs.length))], [o, some (.row false 3 1 xs)], []) := by kernel_rfl
theorem u_res (b : Bool) (H : Heap) : resultsA tab (st 93 [.any, .any, .any, .any, .own 1, bv b]) H Tryz.f91.results.toList = some [.own 1, bv b] := by kernel_rfl
theorem outer_ok (ps ts : List AV) (m : PM) (hin : ∀ e ∈ m, inR e.1.1 ∧ inR e.1.2) {c0 : Int} {rest : List Int} (hnd : (c0 :: rest).Nodup) (hl : (c0 :: rest).length ≤ 1000) (hmin : ∀ x ∈ rest, c0 ≤ x)
    (hcyc : ((m.filter (isBorder m)).map (·.1)).Perm (chain (c0 :: rest) c0)) :
    CallsTo Tryz.prog 91 [.agg [.lst 2 ps, .lst 3 ts], .mv (encM m)] (.tup [.lst 1 ((c0 :: rest).map fun x => iv x), bv true]) := by
  have hst : (starts m).Perm (c0 :: rest) := by
    have := hcyc.map (·.1)
    rw [chain_fst, List.map_map] at this
    exact this
  have hinc : ∀ x ∈ c0 :: rest, inR x := fun x hx => by
    obtain ⟨q, hq, rfl⟩ := List.mem_map.1 (hst.mem_iff.2 hx)
    exact (hin q (List.mem_filter.1 hq).1).1
  have hr : bv (decide ((0 : Int) < ((c0 :: rest).map fun x => iv x).length)) = bv true := by
    rw [decide_eq_true (by simp <;> omega)]
  refine fn_goes fits Tryz.func91 (by kernel_rfl) u_body (ys := [.own 1, bv true]) (T := st 93 [.any, .any, .any, .any, .own 1, bv true]) (H := [some (.map false (encN (chain (c0 :: rest) c0))), some (.row false 3 1 ((c0 :: rest).map fun x => iv x))]) ?_ (u_res true _) ?_
  · have g1 : Goes Tryz.prog (uML Tryz.f91) (st 93 [.agg [.lst 2 ps, .lst 3 ts], .mv (encM m), .op 0 0, uu, .v (.slice none 0 0), bv false, .mp 1, iv (-1)]) [some (.box false 34 [.lst 2 ps, .lst 3 ts]), some (.map false [])] .normal (vF c0) [some (.map false (encN (chain (c0 :: rest) c0)))] := by
      have h1 := (Same.mask (T := st 93 [.agg [.lst 2 ps, .lst 3 ts], .mv (encM m), .op 0 0, uu, .v (.slice none 0 0), bv false, .mp 1, iv (-1)]) (H := [some (.box false 34 [.lst 2 ps, .lst 3 ts]), some (.map false [])]) [false, true, false, false, true, true, true, true]).trans (Same.ren [1] (by kernel_rfl))
      have h2 := same_cast h1 (T1 := uF (encM m) (-1)) (H1 := [some (.map false [])]) (by kernel_rfl) (by kernel_rfl)
      exact h2.goes (u_range m hin (hst.nodup_iff.2 hnd) hcyc (hst.mem_iff.2 (by simp)) fun x hx => by
        rcases List.mem_cons.1 (hst.mem_iff.1 hx) with h | h
        · omega
        · exact hmin x h)
    have g2 : Goes Tryz.prog (uL2 Tryz.f91) (st 93 [.any, .any, .any, .any, .v (.slice none 0 0), bv false, .mp 0, iv c0, .any, .any, .any, .any, .any, .v (.slice none 0 0)]) [some (.map false (encN (chain (c0 :: rest) c0)))] .normal (wT c0 c0) [some (.map false (encN (chain (c0 :: rest) c0))), some (.row false 3 1 ((c0 :: rest).map fun x => iv x))] := by
      rw [u_l2]
      exact Goes.seq (Goes.cut fits hmix (u_r15 c0 _) AllP.nil) (Goes.block_exit (u_cycle c0 rest hnd hinc hl))
    have g3 := Goes.cut fits hmix (u_tail c0 (some (.map false (encN (chain (c0 :: rest) c0)))) ((c0 :: rest).map fun x => iv x)) AllP.nil
    rw [hr] at g3
    exact Goes.seq (Goes.cut fits hmix (u_r0 ps ts (encM m)) AllP.nil) (Goes.seq (Goes.cut fits hmix (u_r1 _ (encM m) _) AllP.nil) (Goes.seq (Goes.cut fits hmix (u_r2 _ (encM m) _) AllP.nil) (Goes.seq g1 (Goes.seq (Goes.cut fits hmix (u_r14 c0 _) AllP.nil) (Goes.seq g2 g3)))))
  · show (match lookL (look _ 8) [.own 1, bv true] with | some ys => some (AV.tup ys) | none => none) = _
    have h1 : look [some (.map false (encN (chain (c0 :: rest) c0))), some (.row false 3 1 ((c0 :: rest).map fun x => iv x))] 8 (.own 1) = some (.lst 1 ((c0 :: rest).map fun x => iv x)) := by
      show (match lookL (look _ 7) ((c0 :: rest).map fun x => iv x) with | some ys => some (AV.lst 1 ys) | none => none) = _
      rw [lookL_ivs]
    show (match (match look _ 8 (.own 1), lookL (look _ 8) [bv true] with | some y, some ys => some (y :: ys) | _, _ => none) with | some ys => some (AV.tup ys) | none => none) = _
    rw [h1]
    rfl
end Go.Flow.Tryz
namespace Go.Flow.Tryz
open Go Go.Proofs Go.RowKit Go.Flow
set_option maxRecDepth 100000
theorem wh_end_out (ps : List (List Value)) (ts : List (List Value)) (es : List (Value × Value)) (us : List (Value × Value)) (len : Int) (i : Int) (m : Nat) (h : AllP
    [decide (i < len) = false]) :
    Rounds Tryz.prog (bodyOf (loopAt Tryz.f65 (0 : Nat))) (m + 1) (st 55 [AV.any, AV.op 0 0, bv (false), AV.mv es, bv (true), AV.mp (1 : Nat), AV.any, AV.any, AV.any, AV.any, AV.any, AV.any, AV.any, AV.any, AV.any, AV.any, AV.any, AV.any, AV.any, AV.any, AV.any, AV.ps 3 ts, iv (len), iv (i)]) [some (AObj.box false 34 [AV.ps 2 ps, AV.ps 3 ts]), some (AObj.map false us)] (Ex.exit (0 : Nat)) (st 55 [AV.any, AV.op 0 0, bv (false), AV.mv es, bv (true), AV.mp (1 : Nat), AV.any, AV.any, AV.any, AV.any, AV.any, AV.any, AV.any, AV.any, AV.any, AV.any, AV.any, AV.any, AV.any, AV.any, AV.any, AV.ps 3 ts, iv (len), iv (i)]) [some (AObj.box false 34 [AV.ps 2 ps, AV.ps 3 ts]), some (AObj.map false us)] :=
  Rounds.out_of fits hmix [Orc.b false] (24 : Nat) [(0 : Nat), (1 : Nat)] m (by simp) (by kernel_rfl) h
theorem wholef_ok (ps : List (List Value)) (ts : List (List Value)) (es : List (Value × Value)) (us : List (Value × Value)) (cy : List Value) (b : Bool) (h : AllP
    [CallsTo Tryz.prog (83 : Nat) [AV.agg [AV.ps 2 ps, AV.ps 3 ts]] (AV.tup [AV.mv es, bv (true)]),
     false = false,
     Goes Tryz.prog (loopAt Tryz.f65 (0 : Nat)) (st 55 [AV.agg [AV.ps 2 ps, AV.ps 3 ts], AV.op 0 0, bv (false), AV.mv es, bv (true), AV.mp (1 : Nat), uu, uu, uu, uu, uu, uu, AV.tup [AV.mv es, bv (true)], AV.agg [AV.ps 2 ps, AV.ps 3 ts], AV.tup [AV.mv es, bv (true)], AV.mv es, bv (true), bv (true), bv (false), AV.mp (1 : Nat), AV.op 0 1, AV.ps 3 ts, iv ((↑(List.length (List.map rowAV ts)) : Int)), iv 0]) [some (AObj.box false 34 [AV.ps 2 ps, AV.ps 3 ts]), some (AObj.map false [])] (Ex.exit (0 : Nat)) (st 55 [AV.any, AV.op 0 0, bv (false), AV.mv es, bv (true), AV.mp (1 : Nat), AV.any, AV.any, AV.any, AV.any, AV.any, AV.any, AV.any, AV.any, AV.any, AV.any, AV.any, AV.any, AV.any, AV.any, AV.any, AV.ps 3 ts, iv ((↑(List.length ts) : Int)), iv ((↑(List.length ts) : Int))]) [some (AObj.box false 34 [AV.ps 2 ps, AV.ps 3 ts]), some (AObj.map false us)],
     CallsTo Tryz.prog (91 : Nat) [AV.agg [AV.ps 2 ps, AV.ps 3 ts], AV.mv es] (AV.tup [AV.ls cy, bv (true)]),
     true = true,
     true = true,
     true = true,
     true = true,
     true = true,
     true = true,
     true = true,
     ((↑(List.length us) : Int) == (↑(List.length (List.map rowAV ps)) : Int)) = true,
     ((↑(List.length us) : Int) == (↑(List.length (List.map rowAV ps)) : Int)) = true,
     ((↑(List.length us) : Int) == (↑(List.length (List.map rowAV ps)) : Int)) = true,
     CallsTo Tryz.prog (114 : Nat) [AV.agg [AV.ps 2 ps, AV.ps 3 ts], AV.ls cy] (bv (b)),
     ((↑(List.length us) : Int) == (↑(List.length (List.map rowAV ps)) : Int)) = true]) :
    CallsTo Tryz.prog 65 [AV.agg [AV.ps 2 ps, AV.ps 3 ts]] (bv (b)) :=
  fn_ok fits hmix Tryz.func65 (by kernel_rfl)
    [Orc.a (AV.tup [AV.mv es, bv (true)]), Orc.b false, .s (24 : Nat) (Ex.exit (0 : Nat)) (st 55 [AV.any, AV.op 0 0, bv (false), AV.mv es, bv (true), AV.mp (1 : Nat), AV.any, AV.any, AV.any, AV.any, AV.any, AV.any, AV.any, AV.any, AV.any, AV.any, AV.any, AV.any, AV.any, AV.any, AV.any, AV.ps 3 ts, iv ((↑(List.length ts) : Int)), iv ((↑(List.length ts) : Int))]) [some (AObj.box false 34 [AV.ps 2 ps, AV.ps 3 ts]), some (AObj.map false us)], Orc.a (AV.tup [AV.ls cy, bv (true)]), Orc.b true, Orc.b true, Orc.b true, Orc.b true, Orc.b true, Orc.b true, Orc.b true, Orc.b true, Orc.b true, Orc.b true, Orc.a (bv (b)), Orc.b true] (by kernel_rfl) h
theorem ck_pt_step (ps : List (List Value)) (ts : List (List Value)) (us : List (Value × Value)) (x : List UInt8) (y : List UInt8) (len : Int) (i : Int) {ex : Ex} {T2 : List AV} {H2 : Heap} (m : Nat) (h : AllP
    [decide (i < len) = true,
     (0 : Int) ≤ i ∧ (List.map rowAV ps)[Int.toNat i]? = some (AV.agg [sv x, sv y]),
     CallsTo Tryz.prog (56 : Nat) [AV.agg [sv x, sv y]] (iv 0),
     false = false,
     Flow.Found us (Value.agg { toList := [Value.string (bstr x), Value.string (bstr y)] }) none,
     KeyFit Tryz.prog (24 : Nat) us (Value.agg { toList := [Value.string (bstr x), Value.string (bstr y)] }),
     false = false,
     Flow.Found us (Value.agg { toList := [Value.string (bstr x), Value.string (bstr y)] }) none,
     KeyFit Tryz.prog (24 : Nat) us (Value.agg { toList := [Value.string (bstr x), Value.string (bstr y)] }),
     IntKind.wrap IntKind.i64 (i + (1 : Int)) = i + (1 : Int)])
    (h2 : Rounds Tryz.prog (bodyOf (loopAt Tryz.f22 (0 : Nat))) m (st 105 [AV.any, AV.op 0 0, iv 0, AV.mp (1 : Nat), AV.any, AV.any, AV.any, AV.any, AV.any, AV.any, AV.any, AV.any, AV.any, AV.any, AV.any, AV.any, AV.any, AV.any, AV.any, AV.any, AV.any, AV.any, AV.any, AV.any, AV.any, AV.any, AV.any, AV.any, AV.any, AV.any, AV.ps 2 ps, iv (len), iv ((i + (1 : Int)))]) [some (AObj.box false 34 [AV.ps 2 ps, AV.ps 3 ts]), some (AObj.map false ((Value.agg { toList := [Value.string (bstr x), Value.string (bstr y)] }, Value.bool true) :: us))] ex T2 H2) :
    Rounds Tryz.prog (bodyOf (loopAt Tryz.f22 (0 : Nat))) (m + 1) (st 105 [AV.any, AV.op 0 0, iv 0, AV.mp (1 : Nat), AV.any, AV.any, AV.any, AV.any, AV.any, AV.any, AV.any, AV.any, AV.any, AV.any, AV.any, AV.any, AV.any, AV.any, AV.any, AV.any, AV.any, AV.any, AV.any, AV.any, AV.any, AV.any, AV.any, AV.any, AV.any, AV.any, AV.ps 2 ps, iv (len), iv (i)]) [some (AObj.box false 34 [AV.ps 2 ps, AV.ps 3 ts]), some (AObj.map false us)] ex T2 H2 :=
  Rounds.step_of fits hmix [Orc.b true, Orc.a (AV.agg [sv x, sv y]), Orc.a (iv 0), Orc.b false, Orc.m none, Orc.b false, Orc.m none] (33 : Nat) [(0 : Nat), (1 : Nat)] (by kernel_rfl) h h2
theorem ck_pend_out (ps : List (List Value)) (ts : List (List Value)) (us : List (Value × Value)) (len : Int) (i : Int) (m : Nat) (h : AllP
    [decide (i < len) = false]) :
    Rounds Tryz.prog (bodyOf (loopAt Tryz.f22 (0 : Nat))) (m + 1) (st 105 [AV.any, AV.op 0 0, iv 0, AV.mp (1 : Nat), AV.any, AV.any, AV.any, AV.any, AV.any, AV.any, AV.any, AV.any, AV.any, AV.any, AV.any, AV.any, AV.any, AV.any, AV.any, AV.any, AV.any, AV.any, AV.any, AV.any, AV.any, AV.any, AV.any, AV.any, AV.any, AV.any, AV.ps 2 ps, iv (len), iv (i)]) [some (AObj.box false 34 [AV.ps 2 ps, AV.ps 3 ts]), some (AObj.map false us)] (Ex.exit (1 : Nat)) (st 105 [AV.any, AV.op 0 0, iv 0, AV.any, AV.any, AV.any, AV.any, AV.any, AV.any, AV.any, AV.any, AV.any, AV.any, AV.any, AV.any, AV.any, AV.any, AV.any, AV.any, AV.any, AV.any, AV.any, AV.any, AV.any, AV.any, AV.any, AV.any, AV.any, AV.any, AV.any, AV.ps 2 ps, iv (len), iv (i)]) [some (AObj.box false 34 [AV.ps 2 ps, AV.ps 3 ts])] :=
  Rounds.out_of fits hmix [Orc.b false] (33 : Nat) [(0 : Nat)] m (by simp) (by kernel_rfl) h
theorem ck_tri_step (ps : List (List Value)) (ts : List (List Value)) (a : Int) (b : Int) (c : Int) (s : Int) (x0 : List UInt8) (y0 : List UInt8) (x1 : List UInt8) (y1 : List UInt8) (x2 : List UInt8) (y2 : List UInt8) (len : Int) (i : Int) {ex : Ex} {T2 : List AV} {H2 : Heap} (m : Nat) (h : AllP
    [decide (i < len) = true,
     (0 : Int) ≤ i ∧ (List.map rowAV ts)[Int.toNat i]? = some (AV.agg [iv (a), iv (b), iv (c)]),
     true = true,
     (0 : Int) ≤ (0 : Int) ∧ (0 : Int) < (↑(3 : Nat) : Int),
     decide (a < (0 : Int)) = false,
     decide (a < (0 : Int)) = false,
     decide (a < (0 : Int)) = false,
     decide (a < (0 : Int)) = false,
     decide (a < (0 : Int)) = false,
     decide (a < (0 : Int)) = false,
     decide (a ≥ (↑(List.length (List.map rowAV ps)) : Int)) = false,
     IntKind.wrap IntKind.i64 ((0 : Int) + (1 : Int)) = (0 : Int) + (1 : Int),
     true = true,
     (0 : Int) ≤ (0 : Int) + (1 : Int) ∧ (0 : Int) + (1 : Int) < (↑(3 : Nat) : Int),
     decide (b < (0 : Int)) = false,
     decide (b < (0 : Int)) = false,
     decide (b < (0 : Int)) = false,
     decide (b < (0 : Int)) = false,
     decide (b < (0 : Int)) = false,
     decide (b < (0 : Int)) = false,
     decide (b ≥ (↑(List.length (List.map rowAV ps)) : Int)) = false,
     IntKind.wrap IntKind.i64 ((0 : Int) + (1 : Int) + (1 : Int)) = (0 : Int) + (1 : Int) + (1 : Int),
     true = true,
     (0 : Int) ≤ (0 : Int) + (1 : Int) + (1 : Int) ∧ (0 : Int) + (1 : Int) + (1 : Int) < (↑(3 : Nat) : Int),
     decide (c < (0 : Int)) = false,
     decide (c < (0 : Int)) = false,
     decide (c < (0 : Int)) = false,
     decide (c < (0 : Int)) = false,
     decide (c < (0 : Int)) = false,
     decide (c < (0 : Int)) = false,
     decide (c ≥ (↑(List.length (List.map rowAV ps)) : Int)) = false,
     IntKind.wrap IntKind.i64 ((0 : Int) + (1 : Int) + (1 : Int) + (1 : Int)) = (0 : Int) + (1 : Int) + (1 : Int) + (1 : Int),
     false = false,
     (0 : Int) ≤ (0 : Int) ∧ (0 : Int) < (↑(3 : Nat) : Int),
     (0 : Int) ≤ a ∧ (List.map rowAV ps)[Int.toNat a]? = some (AV.agg [sv x0, sv y0]),
     (0 : Int) ≤ (1 : Int) ∧ (1 : Int) < (↑(3 : Nat) : Int),
     (0 : Int) ≤ b ∧ (List.map rowAV ps)[Int.toNat b]? = some (AV.agg [sv x1, sv y1]),
     (0 : Int) ≤ (2 : Int) ∧ (2 : Int) < (↑(3 : Nat) : Int),
     (0 : Int) ≤ c ∧ (List.map rowAV ps)[Int.toNat c]? = some (AV.agg [sv x2, sv y2]),
     CallsTo Tryz.prog (64 : Nat) [AV.agg [sv x0, sv y0], AV.agg [sv x1, sv y1], AV.agg [sv x2, sv y2]] (iv (s)),
     decide (s ≤ (0 : Int)) = false,
     IntKind.wrap IntKind.i64 (i + (1 : Int)) = i + (1 : Int)])
    (h2 : Rounds Tryz.prog (bodyOf (loopAt Tryz.f22 (1 : Nat))) m (st 105 [AV.any, AV.op 0 0, iv 0, AV.any, AV.any, AV.any, AV.any, AV.any, AV.any, iv (c), AV.any, AV.any, AV.any, AV.any, AV.any, AV.any, AV.any, AV.any, AV.any, AV.any, AV.any, AV.any, AV.any, AV.any, AV.any, AV.any, AV.any, AV.any, AV.any, AV.any, AV.any, AV.any, AV.any, AV.any, AV.any, AV.any, AV.any, AV.any, AV.any, AV.any, AV.any, AV.any, AV.any, AV.any, AV.any, AV.any, AV.ps 3 ts, iv (len), iv ((i + (1 : Int)))]) [some (AObj.box false 34 [AV.ps 2 ps, AV.ps 3 ts])] ex T2 H2) :
    Rounds Tryz.prog (bodyOf (loopAt Tryz.f22 (1 : Nat))) (m + 1) (st 105 [AV.any, AV.op 0 0, iv 0, AV.any, AV.any, AV.any, AV.any, AV.any, AV.any, AV.any, AV.any, AV.any, AV.any, AV.any, AV.any, AV.any, AV.any, AV.any, AV.any, AV.any, AV.any, AV.any, AV.any, AV.any, AV.any, AV.any, AV.any, AV.any, AV.any, AV.any, AV.any, AV.any, AV.any, AV.any, AV.any, AV.any, AV.any, AV.any, AV.any, AV.any, AV.any, AV.any, AV.any, AV.any, AV.any, AV.any, AV.ps 3 ts, iv (len), iv (i)]) [some (AObj.box false 34 [AV.ps 2 ps, AV.ps 3 ts])] ex T2 H2 :=
  Rounds.step_of fits hmix [Orc.b true, Orc.a (AV.agg [iv (a), iv (b), iv (c)]), Orc.u (4 : Nat), Orc.b true, Orc.b false, Orc.b false, Orc.b false, Orc.b false, Orc.b false, Orc.b false, Orc.b false, Orc.b true, Orc.b false, Orc.b false, Orc.b false, Orc.b false, Orc.b false, Orc.b false, Orc.b false, Orc.b true, Orc.b false, Orc.b false, Orc.b false, Orc.b false, Orc.b false, Orc.b false, Orc.b false, Orc.b false, Orc.a (AV.agg [sv x0, sv y0]), Orc.a (AV.agg [sv x1, sv y1]), Orc.a (AV.agg [sv x2, sv y2]), Orc.a (iv (s)), Orc.b false] (49 : Nat) [(0 : Nat)] (by kernel_rfl) h h2
theorem ck_tend_out (ps : List (List Value)) (ts : List (List Value)) (len : Int) (i : Int) (m : Nat) (h : AllP
    [decide (i < len) = false]) :
    Rounds Tryz.prog (bodyOf (loopAt Tryz.f22 (1 : Nat))) (m + 1) (st 105 [AV.any, AV.op 0 0, iv 0, AV.any, AV.any, AV.any, AV.any, AV.any, AV.any, AV.any, AV.any, AV.any, AV.any, AV.any, AV.any, AV.any, AV.any, AV.any, AV.any, AV.any, AV.any, AV.any, AV.any, AV.any, AV.any, AV.any, AV.any, AV.any, AV.any, AV.any, AV.any, AV.any, AV.any, AV.any, AV.any, AV.any, AV.any, AV.any, AV.any, AV.any, AV.any, AV.any, AV.any, AV.any, AV.any, AV.any, AV.ps 3 ts, iv (len), iv (i)]) [some (AObj.box false 34 [AV.ps 2 ps, AV.ps 3 ts])] (Ex.exit (3 : Nat)) (st 105 [AV.any, AV.op 0 0, iv 0, AV.any, AV.any, AV.any, AV.any, AV.any, AV.any, AV.any, AV.any, AV.any, AV.any, AV.any, AV.any, AV.any, AV.any, AV.any, AV.any, AV.any, AV.any, AV.any, AV.any, AV.any, AV.any, AV.any, AV.any, AV.any, AV.any, AV.any, AV.any, AV.any, AV.any, AV.any, AV.any, AV.any, AV.any, AV.any, AV.any, AV.any, AV.any, AV.any, AV.any, AV.any, AV.any, AV.any, AV.ps 3 ts, iv (len), iv (i)]) [some (AObj.box false 34 [AV.ps 2 ps, AV.ps 3 ts])] :=
  Rounds.out_of fits hmix [Orc.b false] (49 : Nat) [(0 : Nat)] m (by simp) (by kernel_rfl) h
theorem checkf_ok (ps : List (List Value)) (ts : List (List Value)) (h : AllP
    [((↑(List.length (List.map rowAV ts)) : Int) == (0 : Int)) = false,
     decide ((↑(List.length (List.map rowAV ts)) : Int) > (800 : Int)) = false,
     decide ((↑(List.length (List.map rowAV ts)) : Int) > (800 : Int)) = false,
     decide ((↑(List.length (List.map rowAV ts)) : Int) > (800 : Int)) = false,
     decide ((↑(List.length (List.map rowAV ts)) : Int) > (800 : Int)) = false,
     decide ((↑(List.length (List.map rowAV ts)) : Int) > (800 : Int)) = false,
     decide ((↑(List.length (List.map rowAV ps)) : Int) > (400 : Int)) = false,
     Goes Tryz.prog (loopAt Tryz.f22 (0 : Nat)) (st 105 [AV.agg [AV.ps 2 ps, AV.ps 3 ts], AV.op 0 0, iv 0, AV.mp (1 : Nat), uu, uu, uu, uu, uu, uu, uu, uu, bv (((↑(List.length (List.map rowAV ts)) : Int) == (0 : Int))), AV.op 0 1, AV.ps 3 ts, iv ((↑(List.length (List.map rowAV ts)) : Int)), bv (((↑(List.length (List.map rowAV ts)) : Int) == (0 : Int))), bv ((decide ((↑(List.length (List.map rowAV ps)) : Int) > (400 : Int)))), AV.op 0 1, AV.ps 3 ts, iv ((↑(List.length (List.map rowAV ts)) : Int)), bv ((decide ((↑(List.length (List.map rowAV ts)) : Int) > (800 : Int)))), bv ((decide ((↑(List.length (List.map rowAV ts)) : Int) > (800 : Int)))), AV.op 0 0, AV.ps 2 ps, iv ((↑(List.length (List.map rowAV ps)) : Int)), bv ((decide ((↑(List.length (List.map rowAV ps)) : Int) > (400 : Int)))), bv ((decide ((↑(List.length (List.map rowAV ps)) : Int) > (400 : Int)))), AV.mp (1 : Nat), AV.op 0 0, AV.ps 2 ps, iv ((↑(List.length (List.map rowAV ps)) : Int)), iv 0]) [some (AObj.box false 34 [AV.ps 2 ps, AV.ps 3 ts]), some (AObj.map false [])] (Ex.exit (1 : Nat)) (st 105 [AV.any, AV.op 0 0, iv 0, AV.any, AV.any, AV.any, AV.any, AV.any, AV.any, AV.any, AV.any, AV.any, AV.any, AV.any, AV.any, AV.any, AV.any, AV.any, AV.any, AV.any, AV.any, AV.any, AV.any, AV.any, AV.any, AV.any, AV.any, AV.any, AV.any, AV.any, AV.ps 2 ps, iv ((↑(List.length ps) : Int)), iv ((↑(List.length ps) : Int))]) [some (AObj.box false 34 [AV.ps 2 ps, AV.ps 3 ts])],
     Goes Tryz.prog (loopAt Tryz.f22 (1 : Nat)) (st 105 [AV.any, AV.op 0 0, iv 0, AV.any, AV.any, AV.any, AV.any, AV.any, AV.any, AV.any, AV.any, AV.any, AV.any, AV.any, AV.any, AV.any, AV.any, AV.any, AV.any, AV.any, AV.any, AV.any, AV.any, AV.any, AV.any, AV.any, AV.any, AV.any, AV.any, AV.any, AV.ps 2 ps, iv ((↑(List.length ps) : Int)), iv ((↑(List.length ps) : Int)), AV.any, AV.any, AV.any, AV.any, AV.any, AV.any, AV.any, AV.any, AV.any, AV.any, AV.any, AV.any, AV.op 0 1, AV.ps 3 ts, iv ((↑(List.length (List.map rowAV ts)) : Int)), iv 0]) [some (AObj.box false 34 [AV.ps 2 ps, AV.ps 3 ts])] (Ex.exit (3 : Nat)) (st 105 [AV.any, AV.op 0 0, iv 0, AV.any, AV.any, AV.any, AV.any, AV.any, AV.any, AV.any, AV.any, AV.any, AV.any, AV.any, AV.any, AV.any, AV.any, AV.any, AV.any, AV.any, AV.any, AV.any, AV.any, AV.any, AV.any, AV.any, AV.any, AV.any, AV.any, AV.any, AV.any, AV.any, AV.any, AV.any, AV.any, AV.any, AV.any, AV.any, AV.any, AV.any, AV.any, AV.any, AV.any, AV.any, AV.any, AV.any, AV.ps 3 ts, iv ((↑(List.length ts) : Int)), iv ((↑(List.length ts) : Int))]) [some (AObj.box false 34 [AV.ps 2 ps, AV.ps 3 ts])],
     CallsTo Tryz.prog (65 : Nat) [AV.agg [AV.ps 2 ps, AV.ps 3 ts]] (bv (true)),
     true = true]) :
    CallsTo Tryz.prog 22 [AV.agg [AV.ps 2 ps, AV.ps 3 ts]] (iv 0) :=
  fn_ok fits hmix Tryz.func22 (by kernel_rfl)
    [Orc.b false, Orc.b false, Orc.b false, Orc.b false, Orc.b false, Orc.b false, Orc.b false, .s (33 : Nat) (Ex.exit (1 : Nat)) (st 105 [AV.any, AV.op 0 0, iv 0, AV.any, AV.any, AV.any, AV.any, AV.any, AV.any, AV.any, AV.any, AV.any, AV.any, AV.any, AV.any, AV.any, AV.any, AV.any, AV.any, AV.any, AV.any, AV.any, AV.any, AV.any, AV.any, AV.any, AV.any, AV.any, AV.any, AV.any, AV.ps 2 ps, iv ((↑(List.length ps) : Int)), iv ((↑(List.length ps) : Int))]) [some (AObj.box false 34 [AV.ps 2 ps, AV.ps 3 ts])], .s (49 : Nat) (Ex.exit (3 : Nat)) (st 105 [AV.any, AV.op 0 0, iv 0, AV.any, AV.any, AV.any, AV.any, AV.any, AV.any, AV.any, AV.any, AV.any, AV.any, AV.any, AV.any, AV.any, AV.any, AV.any, AV.any, AV.any, AV.any, AV.any, AV.any, AV.any, AV.any, AV.any, AV.any, AV.any, AV.any, AV.any, AV.any, AV.any, AV.any, AV.any, AV.any, AV.any, AV.any, AV.any, AV.any, AV.any, AV.any, AV.any, AV.any, AV.any, AV.any, AV.any, AV.ps 3 ts, iv ((↑(List.length ts) : Int)), iv ((↑(List.length ts) : Int))]) [some (AObj.box false 34 [AV.ps 2 ps, AV.ps 3 ts])], Orc.a (bv (true)), Orc.b true] (by kernel_rfl) h
end Go.Flow.Tryz
namespace Go.Flow.Tryz
open Go Go.Proofs Go.RowKit Go.Flow
set_option maxRecDepth 100000
theorem once1_ok (ps : List (List Value)) (ts : List (List Value)) (cy : List Value) (i : Int) (n : Int) (k : Int) (x : List UInt8) (y : List UInt8) (h : AllP
    [n ≠ (0 : Int),
     (0 : Int) ≤ Int.tmod i n ∧ (List.map AV.v cy)[Int.toNat (Int.tmod i n)]? = some (iv (k)),
     (0 : Int) ≤ k ∧ (List.map rowAV ps)[Int.toNat k]? = some (AV.agg [sv x, sv y])]) :
    CallsTo Tryz.prog 139 [iv (i), AV.lp [AV.ps 2 ps, AV.ps 3 ts], AV.lp [AV.ls cy], AV.lp [iv (n)]] (AV.agg [sv x, sv y]) :=
  fn_ok fits hmix Tryz.func139 (by kernel_rfl)
    [Orc.a (iv (k)), Orc.a (AV.agg [sv x, sv y])] (by kernel_rfl) h
theorem once2_gt_ok (ps : List (List Value)) (ts : List (List Value)) (cy : List Value) (i : Int) (n : Int) (c : Int) (x0 : List UInt8) (y0 : List UInt8) (x1 : List UInt8) (y1 : List UInt8) (h : AllP
    [IntKind.wrap IntKind.i64 (i + (1 : Int)) = i + (1 : Int),
     CallsTo Tryz.prog (139 : Nat) [iv ((i + (1 : Int))), AV.lp [AV.ps 2 ps, AV.ps 3 ts], AV.lp [AV.ls cy], AV.lp [iv (n)]] (AV.agg [sv x1, sv y1]),
     CallsTo Tryz.prog (139 : Nat) [iv (i), AV.lp [AV.ps 2 ps, AV.ps 3 ts], AV.lp [AV.ls cy], AV.lp [iv (n)]] (AV.agg [sv x0, sv y0]),
     CallsTo Tryz.prog (14 : Nat) [sv y1, sv y0] (iv (c)),
     decide (c > (0 : Int)) = true,
     decide (c > (0 : Int)) = true,
     decide (c > (0 : Int)) = true,
     decide (c > (0 : Int)) = true,
     decide (c > (0 : Int)) = true]) :
    CallsTo Tryz.prog 140 [iv (i), AV.lp [AV.fn (139 : Nat) [AV.lp [AV.ps 2 ps, AV.ps 3 ts], AV.lp [AV.ls cy], AV.lp [iv (n)]]]] (bv (true)) :=
  fn_ok fits hmix Tryz.func140 (by kernel_rfl)
    [Orc.a (AV.agg [sv x1, sv y1]), Orc.a (AV.agg [sv x0, sv y0]), Orc.a (iv (c)), Orc.b true, Orc.b true, Orc.b true, Orc.b true, Orc.b true] (by kernel_rfl) h
theorem once2_lt_ok (ps : List (List Value)) (ts : List (List Value)) (cy : List Value) (i : Int) (n : Int) (c : Int) (x0 : List UInt8) (y0 : List UInt8) (x1 : List UInt8) (y1 : List UInt8) (h : AllP
    [IntKind.wrap IntKind.i64 (i + (1 : Int)) = i + (1 : Int),
     CallsTo Tryz.prog (139 : Nat) [iv ((i + (1 : Int))), AV.lp [AV.ps 2 ps, AV.ps 3 ts], AV.lp [AV.ls cy], AV.lp [iv (n)]] (AV.agg [sv x1, sv y1]),
     CallsTo Tryz.prog (139 : Nat) [iv (i), AV.lp [AV.ps 2 ps, AV.ps 3 ts], AV.lp [AV.ls cy], AV.lp [iv (n)]] (AV.agg [sv x0, sv y0]),
     CallsTo Tryz.prog (14 : Nat) [sv y1, sv y0] (iv (c)),
     decide (c > (0 : Int)) = false,
     decide (c > (0 : Int)) = false,
     decide (c > (0 : Int)) = false,
     (c == (0 : Int)) = false,
     (c == (0 : Int)) = false,
     (c == (0 : Int)) = false,
     (c == (0 : Int)) = false,
     (c == (0 : Int)) = false,
     (c == (0 : Int)) = false,
     (c == (0 : Int)) = false,
     (c == (0 : Int)) = false,
     (c == (0 : Int)) = false,
     (c == (0 : Int)) = false,
     (c == (0 : Int)) = false,
     decide (c > (0 : Int)) = false,
     (c == (0 : Int)) = false,
     decide (c > (0 : Int)) = false]) :
    CallsTo Tryz.prog 140 [iv (i), AV.lp [AV.fn (139 : Nat) [AV.lp [AV.ps 2 ps, AV.ps 3 ts], AV.lp [AV.ls cy], AV.lp [iv (n)]]]] (bv (false)) :=
  fn_ok fits hmix Tryz.func140 (by kernel_rfl)
    [Orc.a (AV.agg [sv x1, sv y1]), Orc.a (AV.agg [sv x0, sv y0]), Orc.a (iv (c)), Orc.b false, Orc.b false, Orc.b false, Orc.b false, Orc.b false, Orc.b false, Orc.b false, Orc.b false, Orc.b false, Orc.b false, Orc.b false, Orc.b false, Orc.b false, Orc.b false, Orc.b false, Orc.b false, Orc.b false] (by kernel_rfl) h
theorem once2_eq_ok (ps : List (List Value)) (ts : List (List Value)) (cy : List Value) (i : Int) (n : Int) (c : Int) (d : Int) (x0 : List UInt8) (y0 : List UInt8) (x1 : List UInt8) (y1 : List UInt8) (h : AllP
    [IntKind.wrap IntKind.i64 (i + (1 : Int)) = i + (1 : Int),
     CallsTo Tryz.prog (139 : Nat) [iv ((i + (1 : Int))), AV.lp [AV.ps 2 ps, AV.ps 3 ts], AV.lp [AV.ls cy], AV.lp [iv (n)]] (AV.agg [sv x1, sv y1]),
     CallsTo Tryz.prog (139 : Nat) [iv (i), AV.lp [AV.ps 2 ps, AV.ps 3 ts], AV.lp [AV.ls cy], AV.lp [iv (n)]] (AV.agg [sv x0, sv y0]),
     CallsTo Tryz.prog (14 : Nat) [sv y1, sv y0] (iv (c)),
     decide (c > (0 : Int)) = false,
     decide (c > (0 : Int)) = false,
     decide (c > (0 : Int)) = false,
     (c == (0 : Int)) = true,
     (c == (0 : Int)) = true,
     (c == (0 : Int)) = true,
     IntKind.wrap IntKind.i64 (i + (1 : Int)) = i + (1 : Int),
     (c == (0 : Int)) = true,
     CallsTo Tryz.prog (139 : Nat) [iv ((i + (1 : Int))), AV.lp [AV.ps 2 ps, AV.ps 3 ts], AV.lp [AV.ls cy], AV.lp [iv (n)]] (AV.agg [sv x1, sv y1]),
     (c == (0 : Int)) = true,
     (c == (0 : Int)) = true,
     (c == (0 : Int)) = true,
     (c == (0 : Int)) = true,
     CallsTo Tryz.prog (139 : Nat) [iv (i), AV.lp [AV.ps 2 ps, AV.ps 3 ts], AV.lp [AV.ls cy], AV.lp [iv (n)]] (AV.agg [sv x0, sv y0]),
     (c == (0 : Int)) = true,
     (c == (0 : Int)) = true,
     CallsTo Tryz.prog (14 : Nat) [sv x1, sv x0] (iv (d)),
     (c == (0 : Int)) = true,
     decide (c > (0 : Int)) = false,
     (c == (0 : Int)) = true,
     decide (c > (0 : Int)) = false]) :
    CallsTo Tryz.prog 140 [iv (i), AV.lp [AV.fn (139 : Nat) [AV.lp [AV.ps 2 ps, AV.ps 3 ts], AV.lp [AV.ls cy], AV.lp [iv (n)]]]] (bv ((decide (d > (0 : Int))))) :=
  fn_ok fits hmix Tryz.func140 (by kernel_rfl)
    [Orc.a (AV.agg [sv x1, sv y1]), Orc.a (AV.agg [sv x0, sv y0]), Orc.a (iv (c)), Orc.b false, Orc.b false, Orc.b false, Orc.b true, Orc.b true, Orc.b true, Orc.b true, Orc.a (AV.agg [sv x1, sv y1]), Orc.b true, Orc.b true, Orc.b true, Orc.b true, Orc.a (AV.agg [sv x0, sv y0]), Orc.b true, Orc.b true, Orc.a (iv (d)), Orc.b true, Orc.b false, Orc.b true, Orc.b false] (by kernel_rfl) h
theorem on_up_step (ps : List (List Value)) (ts : List (List Value)) (cy : List Value) (n : Int) (r : Int) (i : Int) (s : Int) (x0 : List UInt8) (y0 : List UInt8) (x1 : List UInt8) (y1 : List UInt8) (x2 : List UInt8) (y2 : List UInt8) {ex : Ex} {T2 : List AV} {H2 : Heap} (m : Nat) (h : AllP
    [decide (i < n) = true,
     CallsTo Tryz.prog (139 : Nat) [iv (i), AV.lp [AV.ps 2 ps, AV.ps 3 ts], AV.lp [AV.ls cy], AV.lp [iv (n)]] (AV.agg [sv x0, sv y0]),
     IntKind.wrap IntKind.i64 (i + (1 : Int)) = i + (1 : Int),
     CallsTo Tryz.prog (139 : Nat) [iv ((i + (1 : Int))), AV.lp [AV.ps 2 ps, AV.ps 3 ts], AV.lp [AV.ls cy], AV.lp [iv (n)]] (AV.agg [sv x1, sv y1]),
     IntKind.wrap IntKind.i64 (i + (2 : Int)) = i + (2 : Int),
     CallsTo Tryz.prog (139 : Nat) [iv ((i + (2 : Int))), AV.lp [AV.ps 2 ps, AV.ps 3 ts], AV.lp [AV.ls cy], AV.lp [iv (n)]] (AV.agg [sv x2, sv y2]),
     CallsTo Tryz.prog (64 : Nat) [AV.agg [sv x0, sv y0], AV.agg [sv x1, sv y1], AV.agg [sv x2, sv y2]] (iv (s)),
     decide (s < (0 : Int)) = false,
     CallsTo Tryz.prog (140 : Nat) [iv (i), AV.lp [AV.fn (139 : Nat) [AV.lp [AV.ps 2 ps, AV.ps 3 ts], AV.lp [AV.ls cy], AV.lp [iv (n)]]]] (bv (true)),
     false = false,
     false = false,
     false = false,
     false = false,
     false = false,
     false = false,
     IntKind.wrap IntKind.i64 (i + (1 : Int)) = i + (1 : Int)])
    (h2 : Rounds Tryz.prog (bodyOf (loopAt Tryz.f114 (0 : Nat))) m (st 46 [AV.any, AV.any, AV.op 0 0, AV.op 1 0, bv (false), AV.op 2 0, AV.op 3 0, AV.fn (140 : Nat) [AV.op 3 0], iv (r), iv (i), AV.any, AV.any, AV.any, AV.any, iv (n), iv ((i + (1 : Int)))]) [some (AObj.box false 34 [AV.ps 2 ps, AV.ps 3 ts]), some (AObj.box false 70 [AV.ls cy]), some (AObj.box false 3 [iv (n)]), some (AObj.box false 194 [AV.fn (139 : Nat) [AV.op 0 0, AV.op 1 0, AV.op 2 0]])] ex T2 H2) :
    Rounds Tryz.prog (bodyOf (loopAt Tryz.f114 (0 : Nat))) (m + 1) (st 46 [AV.any, AV.any, AV.op 0 0, AV.op 1 0, bv (false), AV.op 2 0, AV.op 3 0, AV.fn (140 : Nat) [AV.op 3 0], iv (r), AV.any, AV.any, AV.any, AV.any, AV.any, iv (n), iv (i)]) [some (AObj.box false 34 [AV.ps 2 ps, AV.ps 3 ts]), some (AObj.box false 70 [AV.ls cy]), some (AObj.box false 3 [iv (n)]), some (AObj.box false 194 [AV.fn (139 : Nat) [AV.op 0 0, AV.op 1 0, AV.op 2 0]])] ex T2 H2 :=
  Rounds.step_of fits hmix [Orc.b true, Orc.a (AV.agg [sv x0, sv y0]), Orc.a (AV.agg [sv x1, sv y1]), Orc.a (AV.agg [sv x2, sv y2]), Orc.a (iv (s)), Orc.b false, Orc.a (bv (true)), Orc.b false, Orc.b false, Orc.b false, Orc.b false, Orc.b false, Orc.b false] (16 : Nat) [(0 : Nat), (1 : Nat), (2 : Nat), (3 : Nat)] (by kernel_rfl) h h2
theorem on_dd_step (ps : List (List Value)) (ts : List (List Value)) (cy : List Value) (n : Int) (r : Int) (i : Int) (s : Int) (x0 : List UInt8) (y0 : List UInt8) (x1 : List UInt8) (y1 : List UInt8) (x2 : List UInt8) (y2 : List UInt8) {ex : Ex} {T2 : List AV} {H2 : Heap} (m : Nat) (h : AllP
    [decide (i < n) = true,
     CallsTo Tryz.prog (139 : Nat) [iv (i), AV.lp [AV.ps 2 ps, AV.ps 3 ts], AV.lp [AV.ls cy], AV.lp [iv (n)]] (AV.agg [sv x0, sv y0]),
     IntKind.wrap IntKind.i64 (i + (1 : Int)) = i + (1 : Int),
     CallsTo Tryz.prog (139 : Nat) [iv ((i + (1 : Int))), AV.lp [AV.ps 2 ps, AV.ps 3 ts], AV.lp [AV.ls cy], AV.lp [iv (n)]] (AV.agg [sv x1, sv y1]),
     IntKind.wrap IntKind.i64 (i + (2 : Int)) = i + (2 : Int),
     CallsTo Tryz.prog (139 : Nat) [iv ((i + (2 : Int))), AV.lp [AV.ps 2 ps, AV.ps 3 ts], AV.lp [AV.ls cy], AV.lp [iv (n)]] (AV.agg [sv x2, sv y2]),
     CallsTo Tryz.prog (64 : Nat) [AV.agg [sv x0, sv y0], AV.agg [sv x1, sv y1], AV.agg [sv x2, sv y2]] (iv (s)),
     decide (s < (0 : Int)) = false,
     CallsTo Tryz.prog (140 : Nat) [iv (i), AV.lp [AV.fn (139 : Nat) [AV.lp [AV.ps 2 ps, AV.ps 3 ts], AV.lp [AV.ls cy], AV.lp [iv (n)]]]] (bv (false)),
     true = true,
     true = true,
     true = true,
     IntKind.wrap IntKind.i64 (i + (1 : Int)) = i + (1 : Int),
     true = true,
     CallsTo Tryz.prog (140 : Nat) [iv ((i + (1 : Int))), AV.lp [AV.fn (139 : Nat) [AV.lp [AV.ps 2 ps, AV.ps 3 ts], AV.lp [AV.ls cy], AV.lp [iv (n)]]]] (bv (false)),
     true = true,
     false = false,
     IntKind.wrap IntKind.i64 (i + (1 : Int)) = i + (1 : Int)])
    (h2 : Rounds Tryz.prog (bodyOf (loopAt Tryz.f114 (0 : Nat))) m (st 46 [AV.any, AV.any, AV.op 0 0, AV.op 1 0, bv (false), AV.op 2 0, AV.op 3 0, AV.fn (140 : Nat) [AV.op 3 0], iv (r), iv (i), AV.any, AV.any, AV.any, AV.any, iv (n), iv ((i + (1 : Int)))]) [some (AObj.box false 34 [AV.ps 2 ps, AV.ps 3 ts]), some (AObj.box false 70 [AV.ls cy]), some (AObj.box false 3 [iv (n)]), some (AObj.box false 194 [AV.fn (139 : Nat) [AV.op 0 0, AV.op 1 0, AV.op 2 0]])] ex T2 H2) :
    Rounds Tryz.prog (bodyOf (loopAt Tryz.f114 (0 : Nat))) (m + 1) (st 46 [AV.any, AV.any, AV.op 0 0, AV.op 1 0, bv (false), AV.op 2 0, AV.op 3 0, AV.fn (140 : Nat) [AV.op 3 0], iv (r), AV.any, AV.any, AV.any, AV.any, AV.any, iv (n), iv (i)]) [some (AObj.box false 34 [AV.ps 2 ps, AV.ps 3 ts]), some (AObj.box false 70 [AV.ls cy]), some (AObj.box false 3 [iv (n)]), some (AObj.box false 194 [AV.fn (139 : Nat) [AV.op 0 0, AV.op 1 0, AV.op 2 0]])] ex T2 H2 :=
  Rounds.step_of fits hmix [Orc.b true, Orc.a (AV.agg [sv x0, sv y0]), Orc.a (AV.agg [sv x1, sv y1]), Orc.a (AV.agg [sv x2, sv y2]), Orc.a (iv (s)), Orc.b false, Orc.a (bv (false)), Orc.b true, Orc.b true, Orc.b true, Orc.b true, Orc.a (bv (false)), Orc.b true, Orc.b false] (16 : Nat) [(0 : Nat), (1 : Nat), (2 : Nat), (3 : Nat)] (by kernel_rfl) h h2
theorem on_du_step (ps : List (List Value)) (ts : List (List Value)) (cy : List Value) (n : Int) (r : Int) (i : Int) (s : Int) (x0 : List UInt8) (y0 : List UInt8) (x1 : List UInt8) (y1 : List UInt8) (x2 : List UInt8) (y2 : List UInt8) {ex : Ex} {T2 : List AV} {H2 : Heap} (m : Nat) (h : AllP
    [decide (i < n) = true,
     CallsTo Tryz.prog (139 : Nat) [iv (i), AV.lp [AV.ps 2 ps, AV.ps 3 ts], AV.lp [AV.ls cy], AV.lp [iv (n)]] (AV.agg [sv x0, sv y0]),
     IntKind.wrap IntKind.i64 (i + (1 : Int)) = i + (1 : Int),
     CallsTo Tryz.prog (139 : Nat) [iv ((i + (1 : Int))), AV.lp [AV.ps 2 ps, AV.ps 3 ts], AV.lp [AV.ls cy], AV.lp [iv (n)]] (AV.agg [sv x1, sv y1]),
     IntKind.wrap IntKind.i64 (i + (2 : Int)) = i + (2 : Int),
     CallsTo Tryz.prog (139 : Nat) [iv ((i + (2 : Int))), AV.lp [AV.ps 2 ps, AV.ps 3 ts], AV.lp [AV.ls cy], AV.lp [iv (n)]] (AV.agg [sv x2, sv y2]),
     CallsTo Tryz.prog (64 : Nat) [AV.agg [sv x0, sv y0], AV.agg [sv x1, sv y1], AV.agg [sv x2, sv y2]] (iv (s)),
     decide (s < (0 : Int)) = false,
     CallsTo Tryz.prog (140 : Nat) [iv (i), AV.lp [AV.fn (139 : Nat) [AV.lp [AV.ps 2 ps, AV.ps 3 ts], AV.lp [AV.ls cy], AV.lp [iv (n)]]]] (bv (false)),
     true = true,
     true = true,
     true = true,
     IntKind.wrap IntKind.i64 (i + (1 : Int)) = i + (1 : Int),
     true = true,
     CallsTo Tryz.prog (140 : Nat) [iv ((i + (1 : Int))), AV.lp [AV.fn (139 : Nat) [AV.lp [AV.ps 2 ps, AV.ps 3 ts], AV.lp [AV.ls cy], AV.lp [iv (n)]]]] (bv (true)),
     true = true,
     true = true,
     IntKind.wrap IntKind.i64 (r + (1 : Int)) = r + (1 : Int),
     IntKind.wrap IntKind.i64 (i + (1 : Int)) = i + (1 : Int)])
    (h2 : Rounds Tryz.prog (bodyOf (loopAt Tryz.f114 (0 : Nat))) m (st 46 [AV.any, AV.any, AV.op 0 0, AV.op 1 0, bv (false), AV.op 2 0, AV.op 3 0, AV.fn (140 : Nat) [AV.op 3 0], iv ((r + (1 : Int))), iv (i), AV.any, AV.any, AV.any, AV.any, iv (n), iv ((i + (1 : Int)))]) [some (AObj.box false 34 [AV.ps 2 ps, AV.ps 3 ts]), some (AObj.box false 70 [AV.ls cy]), some (AObj.box false 3 [iv (n)]), some (AObj.box false 194 [AV.fn (139 : Nat) [AV.op 0 0, AV.op 1 0, AV.op 2 0]])] ex T2 H2) :
    Rounds Tryz.prog (bodyOf (loopAt Tryz.f114 (0 : Nat))) (m + 1) (st 46 [AV.any, AV.any, AV.op 0 0, AV.op 1 0, bv (false), AV.op 2 0, AV.op 3 0, AV.fn (140 : Nat) [AV.op 3 0], iv (r), AV.any, AV.any, AV.any, AV.any, AV.any, iv (n), iv (i)]) [some (AObj.box false 34 [AV.ps 2 ps, AV.ps 3 ts]), some (AObj.box false 70 [AV.ls cy]), some (AObj.box false 3 [iv (n)]), some (AObj.box false 194 [AV.fn (139 : Nat) [AV.op 0 0, AV.op 1 0, AV.op 2 0]])] ex T2 H2 :=
  Rounds.step_of fits hmix [Orc.b true, Orc.a (AV.agg [sv x0, sv y0]), Orc.a (AV.agg [sv x1, sv y1]), Orc.a (AV.agg [sv x2, sv y2]), Orc.a (iv (s)), Orc.b false, Orc.a (bv (false)), Orc.b true, Orc.b true, Orc.b true, Orc.b true, Orc.a (bv (true)), Orc.b true, Orc.b true] (16 : Nat) [(0 : Nat), (1 : Nat), (2 : Nat), (3 : Nat)] (by kernel_rfl) h h2
theorem on_end_out (ps : List (List Value)) (ts : List (List Value)) (cy : List Value) (n : Int) (r : Int) (i : Int) (m : Nat) (h : AllP
    [decide (i < n) = false]) :
    Rounds Tryz.prog (bodyOf (loopAt Tryz.f114 (0 : Nat))) (m + 1) (st 46 [AV.any, AV.any, AV.op 0 0, AV.op 1 0, bv (false), AV.op 2 0, AV.op 3 0, AV.fn (140 : Nat) [AV.op 3 0], iv (r), AV.any, AV.any, AV.any, AV.any, AV.any, iv (n), iv (i)]) [some (AObj.box false 34 [AV.ps 2 ps, AV.ps 3 ts]), some (AObj.box false 70 [AV.ls cy]), some (AObj.box false 3 [iv (n)]), some (AObj.box false 194 [AV.fn (139 : Nat) [AV.op 0 0, AV.op 1 0, AV.op 2 0]])] (Ex.exit (0 : Nat)) (st 46 [AV.any, AV.any, AV.op 0 0, AV.op 1 0, bv (false), AV.op 2 0, AV.op 3 0, AV.fn (140 : Nat) [AV.op 3 0], iv (r), AV.any, AV.any, AV.any, AV.any, AV.any, iv (n), iv (i)]) [some (AObj.box false 34 [AV.ps 2 ps, AV.ps 3 ts]), some (AObj.box false 70 [AV.ls cy]), some (AObj.box false 3 [iv (n)]), some (AObj.box false 194 [AV.fn (139 : Nat) [AV.op 0 0, AV.op 1 0, AV.op 2 0]])] :=
  Rounds.out_of fits hmix [Orc.b false] (16 : Nat) [(0 : Nat), (1 : Nat), (2 : Nat), (3 : Nat)] m (by simp) (by kernel_rfl) h
theorem once_ok (ps : List (List Value)) (ts : List (List Value)) (cy : List Value) (r : Int) (h : AllP
    [Goes Tryz.prog (loopAt Tryz.f114 (0 : Nat)) (st 46 [AV.agg [AV.ps 2 ps, AV.ps 3 ts], AV.ls cy, AV.op 0 0, AV.op 1 0, bv (false), AV.op 2 0, AV.op 3 0, AV.fn (140 : Nat) [AV.op 3 0], iv 0, uu, AV.ls cy, iv ((↑(List.length (List.map AV.v cy)) : Int)), AV.fn (139 : Nat) [AV.op 0 0, AV.op 1 0, AV.op 2 0], AV.fn (140 : Nat) [AV.op 3 0], iv ((↑(List.length (List.map AV.v cy)) : Int)), iv 0]) [some (AObj.box false 34 [AV.ps 2 ps, AV.ps 3 ts]), some (AObj.box false 70 [AV.ls cy]), some (AObj.box false 3 [iv ((↑(List.length (List.map AV.v cy)) : Int))]), some (AObj.box false 194 [AV.fn (139 : Nat) [AV.op 0 0, AV.op 1 0, AV.op 2 0]])] (Ex.exit (0 : Nat)) (st 46 [AV.any, AV.any, AV.op 0 0, AV.op 1 0, bv (false), AV.op 2 0, AV.op 3 0, AV.fn (140 : Nat) [AV.op 3 0], iv (r), AV.any, AV.any, AV.any, AV.any, AV.any, iv ((↑(List.length cy) : Int)), iv ((↑(List.length cy) : Int))]) [some (AObj.box false 34 [AV.ps 2 ps, AV.ps 3 ts]), some (AObj.box false 70 [AV.ls cy]), some (AObj.box false 3 [iv ((↑(List.length cy) : Int))]), some (AObj.box false 194 [AV.fn (139 : Nat) [AV.op 0 0, AV.op 1 0, AV.op 2 0]])]]) :
    CallsTo Tryz.prog 114 [AV.agg [AV.ps 2 ps, AV.ps 3 ts], AV.ls cy] (bv ((r == (1 : Int)))) :=
  fn_ok fits hmix Tryz.func114 (by kernel_rfl)
    [.s (16 : Nat) (Ex.exit (0 : Nat)) (st 46 [AV.any, AV.any, AV.op 0 0, AV.op 1 0, bv (false), AV.op 2 0, AV.op 3 0, AV.fn (140 : Nat) [AV.op 3 0], iv (r), AV.any, AV.any, AV.any, AV.any, AV.any, iv ((↑(List.length cy) : Int)), iv ((↑(List.length cy) : Int))]) [some (AObj.box false 34 [AV.ps 2 ps, AV.ps 3 ts]), some (AObj.box false 70 [AV.ls cy]), some (AObj.box false 3 [iv ((↑(List.length cy) : Int))]), some (AObj.box false 194 [AV.fn (139 : Nat) [AV.op 0 0, AV.op 1 0, AV.op 2 0]])]] (by kernel_rfl) h
end Go.Flow.Tryz
namespace Go.Flow.Tryz
open Go Go.Proofs Go.RowKit Go.Flow
set_option maxRecDepth 100000
def encU (l : List Int) : List (Value × Value) := l.map fun x => (.int .i64 x, .bool true)
def insU (l : List Int) (x : Int) : List Int := if x ∈ l then l else x :: l
def usedOne (l : List Int) (t : Tri) : List Int := insU (insU (insU l t.1) t.2.1) t.2.2
def rU (l : List Int) (x : Int) : Option Value := if x ∈ l then some (.bool true) else none
theorem putU (l : List Int) (x : Int) : putM (encU l) (.int .i64 x) (.bool true) (rU l x) = encU (insU l x) := by
  unfold rU insU
  split <;> rfl
theorem foundU (l : List Int) (x : Int) : Found (encU l) (.int .i64 x) ((rU l x).map fun _ => .bool true) := by
  unfold rU
  split
  · rename_i h
    exact List.mem_map.2 ⟨x, h, rfl⟩
  · rename_i h
    intro p hp e
    obtain ⟨q, hq, rfl⟩ := List.mem_map.1 hp
    have e : (Value.int .i64 q) = .int .i64 x := e
    simp at e
    exact h (e ▸ hq)
theorem fitU {l : List Int} {x : Int} (hx : inR x) (hl : ∀ y ∈ l, inR y) : KeyFit Tryz.prog 3 (encU l) (.int .i64 x) :=
  ⟨keyed3, key3 hx, fun p hp => by
    obtain ⟨q, hq, rfl⟩ := List.mem_map.1 hp
    exact key3 (hl q hq)⟩
theorem insU_in {l : List Int} {x : Int} (hx : inR x) (hl : ∀ y ∈ l, inR y) : ∀ y ∈ insU l x, inR y := by
  unfold insU
  split
  · exact hl
  · intro y hy
    rcases List.mem_cons.1 hy with rfl | hy
    · exact hx
    · exact hl y hy
abbrev wuH (ps ts : List (List Value)) (us : List (Value × Value)) : Heap := [some (.box false 34 [.ps 2 ps, .ps 3 ts]), some (.map false us)]
abbrev wuT (ts : List (List Value)) (es : List (Value × Value)) (len i : Int) : List AV := st 55 ([.any, .op 0 0, bv false, .mv es, bv true, .mp 1] ++ List.replicate 15 .any ++ [.ps 3 ts, iv len, iv i])
theorem wu_eq (ps ts : List (List Value)) (es us : List (Value × Value)) (a b c len i : Int) (r1 r2 r3 : Option Value) : (evC Tryz.prog tab (bodyOf (loopAt Tryz.f65 0)) (wuT ts es len i) (wuH ps ts us) [.b true, .a (.agg [iv a, iv b, iv c]), .u 4, .b true, .m r1, .b true, .m r2, .b true, .m r3, .b false] []).tidy 24 [0, 1] =
    some (.normal, (wuT ts es len (i + 1)).set 9 (iv c), wuH ps ts (putM (putM (putM us (.int .i64 a) (.bool true) r1) (.int .i64 b) (.bool true) r2) (.int .i64 c) (.bool true) r3),
     [decide (i < len) = true, 0 ≤ i ∧ (ts.map rowAV)[i.toNat]? = some (.agg [iv a, iv b, iv c]), true = true, (0 : Int) ≤ 0 ∧ (0 : Int) < ((3 : Nat) : Int),
      Found us (.int .i64 a) (r1.map fun _ => .bool true), KeyFit Tryz.prog 3 us (.int .i64 a), IntKind.i64.wrap ((0 : Int) + 1) = (0 : Int) + 1, true = true, (0 : Int) ≤ (0 : Int) + 1 ∧ (0 : Int) + 1 < ((3 : Nat) : Int),
      Found (putM us (.int .i64 a) (.bool true) r1) (.int .i64 b) (r2.map fun _ => .bool true), KeyFit Tryz.prog 3 (putM us (.int .i64 a) (.bool true) r1) (.int .i64 b), IntKind.i64.wrap ((0 : Int) + 1 + 1) = (0 : Int) + 1 + 1, true = true, (0 : Int) ≤ (0 : Int) + 1 + 1 ∧ (0 : Int) + 1 + 1 < ((3 : Nat) : Int),
      Found (putM (putM us (.int .i64 a) (.bool true) r1) (.int .i64 b) (.bool true) r2) (.int .i64 c) (r3.map fun _ => .bool true), KeyFit Tryz.prog 3 (putM (putM us (.int .i64 a) (.bool true) r1) (.int .i64 b) (.bool true) r2) (.int .i64 c), IntKind.i64.wrap ((0 : Int) + 1 + 1 + 1) = (0 : Int) + 1 + 1 + 1, false = false,
      IntKind.i64.wrap (i + 1) = i + 1]) := by kernel_rfl
def triR (t : Tri) : List Value := [.int .i64 t.1, .int .i64 t.2.1, .int .i64 t.2.2]
theorem wu_loop (ps : List (List Value)) (tris : List Tri) (es : List (Value × Value)) (hin : ∀ t ∈ tris, triIn t) (hl : tris.length ≤ 1000) :
    Goes Tryz.prog (loopAt Tryz.f65 0) (wuT (tris.map triR) es tris.length 0) (wuH ps (tris.map triR) []) (.exit 0) (wuT (tris.map triR) es tris.length tris.length) (wuH ps (tris.map triR) (encU (tris.foldl usedOne []))) := by
  have hloop : loopAt Tryz.f65 0 = .loop (bodyOf (loopAt Tryz.f65 0)) := by kernel_rfl
  rw [hloop]
  have key : ∀ (rest pre : List Tri) (l : List Int), tris = pre ++ rest → (∀ y ∈ l, inR y) → Rounds Tryz.prog (bodyOf (loopAt Tryz.f65 0)) (rest.length + 1) (wuT (tris.map triR) es tris.length pre.length) (wuH ps (tris.map triR) (encU l)) (.exit 0)
      (wuT (tris.map triR) es tris.length tris.length) (wuH ps (tris.map triR) (encU (rest.foldl usedOne l))) := by
    intro rest
    induction rest with
    | nil =>
      intro pre l hp hy
      have hp : pre = tris := by simpa using hp.symm
      subst hp
      exact wh_end_out ps (pre.map triR) es (encU l) pre.length pre.length 0 ⟨by simp, trivial⟩
    | cons t rest ih =>
      intro pre l hp hy
      have hlen : tris.length = pre.length + (rest.length + 1) := by rw [hp]; simp
      obtain ⟨h1, h2, h3⟩ := hin t (by rw [hp]; simp)
      have ht : ((tris.map triR).map rowAV)[((pre.length : Nat) : Int).toNat]? = some (.agg [iv t.1, iv t.2.1, iv t.2.2]) := by
        rw [hp, Int.toNat_natCast, List.getElem?_map, List.getElem?_map, List.getElem?_append_right (Nat.le_refl _)]
        simp [triR, rowAV]
      have i1 := insU_in h1 hy
      have i2 := insU_in h2 i1
      have i3 := insU_in h3 i2
      have g := Goes.of fits hmix (wu_eq ps (tris.map triR) es (encU l) t.1 t.2.1 t.2.2 tris.length pre.length (rU l t.1) (rU (insU l t.1) t.2.1) (rU (insU (insU l t.1) t.2.1) t.2.2)) (by
        rw [putU, putU]
        refine ⟨decide_eq_true (by omega), ⟨by omega, ht⟩, rfl, by decide, foundU _ _, fitU h1 hy, by decide, rfl, by decide, foundU _ _, fitU h2 i1, by decide, rfl, by decide, foundU _ _, fitU h3 i2, by decide, rfl, by rw [w64]; omega, trivial⟩)
      rw [putU, putU, putU, show encU (insU (insU (insU l t.1) t.2.1) t.2.2) = encU (usedOne l t) from rfl] at g
      have g2 := Goes.same g (same_cast (Same.mask ([false, true, true, true, true, true] ++ List.replicate 15 false ++ [true, true, true])) (T1 := wuT (tris.map triR) es tris.length (pre.length + 1)) (by kernel_rfl) rfl)
      have ih' := ih (pre ++ [t]) (usedOne l t) (by rw [hp]; simp) i3
      rw [show (pre ++ [t]).length = pre.length + 1 by simp] at ih'
      exact .step g2 (by simpa using ih')
  exact Goes.loop (key tris [] [] rfl (by simp))
theorem mesh_whole_ok (ps : List (List Value)) (tris : List Tri) (es : List (Value × Value)) (cy : List Value) (b : Bool) (hin : ∀ t ∈ tris, triIn t) (hl : tris.length ≤ 1000)
    (how : CallsTo Tryz.prog 83 [.agg [.ps 2 ps, .ps 3 (tris.map triR)]] (.tup [.mv es, bv true]))
    (hou : CallsTo Tryz.prog 91 [.agg [.ps 2 ps, .ps 3 (tris.map triR)], .mv es] (.tup [.ls cy, bv true]))
    (hus : (tris.foldl usedOne []).length = ps.length)
    (hon : CallsTo Tryz.prog 114 [.agg [.ps 2 ps, .ps 3 (tris.map triR)], .ls cy] (bv b)) :
    CallsTo Tryz.prog 65 [.agg [.ps 2 ps, .ps 3 (tris.map triR)]] (bv b) := by
  have hlen : (((encU (tris.foldl usedOne [])).length : Int) == (((ps.map rowAV).length : Nat) : Int)) = true := by
    simp [encU, hus]
  refine wholef_ok ps (tris.map triR) es (encU (tris.foldl usedOne [])) cy b ⟨how, rfl, ?_, hou, rfl, rfl, rfl, rfl, rfl, rfl, rfl, hlen, hlen, hlen, hon, hlen, trivial⟩
  refine (same_cast (Same.mask ([false, true, true, true, true, true] ++ List.replicate 15 false ++ [true, true, true])) (T1 := wuT (tris.map triR) es tris.length 0) ?_ rfl).goes ?_
  · rw [List.length_map, List.length_map]
    kernel_rfl
  · rw [List.length_map]
    exact wu_loop ps tris es hin hl
end Go.Flow.Tryz
namespace Go.Flow.Tryz
open Go Go.Proofs Go.RowKit Go.Flow
set_option maxRecDepth 100000
abbrev Pt := Int × Int
abbrev ptS (N : Nat) (p : Pt) : List AV := [sv (fT p.1 N), sv (fT p.2 N)]
def det (a b c : Pt) : Int := (b.1 - a.1) * (c.2 - a.2) - (b.2 - a.2) * (c.1 - a.1)
def smallP (p : Pt) : Prop := p.1.natAbs < 10000 ∧ p.2.natAbs < 10000
instance (p : Pt) : Decidable (smallP p) := by unfold smallP; infer_instance
theorem sub_same (k l : Int) (N : Nat) (hN : 0 < N) (hk : k.natAbs < 1000000000) (hl : l.natAbs < 1000000000) (hN9 : N < 1000000000) : CallsTo Tryz.prog 20 [sv (fT k N), sv (fT l N)] (sv (fT (k - l) N)) := by
  have h := sub_ok k l N N hN hN hk hl hN9 hN9
  rw [show k * (N : Int) - l * N = (k - l) * N from (Int.sub_mul k l N).symm, fT_mul _ _ _ hN] at h
  exact h
theorem mul_small {a b : Int} (ha : a.natAbs < 20000) (hb : b.natAbs < 20000) : (a * b).natAbs < 400000000 := prod_bound ha hb (by decide)
theorem area_ok (N : Nat) (hN : 0 < N) (hN4 : N < 10000) (a b c : Pt) (ha : smallP a) (hb : smallP b) (hc : smallP c) :
    CallsTo Tryz.prog 80 [.agg (ptS N a), .agg (ptS N b), .agg (ptS N c)] (sv (fT (det a b c) (N * N))) := by
  obtain ⟨a1, a2⟩ := ha
  obtain ⟨b1, b2⟩ := hb
  obtain ⟨c1, c2⟩ := hc
  have hNN : N * N < 100000000 := Nat.mul_lt_mul'' hN4 hN4
  have hNN0 : 0 < N * N := Nat.mul_pos hN hN
  have m1 := mul_small (a := b.1 - a.1) (b := c.2 - a.2) (by omega) (by omega)
  have m2 := mul_small (a := b.2 - a.2) (b := c.1 - a.1) (by omega) (by omega)
  refine marea_ok _ _ _ _ _ _ (fT (b.1 - a.1) N) (fT (c.2 - a.2) N) (fT (b.2 - a.2) N) (fT (c.1 - a.1) N) (fT ((b.1 - a.1) * (c.2 - a.2)) (N * N)) (fT ((b.2 - a.2) * (c.1 - a.1)) (N * N)) _ ?_
  exact ⟨sub_same _ _ N hN (by omega) (by omega) (by omega), sub_same _ _ N hN (by omega) (by omega) (by omega), mul_ok _ _ N N hN hN (by omega) (by omega) (by omega) (by omega),
    sub_same _ _ N hN (by omega) (by omega) (by omega), sub_same _ _ N hN (by omega) (by omega) (by omega), mul_ok _ _ N N hN hN (by omega) (by omega) (by omega) (by omega),
    sub_same _ _ (N * N) hNN0 (by omega) (by omega) (by omega), trivial⟩
theorem turn_ok (N : Nat) (hN : 0 < N) (hN4 : N < 10000) (a b c : Pt) (ha : smallP a) (hb : smallP b) (hc : smallP c) :
    CallsTo Tryz.prog 64 [.agg (ptS N a), .agg (ptS N b), .agg (ptS N c)] (iv (det a b c).sign) :=
  mturn_ok _ _ _ _ _ _ _ _ ⟨area_ok N hN hN4 a b c ha hb hc, sign_ok _ _ (Nat.mul_pos hN hN), trivial⟩
theorem sign_nonneg (x : Int) : decide (x.sign ≥ 0) = decide (x ≥ 0) := by
  rcases Int.lt_trichotomy x 0 with h | h | h
  · rw [Int.sign_eq_neg_one_of_neg h]; simp; omega
  · subst h; rfl
  · rw [Int.sign_eq_one_of_pos h]; simp; omega
def insideB (a b c p : Pt) : Bool := decide (0 ≤ det a b p) && (decide (0 ≤ det b c p) && decide (0 ≤ det c a p))
theorem inside_ok (N : Nat) (hN : 0 < N) (hN4 : N < 10000) (a b c p : Pt) (ha : smallP a) (hb : smallP b) (hc : smallP c) (hp : smallP p) :
    CallsTo Tryz.prog 82 [.agg (ptS N a ++ ptS N b ++ ptS N c), .agg (ptS N p)] (bv (insideB a b c p)) := by
  have t1 := turn_ok N hN hN4 a b p ha hb hp
  have t2 := turn_ok N hN hN4 b c p hb hc hp
  have t3 := turn_ok N hN hN4 c a p hc ha hp
  have s1 := sign_nonneg (det a b p)
  have s2 := sign_nonneg (det b c p)
  have s3 := sign_nonneg (det c a p)
  unfold insideB
  by_cases h1 : 0 ≤ det a b p
  · rw [decide_eq_true (show det a b p ≥ 0 from h1)] at s1
    by_cases h2 : 0 ≤ det b c p
    · rw [decide_eq_true (show det b c p ≥ 0 from h2)] at s2
      rw [decide_eq_true h1, decide_eq_true h2, Bool.true_and, Bool.true_and, show decide (0 ≤ det c a p) = decide ((det c a p).sign ≥ 0) from s3.symm]
      refine minside_ok _ _ _ _ _ _ _ _ (det a b p).sign (det b c p).sign (det c a p).sign ?_
      repeat' first | exact AllP.nil | refine AllP.cons ?_ ?_
      all_goals first | exact t1 | exact t2 | exact t3 | exact s1 | exact s2 | decide
    · rw [decide_eq_false (show ¬ det b c p ≥ 0 from h2)] at s2
      rw [decide_eq_true h1, decide_eq_false h2, Bool.false_and, Bool.and_false]
      refine minside_f2_ok _ _ _ _ _ _ _ _ (det a b p).sign (det b c p).sign ?_
      repeat' first | exact AllP.nil | refine AllP.cons ?_ ?_
      all_goals first | exact t1 | exact t2 | exact s1 | exact s2 | rfl | decide
  · rw [decide_eq_false (show ¬ det a b p ≥ 0 from h1)] at s1
    rw [decide_eq_false h1, Bool.false_and]
    refine minside_f1_ok _ _ _ _ _ _ _ _ (det a b p).sign ?_
    repeat' first | exact AllP.nil | refine AllP.cons ?_ ?_
    all_goals first | exact t1 | exact s1 | rfl | decide
theorem CallsTo.args {P : Program} {f : FuncId} {ys ys' : List AV} {r : AV} (h : CallsTo P f ys r) (hc : ∀ (E : Env) (us : List Value), RepL E ys' us → RepL E ys us) : CallsTo P f ys' r :=
  ⟨h.1, fun w S us hG hS ha => h.2 w S us hG hS (hc _ _ ha)⟩
end Go.Flow.Tryz
