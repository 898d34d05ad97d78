/- Part 2 of the proofs of the mesh laws: what their code computes. No conditions. -/
import Derived.LoopN
import Derived.RangeFuncLeaves
import Derived.Tactics
import Derived.OrdersIn
import Derived.RangeFuncIn
import Derived.RangeFuncCalls
import Derived.TacticsIn
import Derived.Test.YtampjkpdiojciaaGreatDoorProg
import Derived.IntWalk
import Derived.Lib.ItoaNum
import Derived.Lib.ItoaMem
import Derived.Lib.Atoi
import Derived.LoopNIn
import Derived.StillTail
import Derived.Test.YtampjkpdiojciaaGreatDoorTie
import Derived.ProofKit
import Derived.LaidMore
import Derived.OpenShut
import Derived.Deep.Strs
import Derived.Stop.Joined
import Derived.Stop.LaidErr
import Derived.Shelf.Vars
import Derived.Test.YtampjkpdiojciaaGreatDoorMlA
namespace Go.Flow
open Go Go.RowKit
variable {P : Program} {τ : Tab} {B : Nat} {S0 : Nat → Prop} {w0 : World} {α : Nat → Option Value} {T : List AV} {H : Heap} {a : Act} {w : World} {nh : Nat}
theorem want_run (s : Sim B S0 w0 α T H a w) {ops : Array Oper} {o : Oper} {orc orc' : List Orc} {cs : List Prop} (h : wantA T ops o.guard orc = .run orc' cs) (hc : ∀ c ∈ cs, c) : Region.wanted o (yielded ops a.tmps) = true := by
  unfold wantA at h
  unfold Region.wanted
  split at h
  · rename_i hg
    rw [hg]
  · rename_i j want hg
    rw [hg]
    split at h
    rotate_left
    · cases h
    rename_i d hd
    have hx := s.eval (.tmp d)
    simp only [evalA] at hx
    split at h
    · rename_i x he
      rw [he] at hx
      have hv := hx.inv_v
      split at h
      · rename_i y orc1
        split at h
        · rename_i hy
          cases h
          have hxy : x = y := hc _ (List.mem_singleton.2 rfl)
          have hyw : y = want := by simpa using hy
          subst hxy
          subst hyw
          simp only [Act.eval, Array.getD_eq_getD_getElem?] at hv
          cases ht : a.tmps[d]? with
          | none => rw [ht] at hv; cases hv
          | some u =>
            rw [ht] at hv
            simp only [Option.getD_some] at hv
            subst hv
            simp [yielded, hd, ht]
        · cases h
      · cases h
    · cases h
    · cases h
theorem want_skip (s : Sim B S0 w0 α T H a w) {ops : Array Oper} {o : Oper} {orc orc' : List Orc} {cs : List Prop} (h : wantA T ops o.guard orc = .skip orc' cs) (hc : ∀ c ∈ cs, c) : Region.wanted o (yielded ops a.tmps) = false := by
  unfold wantA at h
  unfold Region.wanted
  split at h
  · cases h
  · rename_i j want hg
    rw [hg]
    split at h
    rotate_left
    · cases h
    rename_i d hd
    have hx := s.eval (.tmp d)
    simp only [evalA] at hx
    split at h
    · rename_i x he
      rw [he] at hx
      have hv := hx.inv_v
      split at h
      · rename_i y orc1
        split at h
        · cases h
        · rename_i hy
          cases h
          have hxy : x = y := hc _ (List.mem_singleton.2 rfl)
          subst hxy
          simp only [Act.eval, Array.getD_eq_getD_getElem?] at hv
          cases ht : a.tmps[d]? with
          | none => rw [ht] at hv; cases hv
          | some u =>
            rw [ht] at hv
            simp only [Option.getD_some] at hv
            subst hv
            simp [yielded, hd, ht]
            simpa using hy
      · cases h
    · rename_i x he
      rw [he] at hx
      have hv := hx.inv_v
      simp only [Act.eval, Array.getD_eq_getD_getElem?] at hv
      cases ht : a.tmps[d]? with
      | none => simp [yielded, hd, ht]
      | some u =>
        rw [ht] at hv
        simp only [Option.getD_some] at hv
        subst hv
        simp [yielded, hd, ht]
    · cases h
theorem Sim.putA (s : Sim B S0 w0 α T H a w) {d : Option Tmp} {x : AV} {u : Value} (hx : Rep (envOf B S0 α H w) x u) : Sim B S0 w0 α (putA T d x) H (a.put d u) w := by
  cases d with
  | none => exact s
  | some d => exact s.put hx
theorem evalA_put {T : List AV} {d : Option Tmp} {v : AV} {x : Operand} (h : ∀ t, d = some t → x ≠ .tmp t) : evalA (putA T d v) x = evalA T x := by
  cases d with
  | none => rfl
  | some t =>
    cases x with
    | tmp k =>
      have hne : t ≠ k := fun e => h t rfl (by rw [e])
      simp [evalA, putA, List.getElem?_set_ne hne]
    | _ => rfl
theorem handles_congr {H H' : Heap} : ∀ (n : Nat) (x : AV), (∀ h ∈ handles H n x, getH H h = getH H' h) → handles H' n x = handles H n x := by
  intro n
  induction n with
  | zero => intro x _; rfl
  | succ n ih =>
    intro x hx
    have step : ∀ {xs : List AV}, (∀ h ∈ xs.flatMap (handles H n), getH H h = getH H' h) → xs.flatMap (handles H' n) = xs.flatMap (handles H n) := by
      intro xs
      induction xs with
      | nil => intro _; rfl
      | cons y ys ihl =>
        intro h
        simp only [List.flatMap_cons, List.mem_append] at h ⊢
        rw [ih y fun k hk => h k (.inl hk), ihl fun k hk => h k (.inr hk)]
    cases x with
    | v => rfl
    | any => rfl
    | rp => rfl
    | mp => rfl
    | mv => rfl
    | mx => rfl
    | own k =>
      have hk : getH H k = getH H' k := hx k (by simp [handles])
      simp only [handles] at hx ⊢
      rw [← hk]
      cases ho : getH H k with
      | none => rfl
      | some o =>
        rw [ho] at hx
        cases o with
        | box fr e cs => simp only at hx ⊢; rw [step fun h hh => hx h (List.mem_cons_of_mem _ hh)]
        | row fr e sz es => simp only at hx ⊢; rw [step fun h hh => hx h (List.mem_cons_of_mem _ hh)]
        | aux o => rfl
        | ghost us xs => rfl
        | map fr es => rfl
        | vrow fr e us => rfl
    | op k off =>
      have hk : getH H k = getH H' k := hx k (by simp [handles])
      simp only [handles] at hx ⊢
      rw [← hk]
      cases ho : getH H k with
      | none => rfl
      | some o =>
        rw [ho] at hx
        cases o with
        | box fr e cs => simp only at hx ⊢; rw [step fun h hh => hx h (List.mem_cons_of_mem _ hh)]
        | row fr e sz es => simp only at hx ⊢; rw [step fun h hh => hx h (List.mem_cons_of_mem _ hh)]
        | aux o => rfl
        | ghost us xs => rfl
        | map fr es => rfl
        | vrow fr e us => rfl
    | ls us => rfl
    | ps sz es => rfl
    | lst sz es => exact step hx
    | lp cs => exact step hx
    | fn f cap => exact step hx
    | agg cs => exact step hx
    | tup cs => exact step hx
theorem handles_mono {H : Heap} : ∀ (n : Nat) (x : AV) (h : Nat), h ∈ handles H n x → h ∈ handles H (n + 1) x := by
  intro n
  induction n with
  | zero => intro x h hh; simp [handles] at hh
  | succ n ih =>
    intro x h hh
    have step : ∀ {xs : List AV}, h ∈ xs.flatMap (handles H n) → h ∈ xs.flatMap (handles H (n + 1)) := fun {xs} hx => by
      obtain ⟨y, hy, hk⟩ := List.mem_flatMap.1 hx
      exact List.mem_flatMap.2 ⟨y, hy, ih y h hk⟩
    cases x with
    | v => simp [handles] at hh
    | any => simp [handles] at hh
    | rp => simpa [handles] using hh
    | mp => simpa [handles] using hh
    | mv => simp [handles] at hh
    | mx => simp [handles] at hh
    | own k =>
      rw [handles] at hh ⊢
      rcases List.mem_cons.1 hh with e | hh
      · exact List.mem_cons.2 (.inl e)
      · refine List.mem_cons.2 (.inr ?_)
        cases ho : getH H k with
        | none => rw [ho] at hh; simp at hh
        | some o => rw [ho] at hh; cases o <;> first | exact step hh | (simp at hh)
    | op k off =>
      rw [handles] at hh ⊢
      rcases List.mem_cons.1 hh with e | hh
      · exact List.mem_cons.2 (.inl e)
      · refine List.mem_cons.2 (.inr ?_)
        cases ho : getH H k with
        | none => rw [ho] at hh; simp at hh
        | some o => rw [ho] at hh; cases o <;> first | exact step hh | (simp at hh)
    | ls us => simp [handles] at hh
    | ps sz es => simp [handles] at hh
    | lst sz es => exact step hh
    | lp cs => exact step hh
    | fn f cap => exact step hh
    | agg cs => exact step hh
    | tup cs => exact step hh
theorem look_congr {H H' : Heap} : ∀ (n : Nat) (x : AV), (∀ h ∈ handles H n x, getH H h = getH H' h) → look H' n x = look H n x := by
  intro n
  induction n with
  | zero => intro x _; rfl
  | succ n ih =>
    intro x hx
    have step : ∀ {xs : List AV}, (∀ h ∈ xs.flatMap (handles H n), getH H h = getH H' h) → lookL (look H' n) xs = lookL (look H n) xs := by
      intro xs
      induction xs with
      | nil => intro _; rfl
      | cons y ys ihl =>
        intro h
        simp only [List.flatMap_cons, List.mem_append] at h
        simp only [lookL]
        rw [ih y fun k hk => h k (.inl hk), ihl fun k hk => h k (.inr hk)]
    cases x with
    | v => rfl
    | any => rfl
    | rp => rfl
    | mp k =>
      have hk : getH H k = getH H' k := hx k (by simp [handles])
      simp only [look]
      rw [← hk]
    | mv => rfl
    | mx => rfl
    | own k =>
      have hk : getH H k = getH H' k := hx k (by simp [handles])
      simp only [handles] at hx
      simp only [look]
      rw [← hk]
      cases ho : getH H k with
      | none => rfl
      | some o =>
        rw [ho] at hx
        cases o with
        | box fr e cs => rfl
        | row fr e sz es => simp only at hx ⊢; rw [step fun h hh => hx h (List.mem_cons_of_mem _ hh)]
        | aux o => rfl
        | ghost us xs => rfl
        | map fr es => rfl
        | vrow fr e us => rfl
    | op k off =>
      have hk : getH H k = getH H' k := hx k (by simp [handles])
      simp only [handles] at hx
      simp only [look]
      rw [← hk]
      cases ho : getH H k with
      | none => rfl
      | some o =>
        rw [ho] at hx
        cases o with
        | box fr e cs =>
          simp only at hx ⊢
          rw [step fun h hh => hx h (List.mem_cons_of_mem _ ?_)]
          simp only [List.mem_flatMap] at hh ⊢
          obtain ⟨y, hy, hh⟩ := hh
          exact ⟨y, List.mem_of_mem_drop hy, hh⟩
        | row fr e sz es => rfl
        | aux o => rfl
        | ghost us xs => rfl
        | map fr es => rfl
        | vrow fr e us => rfl
    | ls us => rfl
    | ps sz es => rfl
    | lst sz es => rfl
    | lp cs => rfl
    | fn f cap => simp only [look]; rw [step hx]
    | agg cs => simp only [look]; rw [step hx]
    | tup cs => simp only [look]; rw [step hx]
theorem lookL_congr {H H' : Heap} (n : Nat) : ∀ (xs : List AV), (∀ h ∈ xs.flatMap (handles H n), getH H h = getH H' h) → lookL (look H' n) xs = lookL (look H n) xs
  | [], _ => rfl
  | y :: ys, h => by
    simp only [List.flatMap_cons, List.mem_append] at h
    simp only [lookL]
    rw [look_congr n y fun k hk => h k (.inl hk), lookL_congr n ys fun k hk => h k (.inr hk)]
theorem flatMap_congr_handles {H H' : Heap} (n : Nat) : ∀ (xs : List AV), (∀ h ∈ xs.flatMap (handles H n), getH H h = getH H' h) → xs.flatMap (handles H' n) = xs.flatMap (handles H n)
  | [], _ => rfl
  | y :: ys, h => by
    simp only [List.flatMap_cons, List.mem_append] at h ⊢
    rw [handles_congr n y fun k hk => h k (.inl hk), flatMap_congr_handles n ys fun k hk => h k (.inr hk)]
theorem freezeAll_congr : ∀ (hs : List Nat) {H H' : Heap}, (∀ h ∈ hs, getH H h = getH H' h) → freezeAll H' hs = freezeAll H hs
  | [], _, _, _ => rfl
  | h :: hs, H, H', hh => by
    unfold freezeAll
    rw [← hh h (by simp)]
    cases ho : getH H h with
    | none => exact freezeAll_congr hs fun k hk => hh k (List.mem_cons_of_mem _ hk)
    | some o =>
      simp only
      rw [freezeAll_congr hs (H := setAt H h (some o.freeze)) (H' := setAt H' h (some o.freeze)) fun k hk => ?_]
      by_cases e : k = h
      · subst e
        rw [getH_setAt_same, getH_setAt_same]
      · rw [getH_setAt_other _ _ _ _ e, getH_setAt_other _ _ _ _ e]
        exact hh k (List.mem_cons_of_mem _ hk)
theorem elemsA_congr {H H' : Heap} {x : AV} (h : ∀ k ∈ topH x, getH H k = getH H' k) : elemsA H' x = elemsA H x := by
  cases x <;> first | rfl | skip
  rename_i k
  simp only [elemsA, plainOf]
  rw [h k (by simp [topH])]
section
variable {H H' : Heap}
theorem loadA_congr {t : TypeId} {x : AV} {orc : List Orc} (h : ∀ k ∈ topH x, getH H k = getH H' k) : loadA τ H' t x orc = loadA τ H t x orc := by
  unfold loadA
  cases x <;> first | rfl | skip
  · rename_i k sz i off
    simp only [h k (by simp [topH])]
  · rename_i k off
    simp only [h k (by simp [topH])]
theorem storeA_congr {t : TypeId} {x y : AV} {orc : List Orc} (h : ∀ k ∈ topH x, getH H k = getH H' k) : storeA τ H' t x y orc = storeA τ H t x y orc := by
  unfold storeA
  cases x <;> first | rfl | skip
  · rename_i k sz i off
    simp only [h k (by simp [topH])]
  · rename_i k off
    simp only [h k (by simp [topH])]
theorem sliceA_congr {T : List AV} {t : TypeId} {x : AV} {lo hi : Option Operand} {orc : List Orc} (h : ∀ k ∈ topH x, getH H k = getH H' k) : sliceA τ T H' t x lo hi orc = sliceA τ T H t x lo hi orc := by
  unfold sliceA
  split
  · rfl
  · rename_i ty _
    generalize ty.desc = d
    cases d <;> cases x <;> first | rfl | (simp only [h _ List.mem_cons_self]; done) | (rename_i y; cases y <;> rfl)
theorem indexAddrA_congr {t : TypeId} {x i : AV} {orc : List Orc} (h : ∀ k ∈ topH x, getH H k = getH H' k) : indexAddrA τ H' t x i orc = indexAddrA τ H t x i orc := by
  unfold indexAddrA
  cases x <;> first | rfl | skip
  rename_i k
  simp only [plainOf, h k (by simp [topH])]
theorem appendA_congr {t : TypeId} {x y : AV} {orc : List Orc} (h : ∀ k ∈ topH x, getH H k = getH H' k) (h' : ∀ k ∈ topH y, getH H k = getH H' k) : appendA τ nh H' t x y orc = appendA τ nh H t x y orc := by
  unfold appendA
  simp only [elemsA_congr h']
  cases x <;> first | rfl | skip
  rename_i k
  simp only [h k (by simp [topH])]
theorem lenA_congr {d : TypeDesc} {x : AV} (h : ∀ k ∈ topH x, getH H k = getH H' k) : lenA H' d x = lenA H d x := by
  have e := elemsA_congr h
  unfold lenA
  cases d <;> first | rfl | skip
  all_goals (cases x <;> first | rfl | (simp only [e]; done) | (rename_i y; cases y <;> rfl) | (rename_i k; simp only [h k (by simp [topH])]))
theorem noAux_congr {H H' : Heap} : ∀ (hs : List Nat), (∀ k ∈ hs, getH H k = getH H' k) → noAux H' hs = noAux H hs
  | [], _ => rfl
  | k :: hs, h => by
    simp only [noAux]
    rw [← h k (by simp), noAux_congr hs fun j hj => h j (List.mem_cons_of_mem _ hj)]
theorem callA_congr {f : FuncId} {args : List AV} {orc : List Orc} (h : ∀ k ∈ args.flatMap (handles H 9), getH H k = getH H' k) : callA P nh H' f args orc = callA P nh H f args orc := by
  unfold callA
  rw [lookL_congr 9 args h, flatMap_congr_handles 9 args h, freezeAll_congr _ (fun k hk => h k (List.mem_eraseDups.1 hk)), noAux_congr _ h]
end
theorem partsA_congr {T T' : List AV} {ps : Array (Nat × Operand)} (h : ∀ x ∈ (ps.toList.map (·.2)), evalA T x = evalA T' x) : partsA T' ps = partsA T ps := by
  unfold partsA
  refine List.map_congr_left fun p hp => ?_
  rw [h p.2 (List.mem_map.2 ⟨p, hp, rfl⟩)]
theorem boundsA_congr {T T' : List AV} {lo hi : Option Operand} {n : Int} (h1 : ∀ x, lo = some x → evalA T x = evalA T' x) (h2 : ∀ x, hi = some x → evalA T x = evalA T' x) : boundsA T' lo hi n = boundsA T lo hi n := by
  unfold boundsA
  cases lo with
  | none =>
    cases hi with
    | none => rfl
    | some y => simp only [h2 y rfl]
  | some x =>
    cases hi with
    | none => simp only [h1 x rfl]
    | some y => simp only [h1 x rfl, h2 y rfl]
def lenO : Option AObj → Option (Nat × Nat)
  | some (.row _ _ sz es) => some (sz, es.length)
  | _ => none
def AgreeT (H H' : Heap) (t : Nat) : Prop := if t % 2 = 0 then getH H (t / 2) = getH H' (t / 2) else lenO (getH H (t / 2)) = lenO (getH H' (t / 2))
theorem AgreeT.full {H H' : Heap} {h : Nat} : AgreeT H H' (2 * h) ↔ getH H h = getH H' h := by
  unfold AgreeT
  rw [if_pos (by omega), show 2 * h / 2 = h by omega]
theorem AgreeT.len {H H' : Heap} {h : Nat} : AgreeT H H' (2 * h + 1) ↔ lenO (getH H h) = lenO (getH H' h) := by
  unfold AgreeT
  rw [if_neg (by omega), show (2 * h + 1) / 2 = h by omega]
theorem AgreeT.symm {H H' : Heap} {t : Nat} (h : AgreeT H H' t) : AgreeT H' H t := by
  unfold AgreeT at *
  split <;> rename_i hp
  · rw [if_pos hp] at h; exact h.symm
  · rw [if_neg hp] at h; exact h.symm
theorem indexAddrA_own {H H' : Heap} {t : TypeId} {k : Nat} {i : AV} {orc : List Orc} (h : lenO (getH H k) = lenO (getH H' k)) : indexAddrA τ H' t (.own k) i orc = indexAddrA τ H t (.own k) i orc := by
  have key : ∀ (a b : Option AObj), lenO a = lenO b → ∀ (ety : ATy) (n : Int), (match b with
          | some (.row _ _ sz es) => if ety.size == sz then Res.ok (.rp k sz n.toNat 0) [] orc [0 ≤ n ∧ n < es.length] else .bad "indexAddr: size" []
          | _ => .bad "indexAddr: object" [AV.own k]) = (match a with
          | some (.row _ _ sz es) => if ety.size == sz then Res.ok (.rp k sz n.toNat 0) [] orc [0 ≤ n ∧ n < es.length] else .bad "indexAddr: size" []
          | _ => .bad "indexAddr: object" [AV.own k]) := by
    intro a b hab ety n
    cases a with
    | none => cases b with
      | none => rfl
      | some b => cases b <;> first | rfl | (simp [lenO] at hab; done)
    | some a => cases b with
      | none => cases a <;> first | rfl | (simp [lenO] at hab; done)
      | some b =>
        cases a <;> cases b <;> first | rfl | (simp [lenO] at hab; done) | skip
        simp only [lenO, Option.some.injEq, Prod.mk.injEq] at hab
        simp only [hab.1, hab.2]
  unfold indexAddrA
  simp only [plainOf]
  split
  · split
    · rfl
    · split
      · exact key _ _ h _ _
      · rfl
    · rfl
  · rfl
theorem topH_sub {x : AV} {h : Nat} (hh : h ∈ topH x) : h ∈ handles H 10 x := by
  cases x <;> simp only [topH, List.mem_singleton, List.not_mem_nil] at hh <;> subst hh <;> simp [handles]
theorem opB_congr {T T' : List AV} {H H' : Heap} {o : Oper} (hT : ∀ x ∈ o.op.operands, evalA T x = evalA T' x) (hH : ∀ t ∈ footA T H o, AgreeT H H' t) (orc : List Orc) :
    opB P τ nh T' H' o orc = opB P τ nh T H o orc := by
  by_cases hfld : isField o.op = true
  · cases hop : o.op <;> first | (exfalso; simp [hop, isField] at hfld; done) | skip
    all_goals (unfold opB; simp only [hop])
    · rename_i x; rw [hT x (by simp [hop, Op.operands])]
    · rename_i x; rw [hT x (by simp [hop, Op.operands])]
    · rename_i t x i; rw [hT x (by simp [hop, Op.operands])]
  cases hidx : idxRow T o.op with
  | some k =>
    cases hop : o.op <;> first | (exfalso; simp [hop, idxRow] at hidx; done) | skip
    rename_i t x i
    have e := hT x (by simp [hop, Op.operands])
    have e' := hT i (by simp [hop, Op.operands])
    have hx : evalA T x = .own k := by
      rw [hop] at hidx
      simp only [idxRow] at hidx
      split at hidx
      · rename_i h hh; cases hidx; exact hh
      · cases hidx
    unfold opB
    simp only [hop, ← e, ← e', hx]
    refine indexAddrA_own (AgreeT.len.1 (hH _ ?_))
    unfold footA
    rw [if_neg hfld, hidx]
    simp
  | none =>
  have hmem10 : isCallV o.op = true → ∀ x ∈ o.op.operands, ∀ h ∈ handles H 10 (evalA T x), getH H h = getH H' h := fun hcv x hx h hh =>
    AgreeT.full.1 (hH (2 * h) (by
      unfold footA
      rw [if_neg hfld, hidx]
      simp only [hcv, if_true, List.mem_map]
      exact ⟨h, List.mem_flatMap.2 ⟨evalA T x, List.mem_map.2 ⟨x, by simpa using hx, rfl⟩, hh⟩, rfl⟩))
  have hmem9 : isCallV o.op = true → ∀ x ∈ o.op.operands, ∀ h ∈ handles H 9 (evalA T x), getH H h = getH H' h := fun hcv x hx h hh => hmem10 hcv x hx h (handles_mono 9 _ h hh)
  have hmem : ∀ x ∈ o.op.operands, ∀ h ∈ topH (evalA T x), getH H h = getH H' h := fun x hx h hh => by
    by_cases hcv : isCallV o.op = true
    · exact hmem10 hcv x hx h (topH_sub hh)
    · refine AgreeT.full.1 (hH (2 * h) ?_)
      unfold footA
      rw [if_neg hfld, hidx]
      rw [if_neg hcv]
      simp only [List.mem_map]
      exact ⟨h, List.mem_flatMap.2 ⟨evalA T x, List.mem_map.2 ⟨x, by simpa using hx, rfl⟩, hh⟩, rfl⟩
  unfold opB
  cases hop : o.op with
  | move x => simp only [hT x (by simp [hop, Op.operands])]
  | assign x => simp only [hT x (by simp [hop, Op.operands])]
  | pick c x y => simp only [hT c (by simp [hop, Op.operands]), hT x (by simp [hop, Op.operands]), hT y (by simp [hop, Op.operands])]
  | alloc e => rfl
  | box e x => simp only [hT x (by simp [hop, Op.operands])]
  | build t ps =>
    have e := partsA_congr (T := T) (T' := T') (ps := ps) fun x hx => hT x (by simpa [hop, Op.operands] using hx)
    simp only [buildA, e]
  | buildSlice t n ps =>
    have e := partsA_congr (T := T) (T' := T') (ps := ps) fun x hx => hT x (by simpa [hop, Op.operands] using hx)
    simp only [buildSliceA, e]
  | load t x =>
    have e := hT x (by simp [hop, Op.operands])
    simp only [← e]
    exact loadA_congr (hmem x (by simp [hop, Op.operands]))
  | store t x y =>
    have e := hT x (by simp [hop, Op.operands])
    have e' := hT y (by simp [hop, Op.operands])
    simp only [← e, ← e']
    exact storeA_congr (hmem x (by simp [hop, Op.operands]))
  | nilCheck x => simp only [hT x (by simp [hop, Op.operands])]
  | binOp op t x y t' => simp only [hT x (by simp [hop, Op.operands]), hT y (by simp [hop, Op.operands])]
  | unOp op t x => simp only [hT x (by simp [hop, Op.operands])]
  | convert s d x => simp only [hT x (by simp [hop, Op.operands])]
  | makeFunc fn first cap =>
    cases fn <;> first | rfl | skip
    rename_i f
    have e : cap.toList.map (evalA T') = cap.toList.map (evalA T) := List.map_congr_left fun x hx => (hT x (by simp only [hop, Op.operands, Array.mem_append]; exact .inr (by simpa using hx))).symm
    simp only [e]
  | makeSlice t l c => simp only [hT l (by simp [hop, Op.operands]), hT c (by simp [hop, Op.operands])]
  | slice t x lo hi mx =>
    cases mx with
    | some m => rfl
    | none =>
      have e := hT x (by simp [hop, Op.operands])
      have eb : ∀ n, boundsA T' lo hi n = boundsA T lo hi n := fun n => boundsA_congr (fun y hy => hT y (by simp [hop, Op.operands, hy])) (fun y hy => hT y (by simp [hop, Op.operands, hy]))
      simp only [← e]
      rw [sliceA_congr (hmem x (by simp [hop, Op.operands]))]
      simp only [sliceA, eb]
  | fieldAddr s x k => simp only [hT x (by simp [hop, Op.operands])]
  | field s x k => simp only [hT x (by simp [hop, Op.operands])]
  | indexAddr t x i =>
    have e := hT x (by simp [hop, Op.operands])
    have e' := hT i (by simp [hop, Op.operands])
    simp only [← e, ← e']
    exact indexAddrA_congr (hmem x (by simp [hop, Op.operands]))
  | index t x i => simp only [hT x (by simp [hop, Op.operands]), hT i (by simp [hop, Op.operands])]
  | extract x i => simp only [hT x (by simp [hop, Op.operands])]
  | call c =>
    obtain ⟨callee, args, ts⟩ := c
    have ea : args.toList.map (evalA T') = args.toList.map (evalA T) := List.map_congr_left fun x hx => (hT x (by simp only [hop, Op.operands, Call.operands, Array.mem_append]; exact .inr (by simpa using hx))).symm
    have hin : ∀ x ∈ args.toList, x ∈ o.op.operands := fun x hx => by simp only [hop, Op.operands, Call.operands, Array.mem_append]; exact .inr (by simpa using hx)
    cases callee with
    | value fo =>
      have e := hT fo (by simp [hop, Op.operands, Call.operands])
      simp only [← e, ea]
      cases hf : evalA T fo <;> first | rfl | skip
      rename_i f cap
      simp only
      refine callA_congr fun k hk => ?_
      rw [List.flatMap_append, List.mem_append] at hk
      rcases hk with hk | hk
      · obtain ⟨y, hy, hk⟩ := List.mem_flatMap.1 hk
        obtain ⟨x, hx, rfl⟩ := List.mem_map.1 hy
        exact hmem9 (by rw [hop]; rfl) x (hin x hx) k hk
      · refine hmem10 (by rw [hop]; rfl) fo (by simp [hop, Op.operands, Call.operands]) k ?_
        rw [hf]
        exact hk
    | invoke r m => rfl
    | builtin b =>
      cases b <;> first | rfl | skip
      ·
        dsimp only
        clear ea hop
        generalize args.toList = l at hin ⊢
        generalize ts.toList = m
        rcases l with _ | ⟨x, _ | ⟨y, _ | ⟨z, l⟩⟩⟩ <;> rcases m with _ | ⟨t, _ | ⟨t', _ | ⟨t'', m⟩⟩⟩ <;> first | rfl | skip
        simp only [← hT x (hin x (by simp)), ← hT y (hin y (by simp))]
        rw [appendA_congr (hmem x (hin x (by simp))) (hmem y (hin y (by simp)))]
      ·
        dsimp only
        clear ea hop
        generalize args.toList = l at hin ⊢
        generalize ts.toList = m
        rcases l with _ | ⟨x, _ | ⟨y, l⟩⟩ <;> rcases m with _ | ⟨t, _ | ⟨t', m⟩⟩ <;> first | rfl | skip
        simp only [← hT x (hin x (by simp)), lenA_congr (hmem x (hin x (by simp)))]
      ·
        dsimp only
        clear ea hop
        generalize args.toList = l at hin ⊢
        rcases l with _ | ⟨x, _ | ⟨y, _ | ⟨z, l⟩⟩⟩ <;> first | rfl | skip
        simp only [← hT x (hin x (by simp)), ← hT y (hin y (by simp))]
      ·
        dsimp only
        clear ea hop
        generalize args.toList = l at hin ⊢
        rcases l with _ | ⟨x, _ | ⟨y, _ | ⟨z, l⟩⟩⟩ <;> first | rfl | skip
        simp only [← hT x (hin x (by simp)), ← hT y (hin y (by simp))]
  | _ => rfl
theorem opA_congr {T T' : List AV} {H H' : Heap} {o : Oper} (hT : ∀ x ∈ o.op.operands, evalA T x = evalA T' x) (hH : ∀ t ∈ footA T H o, AgreeT H H' t) (orc : List Orc) :
    opA P τ nh T' H' o orc = opA P τ nh T H o orc := by
  unfold opA
  split
  · rename_i r orc1
    have h1 : PureOp P o T' r = PureOp P o T r := by
      unfold PureOp
      refine propext ⟨fun h E ρ hρ => h E ρ fun x hx => ?_, fun h E ρ hρ => h E ρ fun x hx => ?_⟩
      · rw [← hT x hx]; exact hρ x hx
      · rw [hT x hx]; exact hρ x hx
    have h2 : pureKind T' o.op = pureKind T o.op := by
      unfold pureKind
      split
      · rename_i op t x y t' hop
        simp only [hT x (by simp [hop, Op.operands]), hT y (by simp [hop, Op.operands])]
      · rfl
    rw [h1, h2, opB_congr hT hH]
  · exact opB_congr hT hH _
end Go.Flow
namespace Go.Flow
open Go Go.RowKit
variable {P : Program} {τ : Tab} {B : Nat} {S0 : Nat → Prop} {w0 : World} {α : Nat → Option Value} {T : List AV} {H : Heap} {a : Act} {w : World} {nh : Nat}
theorem setAt_comm : ∀ (X : Heap) (i j : Nat) (x y : Option AObj), i ≠ j → setAt (setAt X i x) j y = setAt (setAt X j y) i x
  | [], 0, 0, _, _, h => absurd rfl h
  | [], 0, j + 1, _, _, _ => rfl
  | [], i + 1, 0, _, _, _ => rfl
  | [], i + 1, j + 1, x, y, h => by simp only [setAt]; rw [setAt_comm [] i j x y (fun e => h (by rw [e]))]
  | _ :: _, 0, 0, _, _, h => absurd rfl h
  | _ :: _, 0, _ + 1, _, _, _ => rfl
  | _ :: _, _ + 1, 0, _, _, _ => rfl
  | z :: zs, i + 1, j + 1, x, y, h => by simp only [setAt]; rw [setAt_comm zs i j x y (fun e => h (by rw [e]))]
theorem applyU_setAt : ∀ (u : Upd) (X : Heap) (k : Nat) (x : Option AObj), (∀ p ∈ u, p.1 ≠ k) → applyU (setAt X k x) u = setAt (applyU X u) k x
  | [], _, _, _, _ => rfl
  | (j, y) :: u, X, k, x, h => by
    have hj := h (j, y) (by simp)
    simp only [applyU]
    rw [setAt_comm X k j x y (fun e => hj e.symm)]
    exact applyU_setAt u _ k x fun p hp => h p (List.mem_cons_of_mem _ hp)
theorem applyU_comm : ∀ (u v : Upd) (X : Heap), (∀ p ∈ u, ∀ q ∈ v, p.1 ≠ q.1) → applyU (applyU X u) v = applyU (applyU X v) u
  | [], _, _, _ => rfl
  | (k, x) :: u, v, X, h => by
    simp only [applyU]
    rw [applyU_comm u v _ fun p hp q hq => h p (List.mem_cons_of_mem _ hp) q hq, applyU_setAt v X k x fun q hq => fun e => h (k, x) (by simp) q hq e.symm]
theorem getH_applyU : ∀ (u : Upd) (X : Heap) (k : Nat), (∀ p ∈ u, p.1 ≠ k) → getH (applyU X u) k = getH X k
  | [], _, _, _ => rfl
  | (j, y) :: u, X, k, h => by
    simp only [applyU]
    rw [getH_applyU u _ k fun p hp => h p (List.mem_cons_of_mem _ hp)]
    exact getH_setAt_other _ _ _ _ fun e => h (j, y) (by simp) e.symm
theorem setAt_length_ge : ∀ (X : Heap) (k : Nat) (o : Option AObj), X.length ≤ (setAt X k o).length
  | [], _, _ => by simp
  | _ :: _, 0, _ => by simp [setAt]
  | _ :: xs, k + 1, o => by simpa [setAt] using setAt_length_ge xs k o
theorem applyU_length_ge : ∀ (u : Upd) (X : Heap), X.length ≤ (applyU X u).length
  | [], _ => Nat.le_refl _
  | (k, x) :: u, X => Nat.le_trans (setAt_length_ge X k x) (applyU_length_ge u _)
theorem putA_comm (T : List AV) {x y : Option Tmp} (v u : AV) (h : ∀ d, x = some d → y ≠ some d) : putA (putA T x v) y u = putA (putA T y u) x v := by
  cases x with
  | none => rfl
  | some d =>
    cases y with
    | none => rfl
    | some e =>
      have hne : d ≠ e := fun he => h d rfl (he ▸ rfl)
      simp only [putA]
      rw [List.set_comm _ _ hne]
theorem getD_putA {T : List AV} {d : Option Tmp} {v : AV} {k : Nat} (h : d ≠ some k) : ((putA T d v)[k]?).getD (.v undef) = (T[k]?).getD (.v undef) := by
  cases d with
  | none => rfl
  | some t =>
    have hne : t ≠ k := fun e => h (by rw [e])
    simp [putA, List.getElem?_set_ne hne]
theorem wantA_put {T : List AV} {ops : Array Oper} {o : Oper} {d : Option Tmp} {v : AV} {orc : List Orc} (h : ∀ t, d = some t → t ∉ o.looksAt ops) : wantA (putA T d v) ops o.guard orc = wantA T ops o.guard orc := by
  unfold wantA
  split
  · rfl
  · rename_i j want hg
    split
    · rename_i t ht
      have hne : d ≠ some t := fun e => h t e (by
        unfold Oper.looksAt
        rw [hg]
        simp [ht])
      rw [getD_putA hne]
    · rfl
abbrev Known := Nat → Oper → List AV → Heap → AV → Upd → Prop
def noX : Known := fun _ _ _ _ _ _ => False
structure XOk (X : Known) (F K : Nat → List Nat) (ops : Array Oper) : Prop where
  put : ∀ (i j : Nat) (o : Oper) (T : List AV) (H : Heap) (v : AV) (upd : Upd) (d : Option Tmp) (u : AV) (upd' : Upd), ops[i]? = some o → i ≠ j → (∀ t, d = some t → t ∉ o.looksAt ops) → (∀ t ∈ F i, AgreeT H (applyU H upd') t) →
    (X i o T H v upd ↔ X i o (putA T d u) (applyU H upd') v upd)
  keys : ∀ (i : Nat) (o : Oper) (T : List AV) (H : Heap) (v : AV) (upd : Upd), X i o T H v upd → ∀ p ∈ upd, 2 * p.1 ∈ K i ∧ 2 * p.1 + 1 ∈ K i
theorem noX_ok {F K : Nat → List Nat} {ops : Array Oper} : XOk noX F K ops := ⟨fun _ _ _ _ _ _ _ _ _ _ _ _ _ _ => Iff.rfl, fun _ _ _ _ _ _ h => h.elim⟩
inductive Yield (X : Known) (P : Program) (τ : Tab) (ops : Array Oper) (base i : Nat) (o : Oper) (f k : List Nat) (T : List AV) (H : Heap) (v : AV) (upd : Upd) : Prop
  | run (orc orc1 orc2 : List Orc) (c1 cs : List Prop) (h1 : wantA T ops o.guard orc = .run orc1 c1) (h2 : ∀ c ∈ c1, c) (h3 : opA P τ (base + i) T H o orc1 = .ok v upd orc2 cs) (h4 : ∀ c ∈ cs, c)
      (h5 : ∀ h ∈ footA T H o, h ∈ f) (h6 : ∀ t ∈ keysA o.op upd, t ∈ k)
  | skip (orc orc1 : List Orc) (c1 : List Prop) (h1 : wantA T ops o.guard orc = .skip orc1 c1) (h2 : ∀ c ∈ c1, c) (h3 : v = .v undef) (h4 : upd = [])
  | sem (h1 : X i o T H v upd) (h6 : ∀ p ∈ upd, 2 * p.1 ∈ k ∧ 2 * p.1 + 1 ∈ k)
theorem keysA_mem {o : Op} {upd : Upd} {p : Nat × Option AObj} (hp : p ∈ upd) : 2 * p.1 ∈ keysA o upd := by
  unfold keysA
  split
  · exact List.mem_map.2 ⟨p, hp, rfl⟩
  · exact List.mem_flatMap.2 ⟨p, hp, by simp⟩
theorem Yield.keys {X : Known} {ops : Array Oper} {base i : Nat} {o : Oper} {f k : List Nat} {v : AV} {upd : Upd} (h : Yield X P τ ops base i o f k T H v upd) : ∀ p ∈ upd, 2 * p.1 ∈ k := by
  cases h with
  | run _ _ _ _ _ _ _ _ _ _ h6 => exact fun p hp => h6 _ (keysA_mem hp)
  | skip _ _ _ _ _ _ h4 => subst h4; simp
  | sem _ h6 => exact fun p hp => (h6 p hp).1
theorem storeA_len {t : TypeId} {x y : AV} {orc orc2 : List Orc} {v : AV} {upd : Upd} {cs : List Prop} (h : storeA τ H t x y orc = .ok v upd orc2 cs) : ∃ k o', upd = [(k, o')] ∧ lenO o' = lenO (getH H k) := by
  unfold storeA at h
  split at h
  · cases h
  · split at h
    · split at h
      · split at h
        · rename_i hg
          split at h
          · cases h
            exact ⟨_, _, rfl, by rw [hg]; rfl⟩
          · cases h
        · cases h
      · split at h
        · rename_i hg
          split at h
          · split at h
            · rename_i hsz
              simp only [Bool.and_eq_true, beq_iff_eq] at hsz
              split at h
              · cases h
                exact ⟨_, _, rfl, by rw [hg]; simp [lenO, hsz.1]⟩
              · split at h
                · cases h
                  exact ⟨_, _, rfl, by rw [hg]; simp [lenO, hsz.1]⟩
                · cases h
            · cases h
          · cases h
        · cases h
      · cases h
    · cases h
theorem opA_store_len {nh : Nat} {o : Oper} {orc orc2 : List Orc} {v : AV} {upd : Upd} {cs : List Prop} (hs : isStore o.op = true) (h : opA P τ nh T H o orc = .ok v upd orc2 cs) : ∃ k o', upd = [(k, o')] ∧ lenO o' = lenO (getH H k) := by
  cases hop : o.op <;> first | (exfalso; simp [hop, isStore] at hs; done) | skip
  rename_i t x y
  have hb : opB P τ nh T H o orc = .ok v upd orc2 cs := by
    unfold opA at h
    split at h
    · split at h
      · rename_i hp
        simp [hop, pureKind] at hp
      · exact h
    · exact h
  unfold opB at hb
  simp only [hop] at hb
  exact storeA_len hb
theorem Yield.agree {X : Known} {ops : Array Oper} {base i : Nat} {o : Oper} {f k : List Nat} {v : AV} {upd : Upd} (h : Yield X P τ ops base i o f k T H v upd) {t : Nat} (ht : t ∉ k) : AgreeT H (applyU H upd) t := by
  have same : (∀ p ∈ upd, p.1 ≠ t / 2) → AgreeT H (applyU H upd) t := fun hk => by
    have := getH_applyU upd H (t / 2) hk
    unfold AgreeT
    rw [this]
    split <;> rfl
  have full : (∀ p ∈ upd, 2 * p.1 ∈ k ∧ 2 * p.1 + 1 ∈ k) → AgreeT H (applyU H upd) t := fun hk => same fun p hp e => by
    obtain ⟨h1, h2⟩ := hk p hp
    rcases Nat.mod_two_eq_zero_or_one t with hm | hm
    · exact ht (by rwa [show t = 2 * p.1 by omega])
    · exact ht (by rwa [show t = 2 * p.1 + 1 by omega])
  cases h with
  | run orc orc1 orc2 c1 cs h1 h2 h3 h4 h5 h6 =>
    by_cases hs : isStore o.op = true
    · obtain ⟨q, o', rfl, hl⟩ := opA_store_len hs h3
      have hq : 2 * q ∈ k := h6 _ (keysA_mem (p := (q, o')) (by simp))
      rcases Nat.mod_two_eq_zero_or_one t with hm | hm
      · refine same fun p hp e => ht ?_
        simp only [List.mem_singleton] at hp
        subst hp
        rwa [show t = 2 * q by simp only at e; omega]
      · unfold AgreeT
        rw [if_neg (by omega)]
        show lenO (getH H (t / 2)) = lenO (getH (setAt H q o') (t / 2))
        by_cases e : t / 2 = q
        · rw [e, getH_setAt_same, hl]
        · rw [getH_setAt_other _ _ _ _ e]
    · refine full fun p hp => ?_
      have hk : keysA o.op upd = upd.flatMap fun p => [2 * p.1, 2 * p.1 + 1] := by unfold keysA; rw [if_neg hs]
      rw [hk] at h6
      exact ⟨h6 _ (List.mem_flatMap.2 ⟨p, hp, by simp⟩), h6 _ (List.mem_flatMap.2 ⟨p, hp, by simp⟩)⟩
  | skip _ _ _ _ _ _ h4 => subst h4; exact same (by simp)
  | sem _ h6 => exact full h6
theorem Yield.congr {X : Known} {ops : Array Oper} {base i : Nat} {o : Oper} {f k : List Nat} {v : AV} {upd : Upd} {T T' : List AV} {H H' : Heap} (h : Yield X P τ ops base i o f k T H v upd) (hT : ∀ x ∈ o.op.operands, evalA T x = evalA T' x)
    (hw : ∀ orc, wantA T' ops o.guard orc = wantA T ops o.guard orc) (hH : ∀ t ∈ f, AgreeT H H' t) (hX : X i o T H v upd → X i o T' H' v upd) : Yield X P τ ops base i o f k T' H' v upd := by
  cases h with
  | run orc orc1 orc2 c1 cs h1 h2 h3 h4 h5 h6 =>
    have hfo : ∀ h ∈ footA T H o, AgreeT H H' h := fun h hh => hH h (h5 h hh)
    refine .run orc orc1 orc2 c1 cs (by rw [hw]; exact h1) h2 (by rw [opA_congr hT hfo]; exact h3) h4 ?_ h6
    have e : o.op.operands.toList.map (evalA T') = o.op.operands.toList.map (evalA T) := List.map_congr_left fun x hx => (hT x (by simpa using hx)).symm
    unfold footA at h5 hfo ⊢
    by_cases hfld : isField o.op = true
    · rw [if_pos hfld]
      intro h hh
      cases hh
    rw [if_neg hfld] at h5 hfo ⊢
    have ei : idxRow T' o.op = idxRow T o.op := by
      cases hop : o.op <;> first | rfl | skip
      rename_i t x i
      simp only [idxRow, ← hT x (by simp [hop, Op.operands])]
    rw [ei]
    cases hidx : idxRow T o.op with
    | some q => rw [hidx] at h5; exact h5
    | none =>
      rw [hidx] at h5 hfo
      simp only at h5 hfo ⊢
      by_cases hcv : isCallV o.op = true
      · rw [if_pos hcv] at h5 hfo ⊢
        rw [e, flatMap_congr_handles 10 _ fun h hh => AgreeT.full.1 (hfo (2 * h) (List.mem_map.2 ⟨h, hh, rfl⟩))]
        exact h5
      · rw [if_neg hcv] at h5 hfo ⊢
        rw [e]
        exact h5
  | skip orc orc1 c1 h1 h2 h3 h4 => exact .skip orc orc1 c1 (by rw [hw]; exact h1) h2 h3 h4
  | sem h1 h6 => exact .sem (hX h1) h6
theorem Yield.put {X : Known} {ops : Array Oper} {base i : Nat} {o : Oper} {f k : List Nat} {v : AV} {upd : Upd} {T : List AV} {H : Heap} {d : Option Tmp} {u : AV} {upd' : Upd} (hd : ∀ t, d = some t → t ∉ o.looksAt ops)
    (hk : ∀ t ∈ f, AgreeT H (applyU H upd') t) (hX : X i o T H v upd ↔ X i o (putA T d u) (applyU H upd') v upd) : Yield X P τ ops base i o f k T H v upd ↔ Yield X P τ ops base i o f k (putA T d u) (applyU H upd') v upd := by
  have hT : ∀ x ∈ o.op.operands, evalA (putA T d u) x = evalA T x := fun x hx => evalA_put fun t ht e => hd t ht (by
    subst e
    exact List.mem_append_left _ (List.mem_filterMap.2 ⟨.tmp t, by simpa using hx, rfl⟩))
  exact ⟨fun y => y.congr (fun x hx => (hT x hx).symm) (fun orc => wantA_put hd) hk hX.1, fun y => y.congr hT (fun orc => (wantA_put hd).symm) (fun h hh => (hk h hh).symm) hX.2⟩
def aAny (X : Known) (P : Program) (τ : Tab) (ops : Array Oper) (base : Nat) (F K : Nat → List Nat) (Tf : List AV) (Hf : Heap) : Nat → Array Bool → List AV → Heap → Prop
  | 0, listed, T, H => Region.ready .any ops listed = [] ∧ T = Tf ∧ H = Hf
  | fuel + 1, listed, T, H => (Region.ready .any ops listed = [] → T = Tf ∧ H = Hf) ∧
    ∀ i ∈ Region.ready .any ops listed, ∀ o, ops[i]? = some o → ∃ v upd, Yield X P τ ops base i o (F i) (K i) T H v upd ∧ aAny X P τ ops base F K Tf Hf fuel (listed.setIfInBounds i true) (putA T o.dst v) (applyU H upd)
structure Indep (base : Nat) (F K : Nat → List Nat) (i j : Nat) : Prop where
  ij : ∀ x ∈ K i, ∀ y ∈ F j, x ≠ y
  ji : ∀ x ∈ K j, ∀ y ∈ F i, x ≠ y
  kk : ∀ x ∈ K i, ∀ y ∈ K j, x ≠ y
theorem aAny_first {X : Known} {ops : Array Oper} {base : Nat} {F K : Nat → List Nat} (hXok : XOk X F K ops) {Tf : List AV} {Hf : Heap} {i : Nat} {oi : Oper} {v : AV} {upd : Upd} (hi : ops[i]? = some oi) :
    ∀ (fuel : Nat) (listed : Array Bool) (T : List AV) (H : Heap),
      (∀ (j : Nat) (oj : Oper), ops[j]? = some oj → j ≠ i → listed.getD j true = false → (∀ e ∈ oj.after, Region.binds .any e = true → e.on ≠ i) → oi.apart ops oj = true ∧ Indep base F K i j) →
      i ∈ Region.ready .any ops listed → Yield X P τ ops base i oi (F i) (K i) T H v upd →
      aAny X P τ ops base F K Tf Hf fuel (listed.setIfInBounds i true) (putA T oi.dst v) (applyU H upd) → aAny X P τ ops base F K Tf Hf (fuel + 1) listed T H := by
  intro fuel
  induction fuel with
  | zero =>
    intro listed T H _ hr hy hA
    refine ⟨fun h => (by rw [h] at hr; cases hr), fun j hj o ho => ?_⟩
    by_cases hji : j = i
    · subst hji
      rw [hi] at ho
      cases ho
      exact ⟨v, upd, hy, hA⟩
    · have := ready_mono hj hji
      rw [hA.1] at this
      cases this
  | succ fuel ih =>
    intro listed T H hfree hr hy hA
    refine ⟨fun h => (by rw [h] at hr; cases hr), fun j hj o ho => ?_⟩
    by_cases hji : j = i
    · subst hji
      rw [hi] at ho
      cases ho
      exact ⟨v, upd, hy, hA⟩
    · obtain ⟨vj, updj, yj, hA'⟩ := hA.2 j (ready_mono hj hji) o ho
      obtain ⟨hjun, oj, hoj, hall⟩ := mem_ready.1 hj
      rw [ho] at hoj
      cases hoj
      have hnot : ∀ e ∈ o.after, Region.binds .any e = true → e.on ≠ i := fun e he hb heq => by
        have h1 := hall e he hb
        have h0 := (mem_ready.1 hr).1
        rw [heq] at h1
        rcases Nat.lt_or_ge i listed.size with h' | h'
        · simp [h'] at h0 h1; rw [h0] at h1; cases h1
        · simp [Array.getElem?_eq_none h'] at h1
      obtain ⟨hap, hind⟩ := hfree j o ho hji hjun hnot
      obtain ⟨a1, a2, a3⟩ := Oper.apart_spec hap
      have kj : ∀ t ∈ F j, AgreeT H (applyU H upd) t := fun t ht => hy.agree fun hk => hind.ij _ hk t ht rfl
      have yj' : Yield X P τ ops base j o (F j) (K j) T H vj updj := (Yield.put a1 kj (hXok.put j i o T H vj updj oi.dst v upd ho hji a1 kj)).2 yj
      have ki : ∀ t ∈ F i, AgreeT H (applyU H updj) t := fun t ht => yj'.agree fun hk => hind.ji _ hk t ht rfl
      have yi' : Yield X P τ ops base i oi (F i) (K i) (putA T o.dst vj) (applyU H updj) v upd := (Yield.put a3 ki (hXok.put i j oi T H v upd o.dst vj updj hi (Ne.symm hji) a3 ki)).1 hy
      refine ⟨vj, updj, yj', ih (listed.setIfInBounds j true) _ _ (fun k ok hk hki hun hno => ?_) (ready_mono hr (Ne.symm hji)) yi' ?_⟩
      · refine hfree k ok hk hki ?_ hno
        by_cases hjk : j = k
        · subst hjk; exact hjun
        · rw [getD_set_ne true hjk] at hun; exact hun
      · rw [Array.setIfInBounds_comm _ _ hji, ← putA_comm T v vj a2, applyU_comm updj upd H fun p hp q hq e => hind.kk _ (hy.keys q hq) _ (yj.keys p hp) (by rw [e])]
        exact hA'
theorem drawA_mono {ops : Array Oper} {base : Nat} : ∀ {l : List Oper} {k : Nat} {T T' : List AV} {H H' : Heap} {orc orc' : List Orc} {cs cs' : List Prop} {fs : List (List Nat × List Nat)},
    drawA P τ ops base k l T H orc cs = .ok T' H' orc' cs' fs → (∀ c ∈ cs, c ∈ cs') ∧ fs.length = l.length
  | [], _, _, _, _, _, _, _, _, _, _, h => by
    simp only [drawA] at h
    cases h
    exact ⟨fun c hc => hc, rfl⟩
  | o :: l, k, T, T', H, H', orc, orc', cs, cs', fs, h => by
    unfold drawA at h
    split at h
    · split at h
      · split at h
        · rename_i hr
          cases h
          obtain ⟨h1, h2⟩ := drawA_mono hr
          exact ⟨fun c hc => h1 c (by simp [hc]), by simp [h2]⟩
        · rename_i r hne
          exact absurd h (hne _ _ _ _ _)
      · cases h
    · split at h
      · rename_i hr
        cases h
        obtain ⟨h1, h2⟩ := drawA_mono hr
        exact ⟨fun c hc => h1 c (by simp [hc]), by simp [h2]⟩
      · rename_i r hne
        exact absurd h (hne _ _ _ _ _)
    · cases h
theorem aAny_lex {X : Known} {ops : Array Oper} {base : Nat} {F K : Nat → List Nat} (hXok : XOk X F K ops) {Tf Te : List AV} {Hf He : Heap} {rest : Nat} (hI : ∀ (i j : Nat) (oj : Oper), i < j → ops[j]? = some oj → waits oj i = false → Indep base F K i j) :
    ∀ (l : List Oper) (k : Nat) (listed : Array Bool) (T : List AV) (H : Heap) (orc orc' : List Orc) (cs cs' : List Prop) (fs : List (List Nat × List Nat)), (∀ j : Nat, j < l.length → l[j]? = ops[k + j]?) → (∀ j, j < k → listed.getD j true = true) →
      Region.lexFrom .any ops (l.length + rest) k listed = true → drawA P τ ops base k l T H orc cs = .ok Te He orc' cs' fs → (∀ c ∈ cs', c) → (∀ (j : Nat) (p : List Nat × List Nat), fs[j]? = some p → F (k + j) = p.1 ∧ K (k + j) = p.2) →
      (∀ listed' : Array Bool, (∀ j, j < k + l.length → listed'.getD j true = true) → Region.lexFrom .any ops rest (k + l.length) listed' = true → aAny X P τ ops base F K Tf Hf rest listed' Te He) →
      aAny X P τ ops base F K Tf Hf (l.length + rest) listed T H
  | [], k, listed, T, H, orc, orc', cs, cs', fs, _, hlt, hB, h, _, _, hE => by
    simp only [drawA] at h
    cases h
    simp only [List.length_nil, Nat.zero_add, Nat.add_zero] at hB hE ⊢
    exact hE listed hlt hB
  | o :: l, k, listed, T, H, orc, orc', cs, cs', fs, hl, hlt, hB, h, hc, hF, hE => by
    have h0 : ops[k]? = some o := by simpa using (hl 0 (by simp)).symm
    rw [show (o :: l).length + rest = (l.length + rest) + 1 by simp only [List.length_cons]; omega] at hB ⊢
    simp only [Region.lexFrom, Bool.and_eq_true] at hB
    obtain ⟨⟨hr, hf⟩, hB'⟩ := hB
    have hr' : k ∈ Region.ready .any ops listed := by simpa using hr
    have hE' : ∀ listed' : Array Bool, (∀ j, j < k + 1 + l.length → listed'.getD j true = true) → Region.lexFrom .any ops rest (k + 1 + l.length) listed' = true → aAny X P τ ops base F K Tf Hf rest listed' Te He := fun ls h1 h2 => by
      refine hE ls (fun j hj => h1 j (by simp only [List.length_cons] at hj; omega)) ?_
      rw [show k + (o :: l).length = k + 1 + l.length by simp only [List.length_cons]; omega]
      exact h2
    have hl' : ∀ j : Nat, j < l.length → l[j]? = ops[k + 1 + j]? := fun j hj => by
      have := hl (j + 1) (by simp; omega)
      simpa [Nat.add_assoc, Nat.add_comm 1 j] using this
    have hlt' : ∀ j, j < k + 1 → (listed.setIfInBounds k true).getD j true = true := fun j hj => by
      by_cases e : k = j
      · subst e
        by_cases hs : k < listed.size
        · simp [hs]
        · simp [hs]
      · rw [getD_set_ne true e]
        exact hlt j (by omega)
    have hfree : ∀ (j : Nat) (oj : Oper), ops[j]? = some oj → j ≠ k → listed.getD j true = false → (∀ e ∈ oj.after, Region.binds .any e = true → e.on ≠ k) → o.apart ops oj = true ∧ Indep base F K k j := fun j oj hj hjk hun hno => by
      refine ⟨Region.free_spec h0 hf j oj hj hjk hun hno, ?_⟩
      have hkj : k < j := by
        rcases Nat.lt_trichotomy j k with h | h | h
        · rw [hlt j h] at hun; cases hun
        · exact absurd h hjk
        · exact h
      refine hI k j oj hkj hj ?_
      unfold waits
      rw [Array.any_eq_false]
      intro x hx
      have := hno _ (Array.getElem_mem hx)
      by_cases hb : Region.binds .any oj.after[x] = true
      · simpa [hb] using this hb
      · simp [hb]
    unfold drawA at h
    split at h
    · rename_i orc1 c1 hw
      split at h
      · rename_i v upd orc2 c2 hop
        split at h
        · rename_i fs1 hd
          cases h
          obtain ⟨m1, _⟩ := drawA_mono hd
          have hF0 := hF 0 _ rfl
          simp only [Nat.add_zero] at hF0
          have ih := aAny_lex hXok hI l (k + 1) (listed.setIfInBounds k true) _ _ _ _ _ _ _ hl' hlt' hB' hd hc (fun j p hp => by
            have := hF (j + 1) p (by simpa using hp)
            simpa [Nat.add_assoc, Nat.add_comm 1 j] using this) hE'
          refine aAny_first hXok h0 (l.length + rest) listed T H hfree hr' (.run orc orc1 orc2 c1 c2 hw (fun c h => hc c (m1 c (by simp [h]))) hop (fun c h => hc c (m1 c (by simp [h]))) ?_ ?_) ih
          · rw [hF0.1]; exact fun h hh => hh
          · rw [hF0.2]; exact fun t ht => ht
        · rename_i r hne
          exact absurd h (hne _ _ _ _ _)
      · cases h
    · rename_i orc1 c1 hw
      split at h
      · rename_i fs1 hd
        cases h
        obtain ⟨m1, _⟩ := drawA_mono hd
        have ih := aAny_lex hXok hI l (k + 1) (listed.setIfInBounds k true) _ _ _ _ _ _ _ hl' hlt' hB' hd hc (fun j p hp => by
          have := hF (j + 1) p (by simpa using hp)
          simpa [Nat.add_assoc, Nat.add_comm 1 j] using this) hE'
        exact aAny_first hXok h0 (l.length + rest) listed T H hfree hr' (.skip orc orc1 c1 hw (fun c h => hc c (m1 c (by simp [h]))) rfl rfl) ih
      · rename_i r hne
        exact absurd h (hne _ _ _ _ _)
    · cases h
theorem wpOp_yield (hτ : Fits P τ) (s : Sim B S0 w0 α T H a w) {ops : Array Oper} {base i : Nat} {o : Oper} {f k : List Nat} {v : AV} {upd : Upd} (hi : ops[i]? = some o) (hα : α (base + i) = none) (hn : getH H (base + i) = none)
    (hy : Yield noX P τ ops base i o f k T H v upd) {K : Act → World → Prop} {Q : Exit → Act → World → Prop}
    (hK : ∀ (α' : Nat → Option Value) (a' : Act) (w' : World), Sim B S0 w0 α' (putA T o.dst v) (applyU H upd) a' w' → (∀ q, (q ≠ base + i ∨ (applyU H upd).length ≤ q) → α' q = α q) → K a' w') : wpOp P ops Q i K a w := by
  unfold wpOp
  simp only [hi]
  cases hy with
  | run orc orc1 orc2 c1 cs h1 h2 h3 h4 h5 h6 =>
    simp only [want_run s h1 h2, if_true]
    exact .inl (op_sound hτ s hα hn h3 h4 K Q fun α' w' u s' hf hr => hK α' _ w' (s'.putA hr) hf)
  | skip orc orc1 c1 h1 h2 h3 h4 =>
    subst h3
    subst h4
    simp only [want_skip s h1 h2, Bool.false_eq_true, if_false]
    exact hK α _ w (s.putA (.v _)) fun _ _ => rfl
  | sem h1 _ => exact h1.elim
theorem not_waits {ops : Array Oper} {i j : Nat} {o : Oper} {listed : Array Bool} (ho : ops[i]? = some o) (hall : ∀ e ∈ o.after, Region.binds .any e = true → listed.getD e.on false = true) (hun : listed.getD j true = false) :
    ∀ o', ops[i]? = some o' → waits o' j = false := fun o' ho' => by
  rw [ho] at ho'
  cases ho'
  cases hw : waits o j with
  | false => rfl
  | true =>
    unfold waits at hw
    rw [Array.any_eq_true'] at hw
    obtain ⟨e, he, hb⟩ := hw
    simp only [Bool.and_eq_true, beq_iff_eq] at hb
    have h1 := hall e he hb.1
    rw [hb.2] at h1
    rcases Nat.lt_or_ge j listed.size with h' | h'
    · simp [h'] at h1 hun
      rw [h1] at hun
      cases hun
    · simp [Array.getElem?_eq_none h'] at h1
theorem wpAny_of_aAny (hτ : Fits P τ) {ops : Array Oper} {base : Nat} {F K : Nat → List Nat} {Tf : List AV} {Hf : Heap} (hN : ∀ i j, i ≠ j → i < ops.size → j < ops.size → (∀ o, ops[j]? = some o → waits o i = false) → 2 * (base + i) ∉ K j) {Q : Exit → Act → World → Prop}
    (hQ : ∀ (α : Nat → Option Value) (a : Act) (w : World), Sim B S0 w0 α Tf Hf a w → Fresh α Hf → Q .normal a w) :
    ∀ (fuel : Nat) (listed : Array Bool) (T : List AV) (H : Heap) (α : Nat → Option Value) (a : Act) (w : World), aAny noX P τ ops base F K Tf Hf fuel listed T H → Sim B S0 w0 α T H a w → Fresh α H →
      (∀ i, i < ops.size → listed.getD i true = false → α (base + i) = none ∧ getH H (base + i) = none) → wpAny P .any ops Q fuel listed a w
  | 0, listed, T, H, α, a, w, hA, s, hf, _ => by
    obtain ⟨h1, rfl, rfl⟩ := hA
    exact ⟨h1, hQ α a w s hf⟩
  | fuel + 1, listed, T, H, α, a, w, hA, s, hf, hu => by
    refine ⟨fun h0 => ?_, fun i hi => ?_⟩
    · obtain ⟨rfl, rfl⟩ := hA.1 h0
      exact hQ α a w s hf
    · obtain ⟨hun, o, ho, hall⟩ := mem_ready.1 hi
      obtain ⟨v, upd, hy, hA'⟩ := hA.2 i hi o ho
      have hsz : i < ops.size := (Array.getElem?_eq_some_iff.1 ho).1
      obtain ⟨hα, hn⟩ := hu i hsz hun
      refine wpOp_yield hτ s ho hα hn hy fun α' a' w' s' hfr => ?_
      refine wpAny_of_aAny hτ hN hQ fuel _ _ _ α' a' w' hA' s' (fun q hq => ?_) fun j hj hunj => ?_
      · rw [hfr q (.inr hq)]
        exact hf q (Nat.le_trans (applyU_length_ge upd H) hq)
      · have hij : i ≠ j := fun e => by
          subst e
          by_cases hs : i < listed.size
          · simp [hs] at hunj
          · simp [hs] at hunj
        rw [getD_set_ne true hij] at hunj
        obtain ⟨g1, g2⟩ := hu j hj hunj
        refine ⟨?_, ?_⟩
        · rw [hfr (base + j) (.inl (by omega))]
          exact g1
        · rw [getH_applyU upd H _ fun p hp e => hN j i (Ne.symm hij) hj hsz (not_waits ho hall hunj) (by rw [← e]; exact hy.keys p hp)]
          exact g2
theorem disj_spec {xs ys : List Nat} (h : disj xs ys = true) : ∀ x ∈ xs, ∀ y ∈ ys, x ≠ y := fun x hx y hy e => by
  subst e
  have := List.all_eq_true.1 h x hx
  simp [hy] at this
theorem zip_get {β γ : Type} {l : List β} {m : List γ} {i : Nat} {x : β} {y : γ} (h1 : l[i]? = some x) (h2 : m[i]? = some y) : (x, y) ∈ l.zip m := by
  refine List.mem_of_getElem? (i := i) ?_
  rw [List.getElem?_zip_eq_some]
  exact ⟨h1, h2⟩
theorem apartA_spec {base : Nat} : ∀ {l : List Oper} {fs : List (List Nat × List Nat)} {k : Nat}, apartA base k l fs = true → l.length = fs.length →
    ∀ (i j : Nat) (oj : Oper) (p q : List Nat × List Nat), i < j → l[j]? = some oj → fs[i]? = some p → fs[j]? = some q →
      (waits oj (k + i) = false → disj p.2 q.1 = true ∧ disj q.2 p.1 = true ∧ disj p.2 q.2 = true) ∧ (waits oj (k + i) = false → 2 * (base + (k + i)) ∉ q.2) ∧ 2 * (base + (k + j)) ∉ p.2
  | [], fs, k, _, hl, i, j, oj, p, q, _, h1, _, _ => by simp at h1
  | _ :: _, [], k, _, hl, _, _, _, _, _, _, _, _, _ => by simp at hl
  | o :: l, (f, kk) :: fs, k, h, hl, 0, 0, oj, p, q, hij, h1, h2, h3 => by omega
  | o :: l, (f, kk) :: fs, k, h, hl, 0, j + 1, oj, p, q, hij, h1, h2, h3 => by
    simp only [apartA, Bool.and_eq_true] at h
    obtain ⟨⟨ha, hb⟩, _⟩ := h
    cases h2
    have h1' : l[j]? = some oj := by simpa using h1
    have h3' : fs[j]? = some q := by simpa using h3
    have z1 := List.all_eq_true.1 ha _ (zip_get h1' h3')
    simp only [Bool.or_eq_true, Bool.and_eq_true] at z1
    have hz : (l.zip fs)[j]? = some (oj, q) := by
      rw [List.getElem?_zip_eq_some]
      exact ⟨h1', h3'⟩
    have z2 := List.all_eq_true.1 hb ((oj, q), j + (k + 1)) (by
      refine List.mem_of_getElem? (i := j) ?_
      rw [List.getElem?_zipIdx, hz]
      simp [Nat.add_comm])
    simp only [Bool.and_eq_true, Bool.or_eq_true, Bool.not_eq_true', List.contains_eq_mem, decide_eq_false_iff_not] at z2
    refine ⟨fun hw => ?_, fun hw => (by
      have hw' : waits oj k = false := by simpa using hw
      rcases z2.1 with z | z
      · rw [hw'] at z; cases z
      · simpa using z), by
      have := z2.2
      rwa [show base + (j + (k + 1)) = base + (k + (j + 1)) from by omega] at this⟩
    have hw' : waits oj k = false := by simpa using hw
    rcases z1 with z1 | z1
    · rw [hw'] at z1; cases z1
    · exact ⟨z1.1.1, z1.1.2, z1.2⟩
  | o :: l, (f, kk) :: fs, k, h, hl, i + 1, 0, oj, p, q, hij, _, _, _ => by omega
  | o :: l, (f, kk) :: fs, k, h, hl, i + 1, j + 1, oj, p, q, hij, h1, h2, h3 => by
    simp only [apartA, Bool.and_eq_true] at h
    have ih := apartA_spec h.2 (by simpa using hl) i j oj p q (by omega) (by simpa using h1) (by simpa using h2) (by simpa using h3)
    simpa [Nat.add_assoc, Nat.add_comm 1] using ih
theorem draw_prep {ops : Array Oper} {T T' : List AV} {H H' : Heap} {orc orc' : List Orc} {cs cs' : List Prop} {fs : List (List Nat × List Nat)}
    (h : drawA P τ ops H.length 0 ops.toList T H orc cs = .ok T' H' orc' cs' fs) (hB : Region.lexB .any ops = true) (hA : apartA H.length 0 ops.toList fs = true) (hc : ∀ c ∈ cs', c) :
    aAny noX P τ ops H.length (fun i => ((fs[i]?).getD ([], [])).1) (fun i => ((fs[i]?).getD ([], [])).2) T' H' ops.size (Array.replicate ops.size false) T H ∧
      ∀ i j, i ≠ j → i < ops.size → j < ops.size → (∀ o, ops[j]? = some o → waits o i = false) → 2 * (H.length + i) ∉ ((fs[j]?).getD ([], [])).2 := by
  simp only [Region.lexB, Bool.and_eq_true] at hB
  obtain ⟨hmono, hlen⟩ := drawA_mono h
  have hsp := apartA_spec hA hlen.symm
  have hfs : ∀ i, i < ops.size → ∃ p, fs[i]? = some p := fun i hi => ⟨fs[i]'(by rw [hlen]; simpa using hi), List.getElem?_eq_getElem _⟩
  have hlex := aAny_lex (X := noX) noX_ok (rest := 0) (P := P) (τ := τ) (base := H.length) (F := fun i => ((fs[i]?).getD ([], [])).1) (K := fun i => ((fs[i]?).getD ([], [])).2) (Tf := T') (Hf := H') (ops := ops) (fun i j oj hij hj hw => by
    have hjs : j < ops.size := (Array.getElem?_eq_some_iff.1 hj).1
    obtain ⟨p, hp⟩ := hfs i (by omega)
    obtain ⟨q, hq⟩ := hfs j hjs
    obtain ⟨h1, h2, h3⟩ := (hsp i j oj p q hij (by simpa using hj) hp hq).1 (by simpa using hw)
    exact ⟨by simp only [hp, hq, Option.getD_some]; exact disj_spec h1, by simp only [hp, hq, Option.getD_some]; exact disj_spec h2, by simp only [hp, hq, Option.getD_some]; exact disj_spec h3⟩) ops.toList 0 (Array.replicate ops.size false) T H orc orc' cs cs' fs (by simp) (by intro j hj; omega) (by simpa using hB.2) h hc
    (fun j p hp => by simp [hp]) (fun ls _ h2 => ⟨by simpa [Region.lexFrom] using h2, rfl, rfl⟩)
  have hlen' : ops.toList.length = ops.size := by simp
  rw [Nat.add_zero, hlen'] at hlex
  refine ⟨hlex, fun i j hij hi hj hwt => ?_⟩
  obtain ⟨p, hp⟩ := hfs i hi
  obtain ⟨q, hq⟩ := hfs j hj
  simp only [hq, Option.getD_some]
  rcases Nat.lt_or_gt_of_ne hij with hlt | hgt
  · have := (hsp i j ops[j] p q hlt (by simp [hj]) hp hq).2.1 (by simpa using hwt _ (Array.getElem?_eq_getElem hj))
    simpa using this
  · have := (hsp j i ops[i] q p hgt (by simp [hi]) hq hp).2.2
    simpa using this
theorem draw_sound (hτ : Fits P τ) (hm : P.follows .mixedOrders = true) {id : Nat} {ops : Array Oper} {T T' : List AV} {H H' : Heap} {orc orc' : List Orc} {cs cs' : List Prop} {fs : List (List Nat × List Nat)}
    (h : drawA P τ ops H.length 0 ops.toList T H orc cs = .ok T' H' orc' cs' fs) (hB : Region.lexB .any ops = true) (hA : apartA H.length 0 ops.toList fs = true) (hc : ∀ c ∈ cs', c) : Goes P (.region id ops true) T H .normal T' H' := by
  intro B S0 w0 α a w s hf Q hQ
  obtain ⟨hlex, hN⟩ := draw_prep h hB hA hc
  refine wp_region_any hm ?_
  refine wpAny_of_aAny (B := B) (S0 := S0) (w0 := w0) hτ hN (fun α' a' w' s' hf' => hQ α' a' w' s' hf') ops.size (Array.replicate ops.size false) T H α a _ hlex s.drew hf (fun i _ _ => ?_)
  refine ⟨hf _ (by omega), ?_⟩
  simp [getH]
end Go.Flow
namespace Go.Flow
open Go Go.RowKit
variable {P : Program} {τ : Tab} {B : Nat} {S0 : Nat → Prop} {w0 : World} {α : Nat → Option Value} {a : Act} {w : World}
section
variable {T : List AV} {H : Heap}
theorem setAt_end : ∀ (H : Heap) (o : Option AObj), setAt H H.length o = H ++ [o]
  | [], _ => rfl
  | _ :: xs, o => by simp only [List.length_cons, setAt, List.cons_append, setAt_end xs o]
theorem getH_end {H : Heap} : getH H H.length = none := by simp [getH]
theorem fresh_upd {v : Value} (hf : Fresh α H) {o : Option AObj} : Fresh (updα α H.length v) (H ++ [o]) := fun k hk => by
  simp only [List.length_append, List.length_singleton] at hk
  rw [updα_other α v (by omega)]
  exact hf k (by omega)
theorem Sim.pushGhost (s : Sim B S0 w0 α T H a w) (hf : Fresh α H) {us : List Value} {xs : List AV} (hr : RepL (envOf B S0 α H w) xs us) :
    Sim B S0 w0 (updα α H.length undef) T (H ++ [some (.ghost us xs)]) a w := by
  have := s.adopt (nh := H.length) (o := .ghost us xs) (v := undef) (w' := w) (hf _ (Nat.le_refl _)) (Below.refl _ _) (fun b hb => by simp [undef, blk] at hb)
    (fun hle => ⟨updα_same _ _ _, hr.mono hle⟩)
  rwa [setAt_end] at this
theorem Sim.drop (s : Sim B S0 w0 α T H a w) {H' : Heap} (hH : ∀ k o, getH H' k = some o → getH H k = some o) (hx : ∀ k x, getH H k = some (.aux x) → x.live = true → getH H' k = some (.aux x)) :
    (envOf B S0 α H w).Le (envOf B S0 α H' w) ∧ Sim B S0 w0 α T H' a w := by
  have hle : (envOf B S0 α H w).Le (envOf B S0 α H' w) := ⟨fun _ _ h => h, fun b hb => ⟨hb.1, hb.2.1, fun k o v h1 h2 h3 => hb.2.2 k o v (hH k o h1) h2 h3⟩, fun _ _ => rfl⟩
  refine ⟨hle, s.below, s.base, s.defers.imp fun h D p h1 h2 => ⟨h, p, hx h _ h1 rfl, h2⟩, s.tmps.mono hle, fun k o ho => (s.objs k o (hH k o ho)).mono hle fun _ _ _ _ => rfl,
    fun k k' o o' v v' b h1 h2 hne a1 a2 b1 => s.inj k k' o o' v v' b (hH k o h1) (hH k' o' h2) hne a1 a2 b1, s.grd⟩
theorem opI_sound (hτ : Fits P τ) (s : Sim B S0 w0 α T H a w) (hf : Fresh α H) {o : Oper} {orc orc' : List Orc} {v : AV} {H' : Heap} {cs : List Prop} (h : opI P τ T H o orc = .ok v H' orc' cs) (hc : ∀ c ∈ cs, c)
    (K : Act → World → Prop) (Q : Exit → Act → World → Prop) (hK : ∀ (α' : Nat → Option Value) (w' : World) (u : Value), Sim B S0 w0 α' T H' a w' → Fresh α' H' → Rep (envOf B S0 α' H' w') v u → K (a.put o.dst u) w') : o.wp P a w K Q := by
  unfold opI at h
  split at h
  · rename_i r hop
    subst h
    refine opM_sound hτ s (hf _ (Nat.le_refl _)) hop hc _ Q fun α' w' u s' hfr hr => hK α' w' u s' (fun k hk => ?_) hr
    rw [hfr k (.inr hk)]
    exact hf k (Nat.le_trans (opM_length hop) hk)
  split at h
  · rename_i H2 r orc1 fo args ts ho _
    split at h
    rotate_left
    · cases h
    rename_i f cap hfo
    cases h
    obtain ⟨hbody, hnone, hlt, hI⟩ := hc _ (List.mem_singleton.2 rfl)
    have hx := s.eval fo
    rw [hfo] at hx
    obtain ⟨cus, hfv, hcap⟩ := hx.inv_fn
    have hargs : RepL (envOf B S0 α H w) (args.toList.map (evalA T) ++ cap) (args.toList.map a.eval ++ cus) := (s.evalL args.toList).append hcap
    have harr : args.map a.eval ++ cus.toArray = (args.toList.map a.eval ++ cus).toArray := by
      apply Array.ext'
      simp
    unfold Oper.wp
    rw [run_call_value hbody ho hfv, harr]
    have s1 := (s.reframe (T' := args.toList.map (evalA T) ++ cap) (a' := { tmps := (args.toList.map a.eval ++ cus).toArray, defers := [] }) hargs .nil).pushGhost hf (us := a.tmps.toList) (xs := T) s.tmps
    refine (hI B S0 w0 _ _ w a.tmps.toList T s1 (fun k hk => by rw [updα_other α undef (by omega)]; exact hf k (by omega))).mono ?_
    rintro e w' ⟨u, α', H3, rfl, hH3, s3, hfr, hm⟩
    have hg : getH H3 H.length = some (.ghost a.tmps.toList T) := by rw [hH3, getH_setAt_same]
    have hlive : ∀ k x, getH H k = some (.aux x) → x.live = true → getH H3 k = some (.aux x) ∧ α' k = α k := fun k x hk hv => by
      obtain ⟨h1, h2⟩ := hm k x hk hv
      have hne : k ≠ H.length := fun e => by rw [e, getH_end] at hk; cases hk
      refine ⟨?_, h2.trans (updα_other α undef hne)⟩
      rw [hH3, getH_setAt_other _ _ _ _ (fun e => by rw [e, getH_end] at hk; cases hk)]
      exact h1
    have s4 := s3.reframe (T' := T) (a' := a) (s3.objs _ _ hg).2 (s.defers.imp fun k D p h1 h2 => ⟨k, p, (hlive k _ h1 rfl).1, by rw [(hlive k _ h1 rfl).2]; exact h2⟩)
    have hsub : ∀ k o, getH H' k = some o → getH H3 k = some o := fun k o hk => by
      rw [hH3, getH_setAt_other _ _ _ _ (fun e => by rw [e, hnone] at hk; cases hk)]
      exact hk
    have hsx : ∀ k x, getH H3 k = some (.aux x) → x.live = true → getH H' k = some (.aux x) := fun k x hk _ => by
      rw [hH3] at hk
      by_cases e : k = H.length
      · rw [e, getH_setAt_same] at hk; cases hk
      · rw [getH_setAt_other _ _ _ _ e] at hk; exact hk
    obtain ⟨hle, s5⟩ := s4.drop hsub hsx
    have hru : Rep (envOf B S0 α' H3 w') v u := by
      have := s3.tmps
      cases this with
      | cons _ _ _ _ hx _ => exact hx
    exact hK α' w' u s5 (fun k hk => hfr k hk) (hru.mono hle)
  · split at h
    · rename_i v1 upd orc2 c2 hop
      cases h
      refine op_sound hτ s (hf _ (Nat.le_refl _)) (by simp [getH]) hop hc _ Q fun α' w' u s' hfr hr => hK α' w' u s' (fun k hk => ?_) hr
      rw [hfr k (.inr hk)]
      exact hf k (Nat.le_trans (applyU_length_ge upd H) hk)
    · cases h
end
theorem opsA_mono {ops : Array Oper} : ∀ {l : List Oper} {T T' : List AV} {H H' : Heap} {orc orc' : List Orc} {cs cs' : List Prop} {fs : List (List Nat × List Nat)},
    opsA P τ ops l T H orc cs = .ok T' H' orc' cs' fs → ∀ c ∈ cs, c ∈ cs'
  | [], _, _, _, _, _, _, _, _, _, h => by
    simp only [opsA] at h
    cases h
    exact fun c hc => hc
  | o :: l, T, T', H, H', orc, orc', cs, cs', fs, h => by
    unfold opsA at h
    split at h
    split at h
    · split at h
      · exact fun c hc => opsA_mono h c (by simp [hc])
      · cases h
    · exact fun c hc => opsA_mono h c (by simp [hc])
    · cases h
theorem conv_sound {T T1 : List AV} {H H1 : Heap} {orc orc1 : List Orc} {c0 : List Prop} (h : conv T H orc = ⟨T1, H1, orc1, c0⟩) (hc : ∀ c ∈ c0, c) (s : Sim B S0 w0 α T H a w) (hf : Fresh α H) :
    ∃ α' : Nat → Option Value, Sim B S0 w0 α' T1 H1 a w ∧ Fresh α' H1 := by
  unfold conv at h
  split at h
  · cases h
    exact hc _ (List.mem_singleton.2 rfl) B S0 w0 α a w s hf
  · cases h
    exact ⟨α, s, hf⟩
theorem opsA_sound (hτ : Fits P τ) {ops : Array Oper} : ∀ {l : List Oper} {T T' : List AV} {H H' : Heap} {orc orc' : List Orc} {cs cs' : List Prop} {fs : List (List Nat × List Nat)} {α : Nat → Option Value} {a : Act} {w : World},
    opsA P τ ops l T H orc cs = .ok T' H' orc' cs' fs → (∀ c ∈ cs', c) → Sim B S0 w0 α T H a w → Fresh α H → ∀ Q : Exit → Act → World → Prop,
      (∀ (α' : Nat → Option Value) (a' : Act) (w' : World), Sim B S0 w0 α' T' H' a' w' → Fresh α' H' → Q .normal a' w') → wpList P ops Q l a w
  | [], _, _, _, _, _, _, _, _, _, α, a, w, h, _, s, hf, Q, hQ => by
    simp only [opsA] at h
    cases h
    exact hQ α a w s hf
  | o :: l, T, T', H, H', orc, orc', cs, cs', fs, α, a, w, h, hc, s, hf, Q, hQ => by
    unfold opsA at h
    unfold wpList
    split at h
    rename_i T0 H0 orc0 c0 hcv
    have h0m : ∀ c ∈ c0, c := fun c h0 => hc c (by
      split at h
      · split at h
        · exact opsA_mono h c (by simp [h0])
        · cases h
      · exact opsA_mono h c (by simp [h0])
      · cases h)
    obtain ⟨α0, s, hf⟩ := conv_sound hcv h0m s hf
    split at h
    · rename_i orc1 c1 hw
      split at h
      · rename_i v H1 orc2 c2 hop
        have hm := opsA_mono h
        rw [if_pos (want_run s hw fun c h => hc c (hm c (by simp [h])))]
        exact .inl (opI_sound hτ s hf hop (fun c h => hc c (hm c (by simp [h]))) _ Q fun α' w' u s' hf' hr => opsA_sound hτ h hc (s'.putA hr) hf' Q hQ)
      · cases h
    · rename_i orc1 c1 hw
      have hm := opsA_mono h
      rw [if_neg (by rw [want_skip s hw fun c h => hc c (hm c (by simp [h]))]; simp)]
      exact opsA_sound hτ h hc (s.putA (.v _)) hf Q hQ
    · cases h
section
variable {T T' T1 : List AV} {H H' H1 : Heap} {ex : Ex} {c c' : Code}
theorem Goes.seq (h1 : Goes P c T H .normal T1 H1) (h2 : Goes P c' T1 H1 ex T' H') : Goes P (.seq c c') T H ex T' H' :=
  fun B S0 w0 α a w s hf Q hQ => wp_seq (h1 B S0 w0 α a w s hf _ fun α' a' w' s' hf' => h2 B S0 w0 α' a' w' s' hf' Q hQ)
theorem Goes.seq_out (h1 : Goes P c T H ex T' H') (hne : ex ≠ .normal) : Goes P (.seq c c') T H ex T' H' :=
  fun B S0 w0 α a w s hf Q hQ => wp_seq (h1 B S0 w0 α a w s hf _ fun α' a' w' s' hf' => by
    have := hQ α' a' w' s' hf'
    cases ex <;> first | exact absurd rfl hne | exact this)
theorem Goes.cond_true {x : Operand} (hx : evalA T x = .v (.bool true)) (h : Goes P c T H ex T' H') : Goes P (.cond x c c') T H ex T' H' :=
  fun B S0 w0 α a w s hf Q hQ => wp_cond_true (by have := s.eval x; rw [hx] at this; exact this.inv_v) (h B S0 w0 α a w s hf Q hQ)
theorem Goes.cond_false {x : Operand} (hx : evalA T x = .v (.bool false)) (h : Goes P c' T H ex T' H') : Goes P (.cond x c c') T H ex T' H' :=
  fun B S0 w0 α a w s hf Q hQ => wp_cond_false (by have := s.eval x; rw [hx] at this; exact this.inv_v) (h B S0 w0 α a w s hf Q hQ)
theorem Goes.block_exit {id : Nat} (h : Goes P c T H (.exit id) T' H') : Goes P (.block id c) T H .normal T' H' :=
  fun B S0 w0 α a w s hf Q hQ => wp_block (h B S0 w0 α a w s hf _ fun α' a' w' s' hf' => by
    have := hQ α' a' w' s' hf'
    simpa [Exit.inBlock, Ex.toExit] using this)
theorem Goes.block_out {id : Nat} (h : Goes P c T H ex T' H') (hne : ex ≠ .exit id) : Goes P (.block id c) T H ex T' H' :=
  fun B S0 w0 α a w s hf Q hQ => wp_block (h B S0 w0 α a w s hf _ fun α' a' w' s' hf' => by
    have := hQ α' a' w' s' hf'
    cases ex with
    | normal => exact this
    | ret => exact this
    | exit j =>
      have hj : ¬ j = id := fun e => hne (by rw [e])
      simpa [Exit.inBlock, Ex.toExit, hj] using this)
theorem Sim.keep (s : Sim B S0 w0 α T H a w) (k : Nat) : Sim B S0 w0 α (keepA k T) H a w := by
  refine ⟨s.below, s.base, s.defers, ?_, s.objs, s.inj, s.grd⟩
  refine RepL.of_get ?_ fun i x u hx hu => ?_
  · rw [s.tmps.length]
    simp [keepA]
    omega
  · unfold keepA at hx
    by_cases hi : i < (T.take k).length
    · rw [List.getElem?_append_left hi, List.getElem?_take] at hx
      split at hx
      · obtain ⟨u', hu', hr⟩ := s.tmps.get hx
        rw [hu] at hu'
        cases hu'
        exact hr
      · cases hx
    · rw [List.getElem?_append_right (by omega), List.getElem?_replicate] at hx
      split at hx
      · cases hx
        exact .any _
      · cases hx
theorem Goes.keep (k : Nat) (h : Goes P c (keepA k T) H ex T' H') : Goes P c T H ex T' H' :=
  fun B S0 w0 α a w s hf Q hQ => h B S0 w0 α a w (s.keep k) hf Q hQ
def Rounds (P : Program) (c : Code) (n : Nat) (T : List AV) (H : Heap) (ex : Ex) (T' : List AV) (H' : Heap) : Prop :=
  ∀ (B : Nat) (S0 : Nat → Prop) (w0 : World) (α : Nat → Option Value) (a : Act) (w : World), Sim B S0 w0 α T H a w → Fresh α H → ∀ Q : Exit → Act → World → Prop,
    (∀ (α' : Nat → Option Value) (a' : Act) (w' : World), Sim B S0 w0 α' T' H' a' w' → Fresh α' H' → Q ex.toExit a' w') → Code.rounds P c Q n a w
theorem Rounds.step {n : Nat} (h1 : Goes P c T H .normal T1 H1) (h2 : Rounds P c n T1 H1 ex T' H') : Rounds P c (n + 1) T H ex T' H' :=
  fun B S0 w0 α a w s hf Q hQ => h1 B S0 w0 α a w s hf _ fun α' a' w' s' hf' => h2 B S0 w0 α' a' w' s' hf' Q hQ
theorem Rounds.out (n : Nat) (h1 : Goes P c T H ex T' H') (hne : ex ≠ .normal) : Rounds P c (n + 1) T H ex T' H' :=
  fun B S0 w0 α a w s hf Q hQ => h1 B S0 w0 α a w s hf _ fun α' a' w' s' hf' => by
    have := hQ α' a' w' s' hf'
    cases ex <;> first | exact absurd rfl hne | exact this
theorem Rounds.keep {n : Nat} (k : Nat) (h : Rounds P c n (keepA k T) H ex T' H') : Rounds P c n T H ex T' H' :=
  fun B S0 w0 α a w s hf Q hQ => h B S0 w0 α a w (s.keep k) hf Q hQ
theorem Goes.loop {n : Nat} (h : Rounds P c n T H ex T' H') : Goes P (.loop c) T H ex T' H' :=
  fun B S0 w0 α a w s hf Q hQ => wp_loop_rounds n (h B S0 w0 α a w s hf Q hQ)
end
theorem iterC_mono {f : List AV → Heap → List Orc → List Prop → CRes} (hf : ∀ {T T' H H' orc orc' cs cs' ex}, f T H orc cs = .ok ex T' H' orc' cs' → ∀ c ∈ cs, c ∈ cs') :
    ∀ (n : Nat) {T T' : List AV} {H H' : Heap} {orc orc' : List Orc} {cs cs' : List Prop} {ex : Ex}, iterC f n T H orc cs = .ok ex T' H' orc' cs' → ∀ c ∈ cs, c ∈ cs'
  | 0, _, _, _, _, _, _, _, _, _, h => by simp only [iterC] at h; cases h
  | n + 1, T, T', H, H', orc, orc', cs, cs', ex, h => by
    unfold iterC at h
    split at h
    · rename_i h1
      exact fun c hc => iterC_mono hf n h c (hf h1 c hc)
    · exact hf h
theorem evC_mono : ∀ (c : Code) {T T' : List AV} {H H' : Heap} {orc orc' : List Orc} {cs cs' : List Prop} {ex : Ex}, evC P τ c T H orc cs = .ok ex T' H' orc' cs' → ∀ p ∈ cs, p ∈ cs' := by
  intro c
  induction c with
  | skip => intro T T' H H' orc orc' cs cs' ex h; simp only [evC] at h; cases h; exact fun p hp => hp
  | region id ops draw =>
    intro T T' H H' orc orc' cs cs' ex h
    cases draw with
    | false =>
      simp only [evC] at h
      split at h
      · rename_i h1; cases h; exact opsA_mono h1
      · cases h
    | true =>
      simp only [evC] at h
      split at h
      · rename_i h1
        split at h
        · cases h; exact (drawA_mono h1).1
        · cases h
      · cases h
  | seq x y ihx ihy =>
    intro T T' H H' orc orc' cs cs' ex h
    simp only [evC] at h
    split at h
    · rename_i h1
      exact fun p hp => ihy h p (ihx h1 p hp)
    · exact ihx h
  | cond c x y ihx ihy =>
    intro T T' H H' orc orc' cs cs' ex h
    simp only [evC] at h
    split at h
    · exact fun p hp => ihx h p (by simp [hp])
    · exact fun p hp => ihy h p (by simp [hp])
    · cases h
  | block id x ih =>
    intro T T' H H' orc orc' cs cs' ex h
    simp only [evC] at h
    split at h
    · rename_i h1
      split at h
      · cases h; exact ih h1
      · cases h; exact ih h1
    · exact ih h
  | loop x ih =>
    intro T T' H H' orc orc' cs cs' ex h
    simp only [evC] at h
    split at h
    · cases h; exact fun p hp => by simp [hp]
    · exact iterC_mono (fun {T T' H H' orc orc' cs cs' ex} h => ih h) _ h
    · cases h
  | rangeFunc f ps sa x _ _ =>
    intro T T' H H' orc orc' cs cs' ex h
    simp only [evC] at h
    split at h
    · cases h; exact fun p hp => by simp [hp]
    · cases h
  | exit id => intro T T' H H' orc orc' cs cs' ex h; simp only [evC] at h; cases h; exact fun p hp => hp
  | ret => intro T T' H H' orc orc' cs cs' ex h; simp only [evC] at h; cases h; exact fun p hp => hp
  | scope x _ => intro T T' H H' orc orc' cs cs' ex h; simp only [evC] at h; cases h
  | label l => intro T T' H H' orc orc' cs cs' ex h; simp only [evC] at h; cases h
  | goto l => intro T T' H H' orc orc' cs cs' ex h; simp only [evC] at h; cases h
  | refuse s => intro T T' H H' orc orc' cs cs' ex h; simp only [evC] at h; cases h
theorem evC_sound (hτ : Fits P τ) (hm : P.follows .mixedOrders = true) : ∀ (c : Code) {T T' : List AV} {H H' : Heap} {orc orc' : List Orc} {cs cs' : List Prop} {ex : Ex}, evC P τ c T H orc cs = .ok ex T' H' orc' cs' → (∀ p ∈ cs', p) →
    Goes P c T H ex T' H' := by
  intro c
  induction c with
  | skip => intro T T' H H' orc orc' cs cs' ex h _; simp only [evC] at h; cases h; exact fun B S0 w0 α a w s hf Q hQ => wp_skip (hQ α a w s hf)
  | region id ops draw =>
    intro T T' H H' orc orc' cs cs' ex h hc
    cases draw with
    | false =>
      simp only [evC] at h
      split at h
      · rename_i h1
        cases h
        exact fun B S0 w0 α a w s hf Q hQ => wp_region_list (opsA_sound hτ h1 hc s hf Q hQ)
      · cases h
    | true =>
      simp only [evC] at h
      split at h
      · rename_i h1
        split at h
        · rename_i hcond
          cases h
          simp only [Bool.and_eq_true] at hcond
          exact draw_sound hτ hm h1 hcond.1 hcond.2 hc
        · cases h
      · cases h
  | seq x y ihx ihy =>
    intro T T' H H' orc orc' cs cs' ex h hc
    simp only [evC] at h
    split at h
    · rename_i h1
      exact (ihx h1 fun p hp => hc p (evC_mono y h p hp)).seq (ihy h hc)
    · rename_i r hne
      refine (ihx h hc).seq_out fun e => ?_
      subst e
      exact hne _ _ _ _ h
  | cond c x y ihx ihy =>
    intro T T' H H' orc orc' cs cs' ex h hc
    simp only [evC] at h
    split at h
    · rename_i t orc1 he
      have ht : t = true := hc _ (evC_mono x h _ (by simp))
      subst ht
      exact .cond_true he (ihx h hc)
    · rename_i t orc1 he
      have ht : t = false := hc _ (evC_mono y h _ (by simp))
      subst ht
      exact .cond_false he (ihy h hc)
    · cases h
  | block id x ih =>
    intro T T' H H' orc orc' cs cs' ex h hc
    simp only [evC] at h
    split at h
    · rename_i j T1 H1 orc1 cs1 h1
      split at h
      · rename_i hj
        have hj' : j = id := by simpa using hj
        subst hj'
        cases h
        exact (ih h1 hc).block_exit
      · rename_i hj
        have hj' : ¬ j = id := by simpa using hj
        cases h
        exact (ih h1 hc).block_out fun e => hj' (by cases e; rfl)
    · rename_i r hne
      exact (ih h hc).block_out fun e => by subst e; exact hne _ _ _ _ _ h
  | loop x ih =>
    intro T T' H H' orc orc' cs cs' ex h hc
    simp only [evC] at h
    split at h
    · cases h
      have := hc _ (List.mem_append_right _ (List.mem_singleton.2 rfl))
      exact Goes.keep _ this
    · rename_i n orc1
      have key : ∀ (n : Nat) {T T' : List AV} {H H' : Heap} {orc orc' : List Orc} {cs cs' : List Prop} {ex : Ex}, iterC (evC P τ x) n T H orc cs = .ok ex T' H' orc' cs' → (∀ p ∈ cs', p) → Rounds P x n T H ex T' H' := by
        intro n
        induction n with
        | zero => intro T T' H H' orc orc' cs cs' ex h; simp only [iterC] at h; cases h
        | succ n ihn =>
          intro T T' H H' orc orc' cs cs' ex h hc
          unfold iterC at h
          split at h
          · rename_i h1
            exact .step (ih h1 fun p hp => hc p (iterC_mono (fun {T T' H H' orc orc' cs cs' ex} h => evC_mono x h) n h p hp)) (ihn h hc)
          · rename_i r hne
            refine .out n (ih h hc) fun e => ?_
            subst e
            exact hne _ _ _ _ h
      exact .loop (key n h hc)
    · cases h
  | rangeFunc f ps sa x _ _ =>
    intro T T' H H' orc orc' cs cs' ex h hc
    simp only [evC] at h
    split at h
    · cases h
      have := hc _ (List.mem_append_right _ (List.mem_singleton.2 rfl))
      exact Goes.keep _ this
    · cases h
  | exit id => intro T T' H H' orc orc' cs cs' ex h _; simp only [evC] at h; cases h; exact fun B S0 w0 α a w s hf Q hQ => wp_exit (hQ α a w s hf)
  | ret => intro T T' H H' orc orc' cs cs' ex h _; simp only [evC] at h; cases h; exact fun B S0 w0 α a w s hf Q hQ => wp_ret (hQ α a w s hf)
  | scope x _ => intro T T' H H' orc orc' cs cs' ex h _; simp only [evC] at h; cases h
  | label l => intro T T' H H' orc orc' cs cs' ex h _; simp only [evC] at h; cases h
  | goto l => intro T T' H H' orc orc' cs cs' ex h _; simp only [evC] at h; cases h
  | refuse s => intro T T' H H' orc orc' cs cs' ex h _; simp only [evC] at h; cases h
def resOne (tmps : Array Value) : ResultVar → Sem Value
  | .tmp t => pure (tmps.getD t undef)
  | .cell c t => do loadVar t (← asAddr (tmps.getD c undef))
theorem results_eq (fn : Func) (tmps : Array Value) : results fn tmps = (do let vs ← fn.results.mapM (resOne tmps); pure (if h : vs.size = 1 then vs[0] else .tuple vs)) := by
  unfold results
  congr 1
theorem resultsA_run (hτ : Fits P τ) {T : List AV} {H : Heap} (s : Sim B S0 w0 α T H a w) : ∀ {rs : List ResultVar} {ys : List AV}, resultsA τ T H rs = some ys →
    ∃ us, (rs.mapM (resOne a.tmps)).run P w = .ok us w ∧ RepL (envOf B S0 α H w) ys us
  | [], ys, h => by
    simp only [resultsA] at h
    cases h
    exact ⟨[], rfl, .nil⟩
  | r :: rs, ys, h => by
    unfold resultsA at h
    split at h
    · rename_i y ys' h1 h2
      cases h
      obtain ⟨us, hu1, hu2⟩ := resultsA_run hτ s h2
      cases r with
      | tmp t =>
        simp only [resultA] at h1
        cases h1
        refine ⟨a.tmps.getD t undef :: us, ?_, .cons _ _ _ _ (s.eval (.tmp t)) hu2⟩
        simp only [List.mapM_cons, resOne, Sem.run_bind, Sem.run_pure, Result.andThen_ok, hu1]
      | cell c t =>
        simp only [resultA] at h1
        split at h1
        · rename_i y' u o cs hl
          cases h1
          have hcs : ∀ p ∈ cs, p := by
            unfold loadA at hl
            repeat' split at hl
            all_goals first | (rename_i hh; cases hh; done) | (cases hl; simp; done) | (cases hl; done) | (simp_all; done)
          obtain ⟨_, ad, v, e1, e2, e3⟩ := load_core hτ s (s.eval (.tmp c)) hl hcs
          refine ⟨v :: us, ?_, .cons _ _ _ _ e3 hu2⟩
          have e1' : a.tmps.getD c undef = .pointer (some ad) := e1
          simp only [List.mapM_cons, resOne, Sem.run_bind, e1', asAddr, Sem.run_pure, Result.andThen_ok, e2, hu1]
        · cases h1
    · cases h
theorem aux_look {H : Heap} {h : Nat} {o o' : Aux} (ho : getH H h = some (.aux o)) : ∀ (n : Nat) (x : AV), look (setAt H h (some (.aux o'))) n x = look H n x
  | 0, _ => rfl
  | n + 1, x => by
    have step : ∀ xs : List AV, lookL (look (setAt H h (some (.aux o'))) n) xs = lookL (look H n) xs := fun xs => by
      induction xs with
      | nil => rfl
      | cons y ys ih => simp only [lookL]; rw [aux_look ho n y, ih]
    cases x with
    | own k =>
      by_cases e : k = h
      · subst e; simp only [look, getH_setAt_same, ho]
      · simp only [look, getH_setAt_other _ _ _ _ e, step]
    | op k off =>
      by_cases e : k = h
      · subst e; simp only [look, getH_setAt_same, ho]
      · simp only [look, getH_setAt_other _ _ _ _ e, step]
    | mp k =>
      by_cases e : k = h
      · subst e; simp only [look, getH_setAt_same, ho]
      · simp only [look, getH_setAt_other _ _ _ _ e]
    | fn f cap => simp only [look, step]
    | agg cs => simp only [look, step]
    | tup cs => simp only [look, step]
    | _ => rfl
theorem aux_load {H : Heap} {h : Nat} {o o' : Aux} (ho : getH H h = some (.aux o)) (t : TypeId) (x : AV) (orc : List Orc) : loadA τ (setAt H h (some (.aux o'))) t x orc = loadA τ H t x orc := by
  unfold loadA
  cases τ t with
  | none => rfl
  | some ty =>
    cases x with
    | op k off =>
      by_cases e : k = h
      · subst e; simp only [getH_setAt_same, ho]
      · simp only [getH_setAt_other _ _ _ _ e]
    | rp k sz i off =>
      by_cases e : k = h
      · subst e; simp only [getH_setAt_same, ho]
      · simp only [getH_setAt_other _ _ _ _ e]
    | _ => rfl
theorem aux_results {T : List AV} {H : Heap} {h : Nat} {o o' : Aux} (ho : getH H h = some (.aux o)) : ∀ rs : List ResultVar, resultsA τ T (setAt H h (some (.aux o'))) rs = resultsA τ T H rs
  | [] => rfl
  | r :: rs => by
    have h1 : resultA τ T (setAt H h (some (.aux o'))) r = resultA τ T H r := by
      cases r with
      | tmp t => rfl
      | cell c t => simp only [resultA, aux_load ho]
    simp only [resultsA, h1, aux_results ho rs]
def unmarkO : Option AObj → Option AObj
  | some (.aux x) => if x.live then none else some (.aux x)
  | o => o
def unmarkH (H : Heap) : Heap := H.map unmarkO
theorem getH_unmark (H : Heap) (k : Nat) : getH (unmarkH H) k = unmarkO (getH H k) := by
  unfold getH unmarkH
  rw [List.getElem?_map]
  cases H[k]? <;> rfl
theorem leaves_of {fn : Func} {tmps : Array Value} {R : Ending → World → Prop} {T : List AV} : ∀ (ds : List Deferred) {H : Heap} {w : World}, Sim B S0 w0 α T H { tmps := tmps, defers := [] } w → DefsOk α H ds →
    (∀ (H1 : Heap) (w1 : World), Sim B S0 w0 α T H1 { tmps := tmps, defers := [] } w1 → (∀ rs, resultsA τ T H1 rs = resultsA τ T H rs) → (∀ n x, look H1 n x = look H n x) → (∀ k o, getH (unmarkH H) k = some o → getH H1 k = some o) →
      LeavesInM Fence.wide 0 P fn tmps R [] .returning w1) → LeavesInM Fence.wide 0 P fn tmps R ds .returning w
  | [], H, w, s, _, hF => hF H w s (fun _ => rfl) (fun _ _ => rfl) fun k o ho => by
    rw [getH_unmark] at ho
    unfold unmarkO at ho
    split at ho
    · split at ho
      · cases ho
      · rename_i h _; rw [h]; exact ho
    · exact ho
  | d :: ds, H, w, s, hd, hF => by
    obtain ⟨k, D, p, hk, hkα, rfl⟩ := hd.1 d (List.mem_cons_self ..)
    obtain ⟨D', e1, _, hD, _⟩ := s.objs k _ hk
    have e2 : D' = D := by injection e1.symm.trans hkα with e; injection e with e; injection e
    subst e2
    have s3 := s.turn (o' := .deferred none) hk hkα (.inl rfl)
    have hnd := List.nodup_cons.1 hd.2
    have hd' : DefsOk α (setAt H k (some (.aux ⟨p, .deferred none, true⟩))) ds := ⟨fun d hdm => by
      obtain ⟨k', D2, p', g1, g2, g3⟩ := hd.1 d (List.mem_cons_of_mem _ hdm)
      have hne : k' ≠ k := fun e => by
        subst e
        rw [hkα] at g2
        cases g2
        subst g3
        exact hnd.1 hdm
      exact ⟨k', D2, p', by rw [getH_setAt_other _ _ _ _ hne]; exact g1, g2, g3⟩, hnd.2⟩
    refine ⟨by simp, .inl ⟨D', _, rfl, run_takeDeferred hD, leaves_of ds s3 hd' fun H1 w1 s1 q1 q2 q3 => hF H1 w1 s1 (fun rs => (q1 rs).trans (aux_results (o' := ⟨p, .deferred none, true⟩) hk rs)) (fun n x => (q2 n x).trans (aux_look (o' := ⟨p, .deferred none, true⟩) hk n x)) fun j o ho => q3 j o ?_⟩⟩
    rw [getH_unmark] at ho ⊢
    by_cases e : j = k
    · subst e
      rw [hk] at ho
      simp [unmarkO] at ho
    · rw [getH_setAt_other _ _ _ _ e]
      exact ho
theorem evF_sound (hτ : Fits P τ) (hm : P.follows .mixedOrders = true) {f : FuncId} {fn : Func} (hf : P.funcs[f]? = some fn) (hname : (fn.name == "runtime.NumGoroutine") = false) {args : List AV} {orc : List Orc} {r : AV} {cs : List Prop}
    (h : evF P τ fn args orc = some (r, cs)) (hc : ∀ p ∈ cs, p) : CallsTo P f args r := by
  unfold evF at h
  split at h
  rotate_left
  · cases h
  rename_i c hb
  refine ⟨⟨fn, c, hf, hb, hname⟩, fun w S us hG hS hargs => ?_⟩
  have hinit : Sim w.heap.size S w (fun _ => none) (args ++ List.replicate (fn.ntmps - args.length) (.v undef)) [] { tmps := us.toArray ++ Array.replicate (fn.ntmps - us.toArray.size) undef, defers := [] } w := by
    refine ⟨Below.refl _ _, Nat.le_refl _, .nil, ?_, fun h o ho => by simp [getH] at ho, fun h h' o o' v v' b ho => by simp [getH] at ho, hG⟩
    have hle : Env.Le ⟨fun _ => none, S, w⟩ (envOf w.heap.size S (fun _ => none) [] w) := ⟨(fun _ _ h => h), (fun b hb => ⟨hS b hb, fun _ => hb, fun h o v ho => by simp [getH] at ho⟩), (fun _ _ => rfl)⟩
    have h1 := hargs.mono hle
    have h2 : RepL (envOf w.heap.size S (fun _ => none) [] w) (List.replicate (fn.ntmps - args.length) (.v undef)) (List.replicate (fn.ntmps - us.length) undef) := by
      rw [hargs.length]
      generalize fn.ntmps - args.length = n
      induction n with
      | zero => exact .nil
      | succ n ih => exact .cons _ _ _ _ (.v _) ih
    have := h1.append h2
    simpa using this
  have fin : ∀ {ex : Ex} {T : List AV} {H : Heap} {orc' : List Orc} {cs' : List Prop}, (ex = .normal ∨ ex = .ret) → evC P τ c (args ++ List.replicate (fn.ntmps - args.length) (.v undef)) [] orc [] = .ok ex T H orc' cs' →
      (match resultsA τ T H fn.results.toList with
        | some ys => match look H 9 (oneOrTup ys) with
          | some r => some (r, cs')
          | none => none
        | none => none) = some (r, cs) →
      Calls P f us.toArray w fun e w' => ∃ v, e = .returned v ∧ Below w.heap.size w w' ∧ Rep ⟨fun _ => none, fun b => b < w'.heap.size ∧ (b < w.heap.size → S b), w'⟩ r v := fun {ex T H orc' cs'} hex hev h => by
    split at h
    rotate_left
    · cases h
    rename_i ys hys
    split at h
    rotate_left
    · cases h
    rename_i r' hl
    cases h
    have hg := evC_sound hτ hm c hev hc
    refine callsIn_wide.1 (callsIn_of_wp_marks (n := 0) hf hb trivial (wpIn_wide.2 (hg w.heap.size S w (fun _ => none) _ w hinit (fun _ _ => rfl) _ fun α' a' w' s' hf' => ?_)))
    have main : ∀ {H2 : Heap} {a2 : Act} {w2 : World}, Sim w.heap.size S w α' T H2 a2 w2 → resultsA τ T H2 fn.results.toList = some ys → look H2 9 (oneOrTup ys) = some r →
        ∃ v, (results fn a2.tmps).run P w2 = .ok v w2 ∧ (∃ v', Ending.returned v = .returned v' ∧ Below w.heap.size w w2 ∧ Rep ⟨fun _ => none, fun b => b < w2.heap.size ∧ (b < w.heap.size → S b), w2⟩ r v') := fun {H2 a2 w2} s' hys hl => by
      obtain ⟨vs, hv1, hv2⟩ := resultsA_run hτ s' hys
      have hv : ∃ v, (results fn a2.tmps).run P w2 = .ok v w2 ∧ Rep (envOf w.heap.size S α' H2 w2) (oneOrTup ys) v := by
        have hrun : (fn.results.mapM (resOne a2.tmps)).run P w2 = .ok vs.toArray w2 := by
          rw [Array.mapM_eq_mapM_toList]
          simp [hv1]
        have hlen := hv2.length
        refine ⟨if h : vs.toArray.size = 1 then vs.toArray[0] else .tuple vs.toArray, ?_, ?_⟩
        · rw [results_eq]
          simp only [Sem.run_bind]
          rw [hrun]
          rfl
        · cases hv2 with
          | nil => exact .tup [] [] .nil
          | cons x u xs us hx hxs =>
            cases hxs with
            | nil => exact hx
            | cons y v ys vs hy hyss =>
              have : ¬ (u :: v :: vs).toArray.size = 1 := by simp
              rw [dif_neg this]
              exact .tup _ _ (.cons _ _ _ _ hx (.cons _ _ _ _ hy hyss))
      obtain ⟨v, hrv, hrep⟩ := hv
      refine ⟨v, hrv, v, rfl, s'.below, ?_⟩
      refine look_rep s' (S' := fun b => b < w2.heap.size ∧ (b < w.heap.size → S b)) (fun b hb => ⟨hb.1, hb.2.1⟩) 9 _ r v hl (fun k o _ ho v b hv hb => ?_) hrep
      obtain ⟨u, hu, hlt⟩ := s'.alpha ho
      rw [hv] at hu
      cases hu
      exact ⟨(hlt b hb).2, fun h => absurd (hlt b hb).1 (by omega)⟩
    have hpost : LeavesInM Fence.wide 0 P fn a'.tmps (fun e w' => ∃ v, e = .returned v ∧ Below w.heap.size w w' ∧ Rep ⟨fun _ => none, fun b => b < w'.heap.size ∧ (b < w.heap.size → S b), w'⟩ r v) a'.defers .returning w' := by
      exact leaves_of (τ := τ) a'.defers (s'.reframe s'.tmps .nil) s'.defers fun H1 w1 s1 e1 e2 _ => main (a2 := { tmps := a'.tmps, defers := [] }) s1 ((e1 _).trans hys) ((e2 _ _).trans hl)
    rcases hex with rfl | rfl
    · exact hpost
    · exact hpost
  split at h
  · cases h
  · rename_i ex T H orc' cs' hne hev
    refine fin (ex := ex) ?_ hev h
    cases ex with
    | normal => exact .inl rfl
    | ret => exact .inr rfl
    | exit id => exact absurd rfl (hne id)
  · cases h
end Go.Flow
namespace Go.Flow
open Go Go.RowKit
inductive TT where
  | leaf
  | node (k : Nat) (v : ATy) (l r : TT)
def TT.get : TT → Nat → Option ATy
  | .leaf, _ => none
  | .node k v l r, t => match Nat.beq t k with
    | true => some v
    | false => match Nat.ble t k with
      | true => l.get t
      | false => r.get t
def OkTy (P : Program) (t : Nat) (ty : ATy) : Prop :=
  ((P.info? t).map fun i => (i.size, i.bytes, i.zero)) = some (ty.size, ty.bytes, some ty.zero) ∧ P.underlying t = some ty.desc
def TT.ok (P : Program) : TT → Prop
  | .leaf => True
  | .node k v l r => OkTy P k v ∧ l.ok P ∧ r.ok P
theorem TT.fits {P : Program} : ∀ (tr : TT), tr.ok P → Fits P tr.get
  | .leaf, _, t, ty, h => by simp [TT.get] at h
  | .node k v l r, ⟨h0, hl, hr⟩, t, ty, h => by
    simp only [TT.get] at h
    split at h
    · rename_i hb
      have hk : t = k := Nat.eq_of_beq_eq_true hb
      subst hk
      obtain rfl : v = ty := Option.some.inj h
      obtain ⟨h1, h2⟩ := h0
      cases hi : P.info? t with
      | none => rw [hi] at h1; cases h1
      | some i =>
        rw [hi] at h1
        have h1 := Option.some.inj h1
        simp only [Prod.mk.injEq] at h1
        exact ⟨i, rfl, h1.1, h1.2.1, h1.2.2, h2⟩
    · split at h
      · exact TT.fits l hl t ty h
      · exact TT.fits r hr t ty h
end Go.Flow
namespace Go.Flow
open Go Go.RowKit
variable {P : Program} {τ : Tab} {B : Nat} {S0 : Nat → Prop} {w0 : World} {α : Nat → Option Value} {a : Act} {w : World}
def AllP : List Prop → Prop
  | [] => True
  | p :: ps => p ∧ AllP ps
theorem AllP.all : ∀ {ps : List Prop}, AllP ps → ∀ p ∈ ps, p
  | _ :: _, h, p, hp => by
    rcases List.mem_cons.1 hp with rfl | hp
    · exact h.1
    · exact AllP.all h.2 p hp
theorem AllP.nil : AllP [] := trivial
theorem AllP.cons {p : Prop} {ps : List Prop} (h : p) (hs : AllP ps) : AllP (p :: ps) := ⟨h, hs⟩
def place (L : List Nat) (h : Nat) : Option Nat := L.idxOf? h
def ren (L : List Nat) : Nat → AV → AV
  | 0, _ => .any
  | n + 1, x => match x with
    | .v u => .v u
    | .any => .any
    | .lst sz es => if es.all (hf 9) then .lst sz es else .any
    | .ls us => .ls us
    | .ps sz es => .ps sz es
    | .lp cs => if cs.all (hf 9) then .lp cs else .any
    | .own h => match place L h with
      | some g => .own g
      | none => .any
    | .rp h sz i off => match place L h with
      | some g => .rp g sz i off
      | none => .any
    | .op h off => match place L h with
      | some g => .op g off
      | none => .any
    | .mp h => match place L h with
      | some g => .mp g
      | none => .any
    | .mv es => .mv es
    | .mx arr clock => .mx arr clock
    | .fn f cap => .fn f (cap.map (ren L n))
    | .agg cs => .agg (cs.map (ren L n))
    | .tup cs => .tup (cs.map (ren L n))
def renO (L : List Nat) : AObj → AObj
  | .box fr e cs => .box fr e (cs.map (ren L 9))
  | .row fr e sz es => .row fr e sz (es.map (ren L 9))
  | .vrow fr e us => .vrow fr e us
  | .aux o => .aux o
  | .ghost us xs => .ghost us (xs.map (ren L 9))
  | .map fr es => .map fr es
def renH (L : List Nat) (H : Heap) : Heap := L.map fun h => (getH H h).map (renO L)
def renα (L : List Nat) (α : Nat → Option Value) : Nat → Option Value := fun g => (L[g]?).bind α
theorem place_get {L : List Nat} {h g : Nat} (e : place L h = some g) : L[g]? = some h := by
  unfold place at e
  rw [List.idxOf?_eq_some_iff] at e
  obtain ⟨hlt, h1, _⟩ := e
  rw [List.getElem?_eq_getElem hlt]
  simpa using h1
theorem ren_rep {L : List Nat} {S S' : Nat → Prop} (hS : ∀ b, S b → S' b) {w : World} : ∀ (n : Nat) {x : AV} {u : Value}, Rep ⟨α, S, w⟩ x u → Rep ⟨renα L α, S', w⟩ (ren L n x) u
  | 0, _, _, _ => .any _
  | n + 1, x, u, h => by
    have hle : Env.Le ⟨fun _ => none, S', w⟩ ⟨renα L α, S', w⟩ := ⟨(fun _ _ h => by cases h), (fun _ h => h), (fun _ _ => rfl)⟩
    have hα : ∀ {h g : Nat} {v : Value}, place L h = some g → α h = some v → renα L α g = some v := fun e hv => by
      unfold renα
      rw [place_get e]
      exact hv
    have many : ∀ {xs : List AV} {us : List Value}, RepL ⟨α, S, w⟩ xs us → RepL ⟨renα L α, S', w⟩ (xs.map (ren L n)) us := by
      intro xs
      induction xs with
      | nil => intro us h; cases h; exact .nil
      | cons x xs ih => intro us h; cases h with | cons _ u _ us hx hxs => exact .cons _ _ _ _ (ren_rep hS n hx) (ih hxs)
    cases h with
    | v x => exact .v _
    | any x => exact .any _
    | lst0 sz a c => simp only [ren]; split <;> first | exact .lst0 _ _ _ | exact .any _
    | lst sz es ad n' c us hn hc hs hz hr hw =>
      simp only [ren]
      split
      · rename_i hh
        exact (hf_rep hS 10 10 (Nat.le_refl _) _ _ (by simpa [hf] using hh) (.lst sz es ad n' c us hn hc hs hz hr hw)).mono hle
      · exact .any _
    | ls us v hv => exact Rep.ls_env (E := ⟨α, S, w⟩) (E' := ⟨renα L α, S', w⟩) hS rfl (.ls _ _ hv)
    | ps sz es v hv => exact Rep.ps_env (E := ⟨α, S, w⟩) (E' := ⟨renα L α, S', w⟩) hS rfl (.ps _ _ _ hv)
    | lp cs ad us hs hr hw =>
      simp only [ren]
      split
      · rename_i hh
        exact (hf_rep hS 10 10 (Nat.le_refl _) _ _ (by simpa [hf] using hh) (.lp cs ad us hs hr hw)).mono hle
      · exact .any _
    | own h a n' c hu => simp only [ren]; split <;> first | exact .own _ _ _ _ (hα ‹_› hu) | exact .any _
    | rp h sz i off b n' c hu => simp only [ren]; split <;> first | exact .rp _ _ _ _ _ _ _ (hα ‹_› hu) | exact .any _
    | op h off b hu => simp only [ren]; split <;> first | exact .op _ _ _ (hα ‹_› hu) | exact .any _
    | mp h r hu => simp only [ren]; split <;> first | exact .mp _ _ (hα ‹_› hu) | exact .any _
    | mv es b arr clock hs hb hm => exact .mv es b arr clock (hS _ hs) hb hm
    | mx arr clock b hs hb => exact .mx arr clock b (hS _ hs) hb
    | fn f cap us hr => exact .fn _ _ _ (many hr)
    | agg cs us hr => exact .agg _ _ (many hr)
    | tup cs us hr => exact .tup _ _ (many hr)
theorem renL_rep {L : List Nat} {S S' : Nat → Prop} (hS : ∀ b, S b → S' b) {w : World} (n : Nat) : ∀ {xs : List AV} {us : List Value}, RepL ⟨α, S, w⟩ xs us → RepL ⟨renα L α, S', w⟩ (xs.map (ren L n)) us
  | _, _, .nil => .nil
  | _, _, .cons _ _ _ _ hx hxs => .cons _ _ _ _ (ren_rep hS n hx) (renL_rep hS n hxs)
theorem ren_flat_length (L : List Nat) (n : Nat) (x : AV) : (ren L (n + 1) x).flat.length = x.flat.length := by
  cases x <;> simp only [ren] <;> (try split) <;> simp [AV.flat]
theorem ren_flat {L : List Nat} {S S' : Nat → Prop} (hS : ∀ b, S b → S' b) {w : World} (n : Nat) {x : AV} {us : List Value} (h : RepL ⟨α, S, w⟩ x.flat us) : RepL ⟨renα L α, S', w⟩ (ren L (n + 1) x).flat us := by
  have one : ∀ {y : AV}, y.flat = [y] → (ren L (n + 1) y).flat = [ren L (n + 1) y] → RepL ⟨α, S, w⟩ y.flat us → RepL ⟨renα L α, S', w⟩ (ren L (n + 1) y).flat us := fun h1 h2 h => by
    rw [h1] at h
    rw [h2]
    cases h with
    | cons _ u _ _ hx hxs => cases hxs; exact .cons _ _ _ _ (ren_rep hS _ hx) .nil
  cases x with
  | agg cs => exact renL_rep hS n h
  | v u => exact one rfl rfl h
  | any => exact one rfl rfl h
  | lst sz es => exact one rfl (by simp only [ren]; split <;> rfl) h
  | ls us => exact one rfl rfl h
  | ps sz es => exact one rfl rfl h
  | lp cs => exact one rfl (by simp only [ren]; split <;> rfl) h
  | own k => exact one rfl (by simp only [ren]; split <;> rfl) h
  | rp k sz i off => exact one rfl (by simp only [ren]; split <;> rfl) h
  | op k off => exact one rfl (by simp only [ren]; split <;> rfl) h
  | mp k => exact one rfl (by simp only [ren]; split <;> rfl) h
  | mv es => exact one rfl rfl h
  | mx arr clock => exact one rfl rfl h
  | fn f cap => exact one rfl rfl h
  | tup cs => exact one rfl rfl h
theorem ren_flats {L : List Nat} {S S' : Nat → Prop} (hS : ∀ b, S b → S' b) {w : World} : ∀ {es : List AV} {us : List Value}, RepL ⟨α, S, w⟩ (flats es) us → RepL ⟨renα L α, S', w⟩ (flats (es.map (ren L 9))) us
  | [], _, h => by cases h; exact .nil
  | e :: es, us, h => by
    obtain ⟨vs, ws, rfl, h1, h2⟩ := RepL.split h
    exact (ren_flat hS 8 h1).append (ren_flats hS h2)
theorem renH_get {L : List Nat} {H : Heap} {g : Nat} {o : AObj} (h : getH (renH L H) g = some o) : ∃ k o0, L[g]? = some k ∧ getH H k = some o0 ∧ o = renO L o0 := by
  unfold getH renH at h
  rw [List.getElem?_map] at h
  cases hk : L[g]? with
  | none => rw [hk] at h; cases h
  | some k =>
    rw [hk] at h
    simp only [Option.map_some, Option.getD_some] at h
    cases ho : getH H k with
    | none => rw [ho] at h; cases h
    | some o0 =>
      rw [ho] at h
      exact ⟨k, o0, rfl, ho, by cases h; rfl⟩
def auxIn (L : List Nat) : Nat → Heap → Bool
  | _, [] => true
  | k, o :: H => (match o with
    | some (.aux x) => !x.live || L.contains k
    | _ => true) && auxIn L (k + 1) H
theorem auxIn_get {L : List Nat} : ∀ {H : Heap} {k : Nat}, auxIn L k H = true → ∀ {h : Nat} {o : Aux}, getH H h = some (.aux o) → o.live = true → k + h ∈ L
  | [], k, _, h, o, ho, _ => by simp [getH] at ho
  | x :: H, k, hx, 0, o, ho, hv => by
    have : x = some (.aux o) := by simpa [getH] using ho
    subst this
    simp only [auxIn, Bool.and_eq_true, hv] at hx
    simpa using hx.1
  | x :: H, k, hx, h + 1, o, ho, hv => by
    simp only [auxIn, Bool.and_eq_true] at hx
    have := auxIn_get hx.2 (h := h) (o := o) (by simpa [getH] using ho) hv
    rwa [show k + 1 + h = k + (h + 1) by omega] at this
theorem renH_aux {L : List Nat} {H : Heap} {h g : Nat} {o : Aux} (hg : L[g]? = some h) (ho : getH H h = some (.aux o)) : getH (renH L H) g = some (.aux o) := by
  unfold getH at ho
  unfold getH renH
  rw [List.getElem?_map, hg]
  simp [getH, ho, renO]
theorem Sim.ren {T : List AV} {H : Heap} (s : Sim B S0 w0 α T H a w) (L : List Nat) (hL : L.Nodup) (hx : auxIn L 0 H = true) : Sim B S0 w0 (renα L α) (T.map (ren L 9)) (renH L H) a w := by
  have hS : ∀ b, Stab B S0 α H w b → Stab B S0 (renα L α) (renH L H) w b := fun b hb => ⟨hb.1, hb.2.1, fun g o v ho hfr hv => by
    obtain ⟨k, o0, hk, ho0, rfl⟩ := renH_get ho
    refine hb.2.2 k o0 v ho0 ?_ ?_
    · cases o0 <;> exact hfr
    · simpa [renα, hk] using hv⟩
  have hd : DefsOk (renα L α) (renH L H) a.defers :=
    s.defers.imp fun h D p h1 h2 => by
      have hm := auxIn_get hx h1 rfl
      rw [Nat.zero_add] at hm
      obtain ⟨g, hg⟩ := List.mem_iff_getElem?.1 hm
      exact ⟨g, p, renH_aux hg h1, by simpa [renα, hg] using h2⟩
  refine ⟨s.below, s.base, hd, renL_rep hS 9 s.tmps, fun g o ho => ?_, fun g g' o o' v v' b ho ho' hne hv hv' => ?_, s.grd⟩
  · obtain ⟨k, o0, hk, ho0, rfl⟩ := renH_get ho
    have h0 := s.objs k o0 ho0
    have hα : renα L α g = α k := by simp [renα, hk]
    cases o0 with
    | box fr e cs =>
      obtain ⟨b, us, h1, h2, h3, h4⟩ := h0
      exact ⟨b, us, hα.trans h1, h2, h3, renL_rep hS 9 h4⟩
    | row fr e sz es =>
      obtain ⟨v, xs, h1, h2, h3, h4, h5⟩ := h0
      refine ⟨v, xs, hα.trans h1, by simpa using h2, ren_flats hS h3, fun x hx => ?_, h5⟩
      obtain ⟨y, hy, rfl⟩ := List.mem_map.1 hx
      rw [ren_flat_length]
      exact h4 y hy
    | vrow fr e us =>
      obtain ⟨v, h1, h2⟩ := h0
      exact ⟨v, hα.trans h1, h2⟩
    | aux o =>
      obtain ⟨b, h1, h2, h3, h4⟩ := h0
      exact ⟨b, hα.trans h1, h2, h3, h4⟩
    | ghost us xs => exact ⟨hα.trans h0.1, renL_rep hS 9 h0.2⟩
    | map fr es =>
      obtain ⟨b, arr, clock, h1, h2⟩ := h0
      exact ⟨b, arr, clock, hα.trans h1, h2⟩
  · obtain ⟨k, o0, hk, ho0, _⟩ := renH_get ho
    obtain ⟨k', o0', hk', ho0', _⟩ := renH_get ho'
    refine s.inj k k' o0 o0' v v' b ho0 ho0' (fun e => hne ?_) (by simpa [renα, hk] using hv) (by simpa [renα, hk'] using hv')
    subst e
    obtain ⟨h1, h2⟩ := List.getElem?_eq_some_iff.1 hk
    obtain ⟨h1', h2'⟩ := List.getElem?_eq_some_iff.1 hk'
    exact (List.getElem_inj hL).1 (h2.trans h2'.symm)
theorem renα_fresh (L : List Nat) (α : Nat → Option Value) (H : Heap) : Fresh (renα L α) (renH L H) := fun k hk => by
  have hk' : L.length ≤ k := by simpa [renH] using hk
  simp [renα, List.getElem?_eq_none hk']
def apartB : List Nat → Bool
  | [] => true
  | x :: xs => !xs.contains x && apartB xs
theorem apartB_nodup : ∀ {L : List Nat}, apartB L = true → L.Nodup
  | [], _ => List.nodup_nil
  | x :: xs, h => by
    simp only [apartB, Bool.and_eq_true, Bool.not_eq_true'] at h
    exact List.nodup_cons.2 ⟨fun hm => by simp [hm] at h, apartB_nodup h.2⟩
def tidyT (k : Nat) (L : List Nat) (T : List AV) : List AV := (keepA k T).map (ren L 9)
def CRes.tidy (k : Nat) (L : List Nat) : CRes → Option (Ex × List AV × Heap × List Prop)
  | .ok ex T H _ cs => if apartB L && auxIn L 0 H then some (ex, tidyT k L T, renH L H, cs) else none
  | .bad _ _ _ => none
theorem Sim.tidy {T : List AV} {H : Heap} (s : Sim B S0 w0 α T H a w) (k : Nat) {L : List Nat} (hL : (apartB L && auxIn L 0 H) = true) : Sim B S0 w0 (renα L α) (tidyT k L T) (renH L H) a w :=
  (s.keep k).ren L (apartB_nodup (by simp only [Bool.and_eq_true] at hL; exact hL.1)) (by simp only [Bool.and_eq_true] at hL; exact hL.2)
section
variable {T T' T1 : List AV} {H H' H1 : Heap} {ex : Ex} {c c' : Code} {cs : List Prop} {orc : List Orc} {k : Nat} {L : List Nat}
theorem Goes.tidy (h : Goes P c T H ex T' H') (k : Nat) {L : List Nat} (hL : (apartB L && auxIn L 0 H') = true) : Goes P c T H ex (tidyT k L T') (renH L H') :=
  fun B S0 w0 α a w s hf Q hQ => h B S0 w0 α a w s hf Q fun α' a' w' s' _ => hQ _ a' w' (s'.tidy k hL) (renα_fresh L α' H')
theorem Goes.of (hτ : Fits P τ) (hm : P.follows .mixedOrders = true) (h : (evC P τ c T H orc []).tidy k L = some (ex, T', H', cs)) (hc : AllP cs) : Goes P c T H ex T' H' := by
  cases he : evC P τ c T H orc [] with
  | bad x y z => rw [he] at h; cases h
  | ok ex1 T1 H1 orc1 cs1 =>
    rw [he] at h
    simp only [CRes.tidy] at h
    split at h
    · rename_i hL
      cases h
      exact (evC_sound hτ hm c he hc.all).tidy k hL
    · cases h
theorem Rounds.step_of (hτ : Fits P τ) (hm : P.follows .mixedOrders = true) (orc : List Orc) (k : Nat) (L : List Nat) {n : Nat} (h : (evC P τ c T H orc []).tidy k L = some (.normal, T1, H1, cs)) (hc : AllP cs) (h2 : Rounds P c n T1 H1 ex T' H') :
    Rounds P c (n + 1) T H ex T' H' := .step (.of hτ hm h hc) h2
theorem Rounds.out_of (hτ : Fits P τ) (hm : P.follows .mixedOrders = true) (orc : List Orc) (k : Nat) (L : List Nat) (n : Nat) (hne : ex ≠ .normal) (h : (evC P τ c T H orc []).tidy k L = some (ex, T', H', cs)) (hc : AllP cs) :
    Rounds P c (n + 1) T H ex T' H' := .out n (.of hτ hm h hc) hne
end
def loopsOf : Code → List Code
  | .seq x y => loopsOf x ++ loopsOf y
  | .cond _ x y => loopsOf x ++ loopsOf y
  | .block _ x => loopsOf x
  | .loop x => .loop x :: loopsOf x
  | .rangeFunc f ps sa x => .rangeFunc f ps sa x :: loopsOf x
  | .scope x => loopsOf x
  | _ => []
def loopAt (fn : Func) (i : Nat) : Code := match fn.body with
  | some c => ((loopsOf c)[i]?).getD .skip
  | none => .skip
def bodyOf : Code → Code
  | .loop x => x
  | _ => .skip
def rfA : Code → Code
  | .rangeFunc _ _ x _ => x
  | _ => .skip
def rfB : Code → Code
  | .rangeFunc _ _ _ x => x
  | _ => .skip
def st (n : Nat) (xs : List AV) : List AV := xs ++ List.replicate (n - xs.length) .any
theorem fn_ok (hτ : Fits P τ) (hm : P.follows .mixedOrders = true) {f : FuncId} {fn : Func} (hf : P.funcs[f]? = some fn) (hname : (fn.name == "runtime.NumGoroutine") = false) {args : List AV} (orc : List Orc) {r : AV} {cs : List Prop}
    (h : evF P τ fn args orc = some (r, cs)) (hc : AllP cs) : CallsTo P f args r := evF_sound hτ hm hf hname h hc.all
end Go.Flow
namespace Go.Flow
open Go Go.RowKit
variable {P : Program} {τ : Tab} {B : Nat} {S0 : Nat → Prop} {w0 : World} {α : Nat → Option Value} {a : Act} {w : World}
abbrev inR (l : Nat) : Fence := Fence.wide.inRound l
theorem upon_in (l : Nat) {o : Oper} {K : Act → World → Prop} {Q : Exit → Act → World → Prop} {r : Result Next} (h : o.upon P a K Q r) : o.uponIn (inR l) 0 P a K Q r := by
  unfold Oper.upon at h
  split at h
  · exact h
  · exact h
  · exact h
  · exact ⟨(fun h => by cases h), CallsIn.inRound l (callsIn_wide.2 h)⟩
  · refine ⟨(fun h => by cases h), fun c cs _ => ?_⟩
    obtain ⟨v, w', hr, hs⟩ := h c cs
    exact ⟨v, w', hr, stepsIn_wide.2 hs⟩
  · exact h
  · exact h.elim
def isDefer : Op → Bool
  | .defer _ => true
  | _ => false
theorem wp_in (l : Nat) {o : Oper} (hd : isDefer o.op = false) {K : Act → World → Prop} {Q : Exit → Act → World → Prop} (h : o.wp P a w K Q) : o.wpIn (inR l) 0 P a w K Q := by
  refine ⟨fun _ _ => trivial, ?_⟩
  rw [Oper.semAt_eq _ _ _ fun c e => by rw [e] at hd; cases hd]
  exact upon_in l h
theorem opsA_sound_gen (hτ : Fits P τ) {F : Fence} (hF : ∀ {o : Oper} {a : Act} {w : World} {K : Act → World → Prop} {Q : Exit → Act → World → Prop}, isDefer o.op = false → o.wp P a w K Q → o.wpIn F 0 P a w K Q) (hFf : ∀ f, F.fn f) {ops : Array Oper} : ∀ {ol ol2 : List Oper} {T T' : List AV} {H H' : Heap} {orc orc' : List Orc} {cs cs' : List Prop} {fs : List (List Nat × List Nat)} {α : Nat → Option Value} {a : Act} {w : World},
    opsA P τ ops ol T H orc cs = .ok T' H' orc' cs' fs → (ol.all fun o => !isDefer o.op) = true → (∀ c ∈ cs', c) → Sim B S0 w0 α T H a w → Fresh α H → ∀ Q : Exit → Act → World → Prop,
      (∀ (α' : Nat → Option Value) (a' : Act) (w' : World), Sim B S0 w0 α' T' H' a' w' → Fresh α' H' → wpListIn F 0 P ops Q ol2 a' w') → wpListIn F 0 P ops Q (ol ++ ol2) a w
  | [], ol2, _, _, _, _, _, _, _, _, _, α, a, w, h, _, _, s, hf, Q, hQ => by
    simp only [opsA] at h
    cases h
    exact hQ α a w s hf
  | o :: ol, ol2, T, T', H, H', orc, orc', cs, cs', fs, α, a, w, h, hd, hc, s, hf, Q, hQ => by
    simp only [List.all_cons, Bool.and_eq_true, Bool.not_eq_true'] at hd
    unfold opsA at h
    rw [List.cons_append]
    unfold wpListIn
    split at h
    rename_i T0 H0 orc0 c0 hcv
    have h0m : ∀ c ∈ c0, c := fun c h0 => hc c (by
      split at h
      · split at h
        · exact opsA_mono h c (by simp [h0])
        · cases h
      · exact opsA_mono h c (by simp [h0])
      · cases h)
    obtain ⟨α0, s, hf⟩ := conv_sound hcv h0m s hf
    split at h
    · rename_i orc1 c1 hw
      split at h
      · rename_i v H1 orc2 c2 hop
        have hm := opsA_mono h
        rw [if_pos (want_run s hw fun c h => hc c (hm c (by simp [h])))]
        exact hF hd.1 (opI_sound hτ s hf hop (fun c h => hc c (hm c (by simp [h]))) _ Q fun α' w' u s' hf' hr => opsA_sound_gen hτ hF hFf h hd.2 hc (s'.putA hr) hf' Q hQ)
      · cases h
    · rename_i orc1 c1 hw
      have hm := opsA_mono h
      rw [if_neg (by rw [want_skip s hw fun c h => hc c (hm c (by simp [h]))]; simp)]
      exact ⟨fun _ _ => hFf _, opsA_sound_gen hτ hF hFf h hd.2 hc (s.putA (.v _)) hf Q hQ⟩
    · cases h
theorem opsA_sound_in (hτ : Fits P τ) (l : Nat) {ops : Array Oper} {ol ol2 : List Oper} {T T' : List AV} {H H' : Heap} {orc orc' : List Orc} {cs cs' : List Prop} {fs : List (List Nat × List Nat)} {α : Nat → Option Value} {a : Act} {w : World}
    (h : opsA P τ ops ol T H orc cs = .ok T' H' orc' cs' fs) (hd : (ol.all fun o => !isDefer o.op) = true) (hc : ∀ c ∈ cs', c) (s : Sim B S0 w0 α T H a w) (hf : Fresh α H) (Q : Exit → Act → World → Prop)
    (hQ : ∀ (α' : Nat → Option Value) (a' : Act) (w' : World), Sim B S0 w0 α' T' H' a' w' → Fresh α' H' → wpListIn (inR l) 0 P ops Q ol2 a' w') : wpListIn (inR l) 0 P ops Q (ol ++ ol2) a w :=
  opsA_sound_gen hτ (fun hd h => wp_in l hd h) (fun _ => trivial) h hd hc s hf Q hQ
theorem upon_wide {o : Oper} {K : Act → World → Prop} {Q : Exit → Act → World → Prop} {r : Result Next} (h : o.upon P a K Q r) : o.uponIn Fence.wide 0 P a K Q r := by
  unfold Oper.upon at h
  split at h
  · exact h
  · exact h
  · exact h
  · exact ⟨(fun h => by cases h), callsIn_wide.2 h⟩
  · refine ⟨(fun h => by cases h), fun c cs _ => ?_⟩
    obtain ⟨v, w', hr, hs⟩ := h c cs
    exact ⟨v, w', hr, stepsIn_wide.2 hs⟩
  · exact h
  · exact h.elim
theorem wp_wide {o : Oper} {K : Act → World → Prop} {Q : Exit → Act → World → Prop} (h : o.wp P a w K Q) : o.wpIn Fence.wide 0 P a w K Q := ⟨fun _ _ => trivial, upon_wide h⟩
def GoesIn (P : Program) (c : Code) (T : List AV) (H : Heap) (ex : Ex) (T' : List AV) (H' : Heap) : Prop :=
  ∀ (l : Nat) (B : Nat) (S0 : Nat → Prop) (w0 : World) (α : Nat → Option Value) (a : Act) (w : World), Sim B S0 w0 α T H a w → Fresh α H → ∀ Q : Exit → Act → World → Prop,
    (∀ (α' : Nat → Option Value) (a' : Act) (w' : World), Sim B S0 w0 α' T' H' a' w' → Fresh α' H' → Q ex.toExit a' w') → c.wpIn (inR l) 0 P Q a w
def KnownOk (F : Fence) (P : Program) (ops : Array Oper) (base : Nat) (B : Nat) (S0 : Nat → Prop) (w0 : World) (X : Known) : Prop :=
  ∀ (i : Nat) (o : Oper) (v : AV) (upd : Upd) (T : List AV) (H : Heap) (α : Nat → Option Value) (a : Act) (w : World), ops[i]? = some o → Sim B S0 w0 α T H a w → Fresh α H → X i o T H v upd → ∀ {K : Act → World → Prop} {Q : Exit → Act → World → Prop},
    (∀ (α' : Nat → Option Value) (a' : Act) (w' : World), Sim B S0 w0 α' (putA T o.dst v) (applyU H upd) a' w' → (∀ q, (q ≠ base + i ∨ (applyU H upd).length ≤ q) → α' q = α q) → K a' w') → wpOpIn F 0 P ops Q i K a w
theorem noX_known {F : Fence} {ops : Array Oper} {base : Nat} : KnownOk F P ops base B S0 w0 noX := fun _ _ _ _ _ _ _ _ _ _ _ _ h => h.elim
theorem wpOp_yield_gen {X : Known} {T : List AV} {H : Heap} (hτ : Fits P τ) {F : Fence} (hF : ∀ {o : Oper} {a : Act} {w : World} {K : Act → World → Prop} {Q : Exit → Act → World → Prop}, isDefer o.op = false → o.wp P a w K Q → o.wpIn F 0 P a w K Q) (hFf : ∀ f, F.fn f)
    {ops : Array Oper} {base : Nat} (hX : KnownOk F P ops base B S0 w0 X) (s : Sim B S0 w0 α T H a w) (hfr : Fresh α H) {i : Nat} {o : Oper} {f k : List Nat} {v : AV} {upd : Upd} (hi : ops[i]? = some o) (hd : isDefer o.op = false) (hα : α (base + i) = none) (hn : getH H (base + i) = none)
    (hy : Yield X P τ ops base i o f k T H v upd) {K : Act → World → Prop} {Q : Exit → Act → World → Prop}
    (hK : ∀ (α' : Nat → Option Value) (a' : Act) (w' : World), Sim B S0 w0 α' (putA T o.dst v) (applyU H upd) a' w' → (∀ q, (q ≠ base + i ∨ (applyU H upd).length ≤ q) → α' q = α q) → K a' w') : wpOpIn F 0 P ops Q i K a w := by
  cases hy with
  | run orc orc1 orc2 c1 cs h1 h2 h3 h4 h5 h6 =>
    unfold wpOpIn
    simp only [hi]
    simp only [want_run s h1 h2, if_true]
    exact hF hd (op_sound hτ s hα hn h3 h4 K Q fun α' w' u s' hf hr => hK α' _ w' (s'.putA hr) hf)
  | skip orc orc1 c1 h1 h2 h3 h4 =>
    unfold wpOpIn
    simp only [hi]
    subst h3
    subst h4
    simp only [want_skip s h1 h2, Bool.false_eq_true, if_false]
    exact ⟨fun _ _ => hFf _, hK α _ w (s.putA (.v _)) fun _ _ => rfl⟩
  | sem h1 h6 => exact hX i o v upd T H α a w hi s hfr h1 hK
theorem wpAny_of_aAny_gen {X : Known} (hτ : Fits P τ) {Fn : Fence} (hF : ∀ {o : Oper} {a : Act} {w : World} {K : Act → World → Prop} {Q : Exit → Act → World → Prop}, isDefer o.op = false → o.wp P a w K Q → o.wpIn Fn 0 P a w K Q) (hFf : ∀ f, Fn.fn f)
    {ops : Array Oper} {base : Nat} (hX : KnownOk Fn P ops base B S0 w0 X) (hd : (ops.toList.all fun o => !isDefer o.op) = true) {F K : Nat → List Nat} {Tf : List AV} {Hf : Heap} (hN : ∀ i j, i ≠ j → i < ops.size → j < ops.size → (∀ o, ops[j]? = some o → waits o i = false) → 2 * (base + i) ∉ K j) {Q : Exit → Act → World → Prop}
    (hQ : ∀ (α : Nat → Option Value) (a : Act) (w : World), Sim B S0 w0 α Tf Hf a w → Fresh α Hf → Q .normal a w) :
    ∀ (fuel : Nat) (listed : Array Bool) (T : List AV) (H : Heap) (α : Nat → Option Value) (a : Act) (w : World), aAny X P τ ops base F K Tf Hf fuel listed T H → Sim B S0 w0 α T H a w → Fresh α H →
      (∀ i, i < ops.size → listed.getD i true = false → α (base + i) = none ∧ getH H (base + i) = none) → wpAnyIn Fn 0 P .any ops Q fuel listed a w
  | 0, listed, T, H, α, a, w, hA, s, hf, _ => by
    obtain ⟨h1, rfl, rfl⟩ := hA
    exact ⟨h1, hQ α a w s hf⟩
  | fuel + 1, listed, T, H, α, a, w, hA, s, hf, hu => by
    refine ⟨fun h0 => ?_, fun i hi => ?_⟩
    · obtain ⟨rfl, rfl⟩ := hA.1 h0
      exact hQ α a w s hf
    · obtain ⟨hun, o, ho, hall⟩ := mem_ready.1 hi
      obtain ⟨v, upd, hy, hA'⟩ := hA.2 i hi o ho
      have hsz : i < ops.size := (Array.getElem?_eq_some_iff.1 ho).1
      obtain ⟨hα, hn⟩ := hu i hsz hun
      have hdo : isDefer o.op = false := by
        have hm := List.all_eq_true.1 hd o (by
          have := List.mem_of_getElem? (l := ops.toList) (i := i) (by simpa using ho)
          exact this)
        simpa using hm
      refine wpOp_yield_gen hτ hF hFf hX s hf ho hdo hα hn hy fun α' a' w' s' hfr => ?_
      refine wpAny_of_aAny_gen hτ hF hFf hX hd hN hQ fuel _ _ _ α' a' w' hA' s' (fun q hq => ?_) fun j hj hunj => ?_
      · rw [hfr q (.inr hq)]
        exact hf q (Nat.le_trans (applyU_length_ge upd H) hq)
      · have hij : i ≠ j := fun e => by
          subst e
          by_cases hs : i < listed.size
          · simp [hs] at hunj
          · simp [hs] at hunj
        rw [getD_set_ne true hij] at hunj
        obtain ⟨g1, g2⟩ := hu j hj hunj
        refine ⟨?_, ?_⟩
        · rw [hfr (base + j) (.inl (by omega))]
          exact g1
        · rw [getH_applyU upd H _ fun p hp e => hN j i (Ne.symm hij) hj hsz (not_waits ho hall hunj) (by rw [← e]; exact hy.keys p hp)]
          exact g2
def plainC : Code → Bool
  | .skip => true
  | .region _ ops _ => ops.toList.all fun o => !isDefer o.op
  | .seq x y => plainC x && plainC y
  | .cond _ x y => plainC x && plainC y
  | .block _ x => plainC x
  | .exit _ => true
  | .ret => true
  | _ => false
theorem evC_sound_in (hτ : Fits P τ) (hm : P.follows .mixedOrders = true) : ∀ (c : Code), plainC c = true → ∀ {T T' : List AV} {H H' : Heap} {orc orc' : List Orc} {cs cs' : List Prop} {ex : Ex}, evC P τ c T H orc cs = .ok ex T' H' orc' cs' → (∀ p ∈ cs', p) →
    GoesIn P c T H ex T' H' := by
  intro c
  induction c with
  | skip => intro _ T T' H H' orc orc' cs cs' ex h _; simp only [evC] at h; cases h; exact fun l B S0 w0 α a w s hf Q hQ => wpIn_skip (hQ α a w s hf)
  | region id ops draw =>
    intro hp T T' H H' orc orc' cs cs' ex h hc
    cases draw with
    | false =>
      simp only [evC] at h
      split at h
      · rename_i h1
        cases h
        exact fun l B S0 w0 α a w s hf Q hQ => wpIn_region_list (by
          have := opsA_sound_in hτ l (ol2 := []) h1 hp hc s hf Q (fun α' a' w' s' hf' => wpListIn_nil (hQ α' a' w' s' hf'))
          rwa [List.append_nil] at this)
      · cases h
    | true =>
      simp only [evC] at h
      split at h
      · rename_i h1
        split at h
        · rename_i hcond
          cases h
          simp only [Bool.and_eq_true] at hcond
          intro l B S0 w0 α a w s hf Q hQ
          obtain ⟨hlex, hN⟩ := draw_prep h1 hcond.1 hcond.2 hc
          refine wpIn_region_any hm ?_
          refine wpAny_of_aAny_gen (B := B) (S0 := S0) (w0 := w0) hτ (fun hd h => wp_in l hd h) (fun _ => trivial) noX_known hp hN (fun α' a' w' s' hf' => hQ α' a' w' s' hf') ops.size (Array.replicate ops.size false) T H α a _ hlex s.drew hf (fun i _ _ => ?_)
          refine ⟨hf _ (by omega), ?_⟩
          simp [getH]
        · cases h
      · cases h
  | seq x y ihx ihy =>
    intro hp T T' H H' orc orc' cs cs' ex h hc
    simp only [plainC, Bool.and_eq_true] at hp
    simp only [evC] at h
    split at h
    · rename_i h1
      have g1 := ihx hp.1 h1 fun p hp => hc p (evC_mono y h p hp)
      have g2 := ihy hp.2 h hc
      exact fun l B S0 w0 α a w s hf Q hQ => wpIn_seq (g1 l B S0 w0 α a w s hf _ fun α' a' w' s' hf' => g2 l B S0 w0 α' a' w' s' hf' Q hQ)
    · rename_i r hne
      have g1 := ihx hp.1 h hc
      have hne' : ex ≠ .normal := fun e => by subst e; exact hne _ _ _ _ h
      exact fun l B S0 w0 α a w s hf Q hQ => wpIn_seq (g1 l B S0 w0 α a w s hf _ fun α' a' w' s' hf' => by
        have := hQ α' a' w' s' hf'
        cases ex <;> first | exact absurd rfl hne' | exact this)
  | cond c x y ihx ihy =>
    intro hp T T' H H' orc orc' cs cs' ex h hc
    simp only [plainC, Bool.and_eq_true] at hp
    simp only [evC] at h
    split at h
    · rename_i t orc1 he
      have ht : t = true := hc _ (evC_mono x h _ (by simp))
      subst ht
      have g1 := ihx hp.1 h hc
      exact fun l B S0 w0 α a w s hf Q hQ => wpIn_cond_true (by have := s.eval c; rw [he] at this; exact this.inv_v) (g1 l B S0 w0 α a w s hf Q hQ)
    · rename_i t orc1 he
      have ht : t = false := hc _ (evC_mono y h _ (by simp))
      subst ht
      have g1 := ihy hp.2 h hc
      exact fun l B S0 w0 α a w s hf Q hQ => wpIn_cond_false (by have := s.eval c; rw [he] at this; exact this.inv_v) (g1 l B S0 w0 α a w s hf Q hQ)
    · cases h
  | block id x ih =>
    intro hp T T' H H' orc orc' cs cs' ex h hc
    simp only [evC] at h
    split at h
    · rename_i j T1 H1 orc1 cs1 h1
      split at h
      · rename_i hj
        have hj' : j = id := by simpa using hj
        subst hj'
        cases h
        have g1 := ih hp h1 hc
        exact fun l B S0 w0 α a w s hf Q hQ => wpIn_block (g1 l B S0 w0 α a w s hf _ fun α' a' w' s' hf' => by
          have := hQ α' a' w' s' hf'
          simpa [Exit.inBlock, Ex.toExit] using this)
      · rename_i hj
        have hj' : ¬ j = id := by simpa using hj
        cases h
        have g1 := ih hp h1 hc
        exact fun l B S0 w0 α a w s hf Q hQ => wpIn_block (g1 l B S0 w0 α a w s hf _ fun α' a' w' s' hf' => by
          have := hQ α' a' w' s' hf'
          simpa [Exit.inBlock, Ex.toExit, hj'] using this)
    · rename_i r hne
      have g1 := ih hp h hc
      have hne' : ∀ j, ex ≠ .exit j := fun j e => by subst e; exact hne _ _ _ _ _ h
      exact fun l B S0 w0 α a w s hf Q hQ => wpIn_block (g1 l B S0 w0 α a w s hf _ fun α' a' w' s' hf' => by
        have := hQ α' a' w' s' hf'
        cases ex with
        | normal => exact this
        | ret => exact this
        | exit j => exact absurd rfl (hne' j))
  | loop x ih => intro hp; cases hp
  | rangeFunc f ps sa x _ _ => intro hp; cases hp
  | exit id => intro _ T T' H H' orc orc' cs cs' ex h _; simp only [evC] at h; cases h; exact fun l B S0 w0 α a w s hf Q hQ => wpIn_exit (hQ α a w s hf)
  | ret => intro _ T T' H H' orc orc' cs cs' ex h _; simp only [evC] at h; cases h; exact fun l B S0 w0 α a w s hf Q hQ => wpIn_ret (hQ α a w s hf)
  | scope x _ => intro hp; cases hp
  | label l => intro hp; cases hp
  | goto l => intro hp; cases hp
  | refuse s => intro hp; cases hp
theorem GoesIn.of (hτ : Fits P τ) (hm : P.follows .mixedOrders = true) {c : Code} (hp : plainC c = true) {T T' : List AV} {H H' : Heap} {ex : Ex} (orc : List Orc) (k : Nat) (L : List Nat) {cs : List Prop} (h : (evC P τ c T H orc []).tidy k L = some (ex, T', H', cs)) (hc : AllP cs) : GoesIn P c T H ex T' H' := by
  cases he : evC P τ c T H orc [] with
  | bad x y z => rw [he] at h; cases h
  | ok ex1 T1 H1 orc1 cs1 =>
    rw [he] at h
    simp only [CRes.tidy] at h
    split at h
    · rename_i hL
      cases h
      have g := evC_sound_in hτ hm c hp he hc.all
      exact fun l B S0 w0 α a w s hf Q hQ => g l B S0 w0 α a w s hf Q fun α' a' w' s' _ => hQ _ a' w' (s'.tidy k hL) (renα_fresh L α' H1)
    · cases h
end Go.Flow
namespace Go.Flow
open Go Go.RowKit
variable {P : Program} {τ : Tab} {B : Nat} {S0 : Nat → Prop} {w0 : World} {α : Nat → Option Value} {T : List AV} {H : Heap} {a : Act} {w : World}
theorem getH_app (H : Heap) (E : Heap) (i : Nat) : getH (H ++ E) (H.length + i) = getH E i := by
  unfold getH
  rw [List.getElem?_append_right (by omega), show H.length + i - H.length = i by omega]
theorem Sim.pushAux (s : Sim B S0 w0 α T H a w) (hf : Fresh α H) (o : Obj) :
    Sim B S0 w0 (updα α H.length (.chan (some w.heap.size))) T (H ++ [some (.aux ⟨some w.heap.size, o, false⟩)]) a (w.alloc o) := by
  have := s.new (nh := H.length) (o := .aux ⟨some w.heap.size, o, false⟩) (v := .chan (some w.heap.size)) (ob := o) (hf _ (Nat.le_refl _)) getH_end rfl
    ⟨w.heap.size, updα_same _ _ _, s.base, World.alloc_heap_new w o, fun p hp => by cases hp; rfl⟩
  rwa [setAt_end] at this
theorem Sim.reghost (s : Sim B S0 w0 α T H a w) {h : Nat} {us us' : List Value} {xs xs' : List AV} (ho : getH H h = some (.ghost us xs)) (hr : RepL (envOf B S0 α H w) xs' us') :
    Sim B S0 w0 α T (setAt H h (some (.ghost us' xs'))) a w := by
  have hle : (envOf B S0 α H w).Le (envOf B S0 α (setAt H h (some (.ghost us' xs'))) w) := by
    refine ⟨fun _ _ h => h, fun b hb => ⟨hb.1, hb.2.1, fun k o1 v1 h1 h2 h3 => ?_⟩, fun _ _ => rfl⟩
    by_cases hk : k = h
    · subst hk; rw [getH_setAt_same] at h1; cases h1; cases h2
    · rw [getH_setAt_other _ _ _ _ hk] at h1; exact hb.2.2 k o1 v1 h1 h2 h3
  refine s.move hle s.below s.base (fun k o1 h1 => ?_) (fun k k' o1 o2 v1 v2 b h1 h2 hne a1 a2 b1 => ?_) (fun k o1 h1 => ?_)
  · by_cases hk : k = h
    · subst hk
      rw [getH_setAt_same] at h1
      cases h1
      exact ⟨(s.objs k _ ho).1, hr.mono hle⟩
    · rw [getH_setAt_other _ _ _ _ hk] at h1
      exact (s.objs k o1 h1).mono hle fun _ _ _ _ => rfl
  · have g1 : ∃ o3, getH H k = some o3 := by
      by_cases hk : k = h
      · subst hk; exact ⟨_, ho⟩
      · rw [getH_setAt_other _ _ _ _ hk] at h1; exact ⟨_, h1⟩
    have g2 : ∃ o3, getH H k' = some o3 := by
      by_cases hk : k' = h
      · subst hk; exact ⟨_, ho⟩
      · rw [getH_setAt_other _ _ _ _ hk] at h2; exact ⟨_, h2⟩
    obtain ⟨o3, g1⟩ := g1
    obtain ⟨o4, g2⟩ := g2
    exact s.inj k k' o3 o4 v1 v2 b g1 g2 hne a1 a2 b1
  · rw [getH_setAt_other _ _ _ _ (fun e => by rw [e, ho] at h1; cases h1)]; exact h1
theorem Sim.mark (s : Sim B S0 w0 α T H a w) {h D : Nat} {p : Option Nat} (ho : getH H h = some (.aux ⟨p, .deferred (some []), false⟩)) (hv : α h = some (.chan (some D))) :
    Sim B S0 w0 α T (setAt H h (some (.aux ⟨none, .deferred (some []), true⟩))) { a with defers := { target := .collected D, args := #[] } :: a.defers } w := by
  have hdef : DefsOk α (setAt H h (some (.aux ⟨none, .deferred (some []), true⟩))) ({ target := .collected D, args := #[] } :: a.defers) := by
    have hold : DefsOk α (setAt H h (some (.aux ⟨none, .deferred (some []), true⟩))) a.defers := s.defers.imp fun k D' p' h1 h2 => ⟨k, p', by
      rw [getH_setAt_other _ _ _ _ (fun e => by rw [e, ho] at h1; cases h1)]; exact h1, h2⟩
    refine ⟨fun d hd => ?_, List.nodup_cons.2 ⟨fun hm => ?_, hold.2⟩⟩
    · rcases List.mem_cons.1 hd with rfl | hd
      · exact ⟨h, D, none, getH_setAt_same _ _ _, hv, rfl⟩
      · exact hold.1 d hd
    · obtain ⟨k, D', p', g1, g2, g3⟩ := s.defers.1 _ hm
      have e : D' = D := by injection g3 with g3; injection g3 with g3; exact g3.symm
      subst e
      have hne : h ≠ k := fun e => by subst e; rw [ho] at g1; cases g1
      exact s.inj h k _ _ _ _ D' ho g1 hne hv g2 rfl rfl
  have hle : (envOf B S0 α H w).Le (envOf B S0 α (setAt H h (some (.aux ⟨none, .deferred (some []), true⟩))) w) := by
    refine ⟨fun _ _ h => h, fun b hb => ⟨hb.1, hb.2.1, fun k o1 v1 h1 h2 h3 => ?_⟩, fun _ _ => rfl⟩
    by_cases hk : k = h
    · subst hk; exact hb.2.2 k _ _ ho rfl h3
    · rw [getH_setAt_other _ _ _ _ hk] at h1; exact hb.2.2 k o1 v1 h1 h2 h3
  refine ⟨s.below, s.base, hdef, s.tmps.mono hle, fun k o1 h1 => ?_, fun k k' o1 o2 v1 v2 b h1 h2 hne a1 a2 b1 => ?_, s.grd⟩
  · by_cases hk : k = h
    · subst hk
      rw [getH_setAt_same] at h1
      cases h1
      obtain ⟨b, g1, g2, g3, _⟩ := s.objs k _ ho
      exact ⟨b, g1, g2, g3, fun p hp => by cases hp⟩
    · rw [getH_setAt_other _ _ _ _ hk] at h1
      exact (s.objs k o1 h1).mono hle fun _ _ _ _ => rfl
  · have g1 : ∃ o3, getH H k = some o3 := by
      by_cases hk : k = h
      · subst hk; exact ⟨_, ho⟩
      · rw [getH_setAt_other _ _ _ _ hk] at h1; exact ⟨_, h1⟩
    have g2 : ∃ o3, getH H k' = some o3 := by
      by_cases hk : k' = h
      · subst hk; exact ⟨_, ho⟩
      · rw [getH_setAt_other _ _ _ _ hk] at h2; exact ⟨_, h2⟩
    obtain ⟨o3, g1⟩ := g1
    obtain ⟨o4, g2⟩ := g2
    exact s.inj k k' o3 o4 v1 v2 b g1 g2 hne a1 a2 b1
def unmarked : Heap → Bool
  | [] => true
  | o :: H => (match o with
    | some (.aux x) => !x.live
    | _ => true) && unmarked H
theorem unmarked_get : ∀ {H : Heap}, unmarked H = true → ∀ {h : Nat} {x : Aux}, getH H h = some (.aux x) → x.live = false
  | [], _, h, x, ho => by simp [getH] at ho
  | o :: H, hu, 0, x, ho => by
    have : o = some (.aux x) := by simpa [getH] using ho
    subst this
    simp only [unmarked, Bool.and_eq_true] at hu
    simpa using hu.1
  | o :: H, hu, h + 1, x, ho => by
    simp only [unmarked, Bool.and_eq_true] at hu
    exact unmarked_get hu.2 (h := h) (by simpa [getH] using ho)
theorem unmarked_app : ∀ {H E : Heap}, unmarked H = true → unmarked E = true → unmarked (H ++ E) = true
  | [], _, _, h => h
  | o :: H, E, hu, h => by
    simp only [unmarked, Bool.and_eq_true, List.cons_append] at hu ⊢
    exact ⟨hu.1, unmarked_app hu.2 h⟩
theorem defers_nil (s : Sim B S0 w0 α T H a w) (hx : unmarked H = true) : a.defers = [] := by
  cases e : a.defers with
  | nil => rfl
  | cons d ds =>
    obtain ⟨k, D, p, h1, _, _⟩ := s.defers.1 d (by rw [e]; exact List.mem_cons_self ..)
    have := unmarked_get hx h1
    cases this
end Go.Flow
namespace Go.Flow.Tryz
open Go Go.Proofs Go.RowKit Go.Flow
set_option maxRecDepth 100000
def ty2 : ATy := ⟨Go.TypeDesc.int Go.IntKind.i64, 1, 8, Go.Value.int Go.IntKind.i64 0⟩
theorem ok2 : OkTy Tryz.prog 2 ty2 := ⟨by kernel_rfl, by kernel_rfl⟩
def ty3 : ATy := ⟨Go.TypeDesc.int Go.IntKind.i64, 1, 8, Go.Value.int Go.IntKind.i64 0⟩
theorem ok3 : OkTy Tryz.prog 3 ty3 := ⟨by kernel_rfl, by kernel_rfl⟩
def ty4 : ATy := ⟨Go.TypeDesc.bool, 1, 1, Go.Value.bool false⟩
theorem ok4 : OkTy Tryz.prog 4 ty4 := ⟨by kernel_rfl, by kernel_rfl⟩
def ty5 : ATy := ⟨Go.TypeDesc.int Go.IntKind.u8, 1, 1, Go.Value.int Go.IntKind.u8 0⟩
theorem ok5 : OkTy Tryz.prog 5 ty5 := ⟨by kernel_rfl, by kernel_rfl⟩
def ty6 : ATy := ⟨Go.TypeDesc.int Go.IntKind.u8, 1, 1, Go.Value.int Go.IntKind.u8 0⟩
theorem ok6 : OkTy Tryz.prog 6 ty6 := ⟨by kernel_rfl, by kernel_rfl⟩
def ty7 : ATy := ⟨Go.TypeDesc.struct #[{ name := "x", type := 2, offset := 0, embedded := false, tag := "", pkgPath := "runtime", byteOffset := 0 }, { name := "y", type := 3, offset := 1, embedded := false, tag := "", pkgPath := "runtime", byteOffset := 8 }, { name := "signed", type := 4, offset := 2, embedded := false, tag := "", pkgPath := "runtime", byteOffset := 16 }, { name := "code", type := 6, offset := 3, embedded := false, tag := "", pkgPath := "runtime", byteOffset := 17 }], 4, 24, Go.Value.agg #[Go.Value.int Go.IntKind.i64 0, Go.Value.int Go.IntKind.i64 0, Go.Value.bool false, Go.Value.int Go.IntKind.u8 0]⟩
theorem ok7 : OkTy Tryz.prog 7 ty7 := ⟨by kernel_rfl, by kernel_rfl⟩
def ty8 : ATy := ⟨Go.TypeDesc.struct #[{ name := "x", type := 2, offset := 0, embedded := false, tag := "", pkgPath := "runtime", byteOffset := 0 }, { name := "y", type := 3, offset := 1, embedded := false, tag := "", pkgPath := "runtime", byteOffset := 8 }, { name := "signed", type := 4, offset := 2, embedded := false, tag := "", pkgPath := "runtime", byteOffset := 16 }, { name := "code", type := 6, offset := 3, embedded := false, tag := "", pkgPath := "runtime", byteOffset := 17 }], 4, 24, Go.Value.agg #[Go.Value.int Go.IntKind.i64 0, Go.Value.int Go.IntKind.i64 0, Go.Value.bool false, Go.Value.int Go.IntKind.u8 0]⟩
theorem ok8 : OkTy Tryz.prog 8 ty8 := ⟨by kernel_rfl, by kernel_rfl⟩
def ty9 : ATy := ⟨Go.TypeDesc.string, 1, 16, Go.Value.string { data := #[] }⟩
theorem ok9 : OkTy Tryz.prog 9 ty9 := ⟨by kernel_rfl, by kernel_rfl⟩
def ty10 : ATy := ⟨Go.TypeDesc.string, 1, 16, Go.Value.string { data := #[] }⟩
theorem ok10 : OkTy Tryz.prog 10 ty10 := ⟨by kernel_rfl, by kernel_rfl⟩
def ty11 : ATy := ⟨Go.TypeDesc.string, 1, 16, Go.Value.string { data := #[] }⟩
theorem ok11 : OkTy Tryz.prog 11 ty11 := ⟨by kernel_rfl, by kernel_rfl⟩
def ty12 : ATy := ⟨Go.TypeDesc.int Go.IntKind.u64, 1, 8, Go.Value.int Go.IntKind.u64 0⟩
theorem ok12 : OkTy Tryz.prog 12 ty12 := ⟨by kernel_rfl, by kernel_rfl⟩
def ty13 : ATy := ⟨Go.TypeDesc.struct #[{ name := "msg", type := 9, offset := 0, embedded := false, tag := "", pkgPath := "runtime", byteOffset := 0 }, { name := "addr", type := 12, offset := 1, embedded := false, tag := "", pkgPath := "runtime", byteOffset := 16 }], 2, 24, Go.Value.agg #[Go.Value.string { data := #[] }, Go.Value.int Go.IntKind.u64 0]⟩
theorem ok13 : OkTy Tryz.prog 13 ty13 := ⟨by kernel_rfl, by kernel_rfl⟩
def ty14 : ATy := ⟨Go.TypeDesc.struct #[{ name := "msg", type := 9, offset := 0, embedded := false, tag := "", pkgPath := "runtime", byteOffset := 0 }, { name := "addr", type := 12, offset := 1, embedded := false, tag := "", pkgPath := "runtime", byteOffset := 16 }], 2, 24, Go.Value.agg #[Go.Value.string { data := #[] }, Go.Value.int Go.IntKind.u64 0]⟩
theorem ok14 : OkTy Tryz.prog 14 ty14 := ⟨by kernel_rfl, by kernel_rfl⟩
def ty15 : ATy := ⟨Go.TypeDesc.pointer 260, 1, 8, Go.Value.pointer none⟩
theorem ok15 : OkTy Tryz.prog 15 ty15 := ⟨by kernel_rfl, by kernel_rfl⟩
def ty16 : ATy := ⟨Go.TypeDesc.pointer 263, 1, 8, Go.Value.pointer none⟩
theorem ok16 : OkTy Tryz.prog 16 ty16 := ⟨by kernel_rfl, by kernel_rfl⟩
def ty17 : ATy := ⟨Go.TypeDesc.pointer 271, 1, 8, Go.Value.pointer none⟩
theorem ok17 : OkTy Tryz.prog 17 ty17 := ⟨by kernel_rfl, by kernel_rfl⟩
def ty18 : ATy := ⟨Go.TypeDesc.struct #[{ name := "typ", type := 17, offset := 0, embedded := false, tag := "", pkgPath := "internal/runtime/maps", byteOffset := 0 }], 1, 8, Go.Value.agg #[Go.Value.pointer none]⟩
theorem ok18 : OkTy Tryz.prog 18 ty18 := ⟨by kernel_rfl, by kernel_rfl⟩
def ty19 : ATy := ⟨Go.TypeDesc.struct #[{ name := "typ", type := 17, offset := 0, embedded := false, tag := "", pkgPath := "internal/runtime/maps", byteOffset := 0 }], 1, 8, Go.Value.agg #[Go.Value.pointer none]⟩
theorem ok19 : OkTy Tryz.prog 19 ty19 := ⟨by kernel_rfl, by kernel_rfl⟩
def ty21 : ATy := ⟨Go.TypeDesc.int Go.IntKind.i32, 1, 4, Go.Value.int Go.IntKind.i32 0⟩
theorem ok21 : OkTy Tryz.prog 21 ty21 := ⟨by kernel_rfl, by kernel_rfl⟩
def ty22 : ATy := ⟨Go.TypeDesc.string, 1, 16, Go.Value.string { data := #[] }⟩
theorem ok22 : OkTy Tryz.prog 22 ty22 := ⟨by kernel_rfl, by kernel_rfl⟩
def ty23 : ATy := ⟨Go.TypeDesc.struct #[{ name := "X", type := 22, offset := 0, embedded := false, tag := "", pkgPath := "", byteOffset := 0 }, { name := "Y", type := 22, offset := 1, embedded := false, tag := "", pkgPath := "", byteOffset := 16 }], 2, 32, Go.Value.agg #[Go.Value.string { data := #[] }, Go.Value.string { data := #[] }]⟩
theorem ok23 : OkTy Tryz.prog 23 ty23 := ⟨by kernel_rfl, by kernel_rfl⟩
def ty24 : ATy := ⟨Go.TypeDesc.struct #[{ name := "X", type := 22, offset := 0, embedded := false, tag := "", pkgPath := "", byteOffset := 0 }, { name := "Y", type := 22, offset := 1, embedded := false, tag := "", pkgPath := "", byteOffset := 16 }], 2, 32, Go.Value.agg #[Go.Value.string { data := #[] }, Go.Value.string { data := #[] }]⟩
theorem ok24 : OkTy Tryz.prog 24 ty24 := ⟨by kernel_rfl, by kernel_rfl⟩
def ty25 : ATy := ⟨Go.TypeDesc.array 2 3, 2, 16, Go.Value.agg #[Go.Value.int Go.IntKind.i64 0, Go.Value.int Go.IntKind.i64 0]⟩
theorem ok25 : OkTy Tryz.prog 25 ty25 := ⟨by kernel_rfl, by kernel_rfl⟩
def ty27 : ATy := ⟨Go.TypeDesc.slice 22, 1, 24, Go.Value.slice none 0 0⟩
theorem ok27 : OkTy Tryz.prog 27 ty27 := ⟨by kernel_rfl, by kernel_rfl⟩
def ty28 : ATy := ⟨Go.TypeDesc.int Go.IntKind.i64, 1, 8, Go.Value.int Go.IntKind.i64 0⟩
theorem ok28 : OkTy Tryz.prog 28 ty28 := ⟨by kernel_rfl, by kernel_rfl⟩
def ty31 : ATy := ⟨Go.TypeDesc.slice 24, 1, 24, Go.Value.slice none 0 0⟩
theorem ok31 : OkTy Tryz.prog 31 ty31 := ⟨by kernel_rfl, by kernel_rfl⟩
def ty32 : ATy := ⟨Go.TypeDesc.slice 42, 1, 24, Go.Value.slice none 0 0⟩
theorem ok32 : OkTy Tryz.prog 32 ty32 := ⟨by kernel_rfl, by kernel_rfl⟩
def ty33 : ATy := ⟨Go.TypeDesc.struct #[{ name := "Points", type := 31, offset := 0, embedded := false, tag := "", pkgPath := "", byteOffset := 0 }, { name := "Triangles", type := 32, offset := 1, embedded := false, tag := "", pkgPath := "", byteOffset := 24 }], 2, 48, Go.Value.agg #[Go.Value.slice none 0 0, Go.Value.slice none 0 0]⟩
theorem ok33 : OkTy Tryz.prog 33 ty33 := ⟨by kernel_rfl, by kernel_rfl⟩
def ty34 : ATy := ⟨Go.TypeDesc.struct #[{ name := "Points", type := 31, offset := 0, embedded := false, tag := "", pkgPath := "", byteOffset := 0 }, { name := "Triangles", type := 32, offset := 1, embedded := false, tag := "", pkgPath := "", byteOffset := 24 }], 2, 48, Go.Value.agg #[Go.Value.slice none 0 0, Go.Value.slice none 0 0]⟩
theorem ok34 : OkTy Tryz.prog 34 ty34 := ⟨by kernel_rfl, by kernel_rfl⟩
def ty41 : ATy := ⟨Go.TypeDesc.array 3 3, 3, 24, Go.Value.agg #[Go.Value.int Go.IntKind.i64 0, Go.Value.int Go.IntKind.i64 0, Go.Value.int Go.IntKind.i64 0]⟩
theorem ok41 : OkTy Tryz.prog 41 ty41 := ⟨by kernel_rfl, by kernel_rfl⟩
def ty42 : ATy := ⟨Go.TypeDesc.array 3 3, 3, 24, Go.Value.agg #[Go.Value.int Go.IntKind.i64 0, Go.Value.int Go.IntKind.i64 0, Go.Value.int Go.IntKind.i64 0]⟩
theorem ok42 : OkTy Tryz.prog 42 ty42 := ⟨by kernel_rfl, by kernel_rfl⟩
def ty46 : ATy := ⟨Go.TypeDesc.int Go.IntKind.i8, 1, 1, Go.Value.int Go.IntKind.i8 0⟩
theorem ok46 : OkTy Tryz.prog 46 ty46 := ⟨by kernel_rfl, by kernel_rfl⟩
def ty47 : ATy := ⟨Go.TypeDesc.array 2 46, 2, 2, Go.Value.agg #[Go.Value.int Go.IntKind.i8 0, Go.Value.int Go.IntKind.i8 0]⟩
theorem ok47 : OkTy Tryz.prog 47 ty47 := ⟨by kernel_rfl, by kernel_rfl⟩
def ty48 : ATy := ⟨Go.TypeDesc.struct #[{ name := "Kind", type := 5, offset := 0, embedded := false, tag := "", pkgPath := "", byteOffset := 0 }, { name := "Shift", type := 47, offset := 1, embedded := false, tag := "", pkgPath := "", byteOffset := 1 }, { name := "Half", type := 4, offset := 3, embedded := false, tag := "", pkgPath := "", byteOffset := 3 }], 4, 4, Go.Value.agg #[Go.Value.int Go.IntKind.u8 0, Go.Value.int Go.IntKind.i8 0, Go.Value.int Go.IntKind.i8 0, Go.Value.bool false]⟩
theorem ok48 : OkTy Tryz.prog 48 ty48 := ⟨by kernel_rfl, by kernel_rfl⟩
def ty49 : ATy := ⟨Go.TypeDesc.struct #[{ name := "Kind", type := 5, offset := 0, embedded := false, tag := "", pkgPath := "", byteOffset := 0 }, { name := "Shift", type := 47, offset := 1, embedded := false, tag := "", pkgPath := "", byteOffset := 1 }, { name := "Half", type := 4, offset := 3, embedded := false, tag := "", pkgPath := "", byteOffset := 3 }], 4, 4, Go.Value.agg #[Go.Value.int Go.IntKind.u8 0, Go.Value.int Go.IntKind.i8 0, Go.Value.int Go.IntKind.i8 0, Go.Value.bool false]⟩
theorem ok49 : OkTy Tryz.prog 49 ty49 := ⟨by kernel_rfl, by kernel_rfl⟩
def ty52 : ATy := ⟨Go.TypeDesc.slice 60, 1, 24, Go.Value.slice none 0 0⟩
theorem ok52 : OkTy Tryz.prog 52 ty52 := ⟨by kernel_rfl, by kernel_rfl⟩
def ty57 : ATy := ⟨Go.TypeDesc.array 3 24, 6, 96, Go.Value.agg #[Go.Value.string { data := #[] }, Go.Value.string { data := #[] }, Go.Value.string { data := #[] }, Go.Value.string { data := #[] }, Go.Value.string { data := #[] }, Go.Value.string { data := #[] }]⟩
theorem ok57 : OkTy Tryz.prog 57 ty57 := ⟨by kernel_rfl, by kernel_rfl⟩
def ty59 : ATy := ⟨Go.TypeDesc.struct #[{ name := "Triangle", type := 3, offset := 0, embedded := false, tag := "", pkgPath := "", byteOffset := 0 }, { name := "From", type := 22, offset := 1, embedded := false, tag := "", pkgPath := "", byteOffset := 8 }, { name := "To", type := 22, offset := 2, embedded := false, tag := "", pkgPath := "", byteOffset := 24 }], 3, 40, Go.Value.agg #[Go.Value.int Go.IntKind.i64 0, Go.Value.string { data := #[] }, Go.Value.string { data := #[] }]⟩
theorem ok59 : OkTy Tryz.prog 59 ty59 := ⟨by kernel_rfl, by kernel_rfl⟩
def ty60 : ATy := ⟨Go.TypeDesc.struct #[{ name := "Triangle", type := 3, offset := 0, embedded := false, tag := "", pkgPath := "", byteOffset := 0 }, { name := "From", type := 22, offset := 1, embedded := false, tag := "", pkgPath := "", byteOffset := 8 }, { name := "To", type := 22, offset := 2, embedded := false, tag := "", pkgPath := "", byteOffset := 24 }], 3, 40, Go.Value.agg #[Go.Value.int Go.IntKind.i64 0, Go.Value.string { data := #[] }, Go.Value.string { data := #[] }]⟩
theorem ok60 : OkTy Tryz.prog 60 ty60 := ⟨by kernel_rfl, by kernel_rfl⟩
def ty62 : ATy := ⟨Go.TypeDesc.array 3 22, 3, 48, Go.Value.agg #[Go.Value.string { data := #[] }, Go.Value.string { data := #[] }, Go.Value.string { data := #[] }]⟩
theorem ok62 : OkTy Tryz.prog 62 ty62 := ⟨by kernel_rfl, by kernel_rfl⟩
def ty63 : ATy := ⟨Go.TypeDesc.array 3 22, 3, 48, Go.Value.agg #[Go.Value.string { data := #[] }, Go.Value.string { data := #[] }, Go.Value.string { data := #[] }]⟩
theorem ok63 : OkTy Tryz.prog 63 ty63 := ⟨by kernel_rfl, by kernel_rfl⟩
def ty70 : ATy := ⟨Go.TypeDesc.slice 3, 1, 24, Go.Value.slice none 0 0⟩
theorem ok70 : OkTy Tryz.prog 70 ty70 := ⟨by kernel_rfl, by kernel_rfl⟩
def ty81 : ATy := ⟨Go.TypeDesc.slice 25, 1, 24, Go.Value.slice none 0 0⟩
theorem ok81 : OkTy Tryz.prog 81 ty81 := ⟨by kernel_rfl, by kernel_rfl⟩
def ty96 : ATy := ⟨Go.TypeDesc.string, 1, 16, Go.Value.string { data := #[] }⟩
theorem ok96 : OkTy Tryz.prog 96 ty96 := ⟨by kernel_rfl, by kernel_rfl⟩
def ty110 : ATy := ⟨Go.TypeDesc.map 24 4, 1, 8, Go.Value.map none⟩
theorem ok110 : OkTy Tryz.prog 110 ty110 := ⟨by kernel_rfl, by kernel_rfl⟩
def ty123 : ATy := ⟨Go.TypeDesc.map 25 3, 1, 8, Go.Value.map none⟩
theorem ok123 : OkTy Tryz.prog 123 ty123 := ⟨by kernel_rfl, by kernel_rfl⟩
def ty139 : ATy := ⟨Go.TypeDesc.slice 4, 1, 24, Go.Value.slice none 0 0⟩
theorem ok139 : OkTy Tryz.prog 139 ty139 := ⟨by kernel_rfl, by kernel_rfl⟩
def ty147 : ATy := ⟨Go.TypeDesc.slice 179, 1, 24, Go.Value.slice none 0 0⟩
theorem ok147 : OkTy Tryz.prog 147 ty147 := ⟨by kernel_rfl, by kernel_rfl⟩
def ty148 : ATy := ⟨Go.TypeDesc.struct #[{ name := "minus", type := 4, offset := 0, embedded := false, tag := "", pkgPath := "klippe/integer", byteOffset := 0 }, { name := "p", type := 147, offset := 1, embedded := false, tag := "", pkgPath := "klippe/integer", byteOffset := 8 }], 2, 32, Go.Value.agg #[Go.Value.bool false, Go.Value.slice none 0 0]⟩
theorem ok148 : OkTy Tryz.prog 148 ty148 := ⟨by kernel_rfl, by kernel_rfl⟩
def ty149 : ATy := ⟨Go.TypeDesc.struct #[{ name := "minus", type := 4, offset := 0, embedded := false, tag := "", pkgPath := "klippe/integer", byteOffset := 0 }, { name := "p", type := 147, offset := 1, embedded := false, tag := "", pkgPath := "klippe/integer", byteOffset := 8 }], 2, 32, Go.Value.agg #[Go.Value.bool false, Go.Value.slice none 0 0]⟩
theorem ok149 : OkTy Tryz.prog 149 ty149 := ⟨by kernel_rfl, by kernel_rfl⟩
def ty161 : ATy := ⟨Go.TypeDesc.map 3 4, 1, 8, Go.Value.map none⟩
theorem ok161 : OkTy Tryz.prog 161 ty161 := ⟨by kernel_rfl, by kernel_rfl⟩
def ty167 : ATy := ⟨Go.TypeDesc.int Go.IntKind.u64, 1, 8, Go.Value.int Go.IntKind.u64 0⟩
theorem ok167 : OkTy Tryz.prog 167 ty167 := ⟨by kernel_rfl, by kernel_rfl⟩
def ty171 : ATy := ⟨Go.TypeDesc.map 3 3, 1, 8, Go.Value.map none⟩
theorem ok171 : OkTy Tryz.prog 171 ty171 := ⟨by kernel_rfl, by kernel_rfl⟩
def ty179 : ATy := ⟨Go.TypeDesc.int Go.IntKind.u64, 1, 8, Go.Value.int Go.IntKind.u64 0⟩
theorem ok179 : OkTy Tryz.prog 179 ty179 := ⟨by kernel_rfl, by kernel_rfl⟩
def ty187 : ATy := ⟨Go.TypeDesc.pointer 190, 1, 8, Go.Value.pointer none⟩
theorem ok187 : OkTy Tryz.prog 187 ty187 := ⟨by kernel_rfl, by kernel_rfl⟩
def ty188 : ATy := ⟨Go.TypeDesc.slice 5, 1, 24, Go.Value.slice none 0 0⟩
theorem ok188 : OkTy Tryz.prog 188 ty188 := ⟨by kernel_rfl, by kernel_rfl⟩
def ty189 : ATy := ⟨Go.TypeDesc.struct #[{ name := "addr", type := 187, offset := 0, embedded := false, tag := "", pkgPath := "strings", byteOffset := 0 }, { name := "buf", type := 188, offset := 1, embedded := false, tag := "", pkgPath := "strings", byteOffset := 8 }], 2, 32, Go.Value.agg #[Go.Value.pointer none, Go.Value.slice none 0 0]⟩
theorem ok189 : OkTy Tryz.prog 189 ty189 := ⟨by kernel_rfl, by kernel_rfl⟩
def ty190 : ATy := ⟨Go.TypeDesc.struct #[{ name := "addr", type := 187, offset := 0, embedded := false, tag := "", pkgPath := "strings", byteOffset := 0 }, { name := "buf", type := 188, offset := 1, embedded := false, tag := "", pkgPath := "strings", byteOffset := 8 }], 2, 32, Go.Value.agg #[Go.Value.pointer none, Go.Value.slice none 0 0]⟩
theorem ok190 : OkTy Tryz.prog 190 ty190 := ⟨by kernel_rfl, by kernel_rfl⟩
def ty194 : ATy := ⟨Go.TypeDesc.func #[3] #[24] false, 1, 8, Go.Value.nilFunc⟩
theorem ok194 : OkTy Tryz.prog 194 ty194 := ⟨by kernel_rfl, by kernel_rfl⟩
def ty199 : ATy := ⟨Go.TypeDesc.int Go.IntKind.i64, 1, 8, Go.Value.int Go.IntKind.i64 0⟩
theorem ok199 : OkTy Tryz.prog 199 ty199 := ⟨by kernel_rfl, by kernel_rfl⟩
def ty206 : ATy := ⟨Go.TypeDesc.int Go.IntKind.u32, 1, 4, Go.Value.int Go.IntKind.u32 0⟩
theorem ok206 : OkTy Tryz.prog 206 ty206 := ⟨by kernel_rfl, by kernel_rfl⟩
def ty217 : ATy := ⟨Go.TypeDesc.pointer 5, 1, 8, Go.Value.pointer none⟩
theorem ok217 : OkTy Tryz.prog 217 ty217 := ⟨by kernel_rfl, by kernel_rfl⟩
def ty219 : ATy := ⟨Go.TypeDesc.int Go.IntKind.u64, 1, 8, Go.Value.int Go.IntKind.u64 0⟩
theorem ok219 : OkTy Tryz.prog 219 ty219 := ⟨by kernel_rfl, by kernel_rfl⟩
def ty223 : ATy := ⟨Go.TypeDesc.pointer 3, 1, 8, Go.Value.pointer none⟩
theorem ok223 : OkTy Tryz.prog 223 ty223 := ⟨by kernel_rfl, by kernel_rfl⟩
def ty229 : ATy := ⟨Go.TypeDesc.int Go.IntKind.i64, 1, 8, Go.Value.int Go.IntKind.i64 0⟩
theorem ok229 : OkTy Tryz.prog 229 ty229 := ⟨by kernel_rfl, by kernel_rfl⟩
def ty232 : ATy := ⟨Go.TypeDesc.pointer 249, 1, 8, Go.Value.pointer none⟩
theorem ok232 : OkTy Tryz.prog 232 ty232 := ⟨by kernel_rfl, by kernel_rfl⟩
def ty239 : ATy := ⟨Go.TypeDesc.array 24 5, 24, 24, Go.Value.agg #[Go.Value.int Go.IntKind.u8 0, Go.Value.int Go.IntKind.u8 0, Go.Value.int Go.IntKind.u8 0, Go.Value.int Go.IntKind.u8 0, Go.Value.int Go.IntKind.u8 0, Go.Value.int Go.IntKind.u8 0, Go.Value.int Go.IntKind.u8 0, Go.Value.int Go.IntKind.u8 0, Go.Value.int Go.IntKind.u8 0, Go.Value.int Go.IntKind.u8 0, Go.Value.int Go.IntKind.u8 0, Go.Value.int Go.IntKind.u8 0, Go.Value.int Go.IntKind.u8 0, Go.Value.int Go.IntKind.u8 0, Go.Value.int Go.IntKind.u8 0, Go.Value.int Go.IntKind.u8 0, Go.Value.int Go.IntKind.u8 0, Go.Value.int Go.IntKind.u8 0, Go.Value.int Go.IntKind.u8 0, Go.Value.int Go.IntKind.u8 0, Go.Value.int Go.IntKind.u8 0, Go.Value.int Go.IntKind.u8 0, Go.Value.int Go.IntKind.u8 0, Go.Value.int Go.IntKind.u8 0]⟩
theorem ok239 : OkTy Tryz.prog 239 ty239 := ⟨by kernel_rfl, by kernel_rfl⟩
def ty243 : ATy := ⟨Go.TypeDesc.pointer 219, 1, 8, Go.Value.pointer none⟩
theorem ok243 : OkTy Tryz.prog 243 ty243 := ⟨by kernel_rfl, by kernel_rfl⟩
def tree : TT := (.node 49 ty49 (.node 19 ty19 (.node 10 ty10 (.node 6 ty6 (.node 4 ty4 (.node 3 ty3 (.node 2 ty2 .leaf .leaf) .leaf) (.node 5 ty5 .leaf .leaf)) (.node 8 ty8 (.node 7 ty7 .leaf .leaf) (.node 9 ty9 .leaf .leaf))) (.node 15 ty15 (.node 13 ty13 (.node 12 ty12 (.node 11 ty11 .leaf .leaf) .leaf) (.node 14 ty14 .leaf .leaf)) (.node 17 ty17 (.node 16 ty16 .leaf .leaf) (.node 18 ty18 .leaf .leaf)))) (.node 32 ty32 (.node 25 ty25 (.node 23 ty23 (.node 22 ty22 (.node 21 ty21 .leaf .leaf) .leaf) (.node 24 ty24 .leaf .leaf)) (.node 28 ty28 (.node 27 ty27 .leaf .leaf) (.node 31 ty31 .leaf .leaf))) (.node 42 ty42 (.node 34 ty34 (.node 33 ty33 .leaf .leaf) (.node 41 ty41 .leaf .leaf)) (.node 47 ty47 (.node 46 ty46 .leaf .leaf) (.node 48 ty48 .leaf .leaf))))) (.node 167 ty167 (.node 96 ty96 (.node 62 ty62 (.node 59 ty59 (.node 57 ty57 (.node 52 ty52 .leaf .leaf) .leaf) (.node 60 ty60 .leaf .leaf)) (.node 70 ty70 (.node 63 ty63 .leaf .leaf) (.node 81 ty81 .leaf .leaf))) (.node 147 ty147 (.node 123 ty123 (.node 110 ty110 .leaf .leaf) (.node 139 ty139 .leaf .leaf)) (.node 149 ty149 (.node 148 ty148 .leaf .leaf) (.node 161 ty161 .leaf .leaf)))) (.node 206 ty206 (.node 189 ty189 (.node 187 ty187 (.node 179 ty179 (.node 171 ty171 .leaf .leaf) .leaf) (.node 188 ty188 .leaf .leaf)) (.node 194 ty194 (.node 190 ty190 .leaf .leaf) (.node 199 ty199 .leaf .leaf))) (.node 229 ty229 (.node 219 ty219 (.node 217 ty217 .leaf .leaf) (.node 223 ty223 .leaf .leaf)) (.node 239 ty239 (.node 232 ty232 .leaf .leaf) (.node 243 ty243 .leaf .leaf))))))
def tab : Tab := tree.get
theorem fits : Fits Tryz.prog tab := TT.fits tree ⟨ok49, ⟨ok19, ⟨ok10, ⟨ok6, ⟨ok4, ⟨ok3, ⟨ok2, trivial, trivial⟩, trivial⟩, ⟨ok5, trivial, trivial⟩⟩, ⟨ok8, ⟨ok7, trivial, trivial⟩, ⟨ok9, trivial, trivial⟩⟩⟩, ⟨ok15, ⟨ok13, ⟨ok12, ⟨ok11, trivial, trivial⟩, trivial⟩, ⟨ok14, trivial, trivial⟩⟩, ⟨ok17, ⟨ok16, trivial, trivial⟩, ⟨ok18, trivial, trivial⟩⟩⟩⟩, ⟨ok32, ⟨ok25, ⟨ok23, ⟨ok22, ⟨ok21, trivial, trivial⟩, trivial⟩, ⟨ok24, trivial, trivial⟩⟩, ⟨ok28, ⟨ok27, trivial, trivial⟩, ⟨ok31, trivial, trivial⟩⟩⟩, ⟨ok42, ⟨ok34, ⟨ok33, trivial, trivial⟩, ⟨ok41, trivial, trivial⟩⟩, ⟨ok47, ⟨ok46, trivial, trivial⟩, ⟨ok48, trivial, trivial⟩⟩⟩⟩⟩, ⟨ok167, ⟨ok96, ⟨ok62, ⟨ok59, ⟨ok57, ⟨ok52, trivial, trivial⟩, trivial⟩, ⟨ok60, trivial, trivial⟩⟩, ⟨ok70, ⟨ok63, trivial, trivial⟩, ⟨ok81, trivial, trivial⟩⟩⟩, ⟨ok147, ⟨ok123, ⟨ok110, trivial, trivial⟩, ⟨ok139, trivial, trivial⟩⟩, ⟨ok149, ⟨ok148, trivial, trivial⟩, ⟨ok161, trivial, trivial⟩⟩⟩⟩, ⟨ok206, ⟨ok189, ⟨ok187, ⟨ok179, ⟨ok171, trivial, trivial⟩, trivial⟩, ⟨ok188, trivial, trivial⟩⟩, ⟨ok194, ⟨ok190, trivial, trivial⟩, ⟨ok199, trivial, trivial⟩⟩⟩, ⟨ok229, ⟨ok219, ⟨ok217, trivial, trivial⟩, ⟨ok223, trivial, trivial⟩⟩, ⟨ok239, ⟨ok232, trivial, trivial⟩, ⟨ok243, trivial, trivial⟩⟩⟩⟩⟩⟩
theorem hmix : Tryz.prog.follows .mixedOrders = true := by kernel_rfl
end Go.Flow.Tryz
namespace Go.Flow
open Go Go.RowKit
theorem w64 (n : Int) : IntKind.i64.wrap n = n ↔ -9223372036854775808 ≤ n ∧ n ≤ 9223372036854775807 := by
  rw [IntKind.wrap_i64]; omega
theorem w64n (n : Int) : IntKind.i64.wrap (0 - n) = -n ↔ -9223372036854775807 ≤ n ∧ n ≤ 9223372036854775808 := by
  rw [IntKind.wrap_i64]; omega
theorem wu8 (n : Int) : IntKind.u8.wrap n = n ↔ 0 ≤ n ∧ n ≤ 255 := by
  rw [IntKind.wrap_u8]; omega
theorem wu64 (n : Int) : IntKind.u64.wrap n = n ↔ 0 ≤ n ∧ n ≤ 18446744073709551615 := by
  simp only [IntKind.wrap, IntKind.bits, IntKind.signed]; simp; omega
abbrev bstr (l : List UInt8) : ByteArray := ⟨⟨l⟩⟩
abbrev sv (l : List UInt8) : AV := .v (.string (bstr l))
abbrev iv (n : Int) : AV := .v (.int .i64 n)
abbrev uv (n : Int) : AV := .v (.int .u64 n)
abbrev bv (b : Bool) : AV := .v (.bool b)
abbrev strv (b : ByteArray) : AV := .v (.string b)
abbrev uu : AV := .v undef
theorem bstr_append (a b : List UInt8) : bstr a ++ bstr b = bstr (a ++ b) := by
  apply ByteArray.ext
  simp [ByteArray.data_append]
theorem bstr_extract (a : List UInt8) (i j : Nat) : (bstr a).extract i j = bstr ((a.take j).drop i) := by
  apply ByteArray.ext
  simp [ByteArray.data_extract, List.drop_take]
@[simp] theorem bstr_size (a : List UInt8) : (bstr a).size = a.length := rfl
def Dig (c : UInt8) : Prop := 48 ≤ c.toNat ∧ c.toNat ≤ 57
def dv (acc : Int) : List UInt8 → Int
  | [] => acc
  | c :: cs => dv (10 * acc + ((c.toNat : Int) - 48)) cs
theorem dv_append : ∀ (xs ys : List UInt8) (a : Int), dv a (xs ++ ys) = dv (dv a xs) ys
  | [], _, _ => rfl
  | _ :: xs, ys, _ => dv_append xs ys _
abbrev nT (n : Nat) : List UInt8 := Lib.decDigits n
abbrev zT (n : Int) : List UInt8 := Lib.itoa n
theorem chr_toNat {n : Nat} (h : n < 10) : (UInt8.ofNat (48 + n)).toNat = 48 + n := by
  simp [UInt8.toNat_ofNat']; omega
theorem nT_dig (n : Nat) : ∀ c ∈ nT n, Dig c := by
  induction n using Nat.strongRecOn with
  | _ n ih =>
    intro c hc
    unfold nT at hc
    rw [Lib.decDigits] at hc
    split at hc
    · rename_i h
      simp only [List.mem_singleton] at hc
      subst hc
      unfold Dig
      rw [chr_toNat h]
      omega
    · rename_i h
      rcases List.mem_append.1 hc with hc | hc
      · exact ih _ (by omega) c hc
      · simp only [List.mem_singleton] at hc
        subst hc
        unfold Dig
        rw [chr_toNat (by omega)]
        omega
theorem nT_dv (n : Nat) : dv 0 (nT n) = n := by
  induction n using Nat.strongRecOn with
  | _ n ih =>
    unfold nT
    rw [Lib.decDigits]
    split
    · rename_i h
      simp only [dv]
      rw [chr_toNat h]
      omega
    · rename_i h
      rw [dv_append]
      have := ih (n / 10) (by omega)
      unfold nT at this
      rw [this]
      simp only [dv]
      rw [chr_toNat (by omega)]
      omega
theorem nT_length (n : Nat) : (nT n).length = Lib.nDigits n := Lib.decDigits_length n
theorem nT_pos (n : Nat) : 1 ≤ (nT n).length := by rw [nT_length]; exact Lib.nDigits_pos n
theorem nDigits_mono {k : Nat} : ∀ {n : Nat}, n < 10 ^ k → 1 ≤ k → Lib.nDigits n ≤ k := by
  induction k with
  | zero => intro n _ h; omega
  | succ k ih =>
    intro n h _
    by_cases h9 : n < 10
    · rw [Lib.nDigits_small h9]; omega
    · rw [Lib.nDigits_big h9]
      rw [Nat.pow_succ] at h
      by_cases hk : k = 0
      · subst hk; simp at h; omega
      · have := ih (n := n / 10) (by omega) (by omega)
        omega
theorem nT_le {n k : Nat} (h : n < 10 ^ k) (hk : 1 ≤ k) : (nT n).length ≤ k := by rw [nT_length]; exact nDigits_mono h hk
theorem zT_nat (n : Nat) : zT (n : Int) = nT n := Lib.itoa_nonneg n
theorem zT_neg (n : Nat) (h : 1 ≤ n) : zT (-(n : Int)) = 45 :: nT n := Lib.itoa_neg n h
def rT (p : Int) (q : Nat) : List UInt8 := if q = 1 then zT p else zT p ++ 47 :: nT q
theorem zT_cases (p : Int) : (0 ≤ p ∧ zT p = nT p.natAbs) ∨ (p < 0 ∧ zT p = 45 :: nT p.natAbs) := by
  rcases Int.lt_or_le p 0 with h | h
  · right
    refine ⟨h, ?_⟩
    have := zT_neg p.natAbs (by omega)
    rw [show -((p.natAbs : Nat) : Int) = p by omega] at this
    exact this
  · left
    refine ⟨h, ?_⟩
    have := zT_nat p.natAbs
    rw [show ((p.natAbs : Nat) : Int) = p by omega] at this
    exact this
theorem nT_cons (n : Nat) : ∃ c r, nT n = c :: r ∧ Dig c := by
  have h := nT_pos n
  have hd := nT_dig n
  cases e : nT n with
  | nil => rw [e] at h; simp at h
  | cons c r => exact ⟨c, r, rfl, hd c (by rw [e]; simp)⟩
end Go.Flow
namespace Go.Flow
open Go Go.RowKit
def codeL : Code → Code
  | .seq x _ => x
  | .block _ x => x
  | .loop x => x
  | c => c
def codeR : Code → Code
  | .seq _ y => y
  | c => c
def codeOps : Code → Array Oper
  | .region _ ops _ => ops
  | _ => #[]
def codeOf (fn : Func) : Code := fn.body.getD .skip
def CRes.cut (k : Nat) : CRes → Option (Ex × List AV × Heap × List Prop)
  | .ok ex T H _ cs => some (ex, keepA k T, H, cs)
  | .bad _ _ _ => none
variable {P : Program} {τ : Tab}
theorem Goes.cut (hτ : Fits P τ) (hm : P.follows .mixedOrders = true) {c : Code} {T T' : List AV} {H H' : Heap} {ex : Ex} {orc : List Orc} {k : Nat} {cs : List Prop} (h : (evC P τ c T H orc []).cut k = some (ex, T', H', cs)) (hc : AllP cs) : Goes P c T H ex T' H' := by
  cases he : evC P τ c T H orc [] with
  | bad x y z => rw [he] at h; cases h
  | ok ex1 T1 H1 orc1 cs1 =>
    rw [he] at h
    cases h
    have g := evC_sound hτ hm c he hc.all
    exact fun B S0 w0 α a w s hf Q hQ => g B S0 w0 α a w s hf Q fun α' a' w' s' hf' => hQ α' a' w' (s'.keep k) hf'
theorem GoesIn.cut (hτ : Fits P τ) (hm : P.follows .mixedOrders = true) {c : Code} (hp : plainC c = true) {T T' : List AV} {H H' : Heap} {ex : Ex} {orc : List Orc} {k : Nat} {cs : List Prop} (h : (evC P τ c T H orc []).cut k = some (ex, T', H', cs)) (hc : AllP cs) : GoesIn P c T H ex T' H' := by
  cases he : evC P τ c T H orc [] with
  | bad x y z => rw [he] at h; cases h
  | ok ex1 T1 H1 orc1 cs1 =>
    rw [he] at h
    cases h
    have g := evC_sound_in hτ hm c hp he hc.all
    exact fun l B S0 w0 α a w s hf Q hQ => g l B S0 w0 α a w s hf Q fun α' a' w' s' hf' => hQ α' a' w' (s'.keep k) hf'
end Go.Flow
namespace Go.Flow.Tryz
open Go Go.Proofs Go.RowKit Go.Flow
set_option maxRecDepth 100000
def bwR0 (fn : Func) : Code := codeL (codeOf fn)
def bwLB (fn : Func) : Code := codeL (codeL (codeR (codeOf fn)))
def bwR1 (fn : Func) : Code := codeL (bwLB fn)
def bwB1 (fn : Func) : Code := codeL (codeL (codeR (bwLB fn)))
def bwOps (fn : Func) : Array Oper := codeOps (codeL (bwB1 fn))
def bwC3 (fn : Func) : Code := codeR (bwB1 fn)
def bwR2 (fn : Func) : Code := codeR (codeR (bwLB fn))
def bwPre (fn : Func) : List Oper := (bwOps fn).toList.take 6
def bwO17 (fn : Func) : Oper := ((bwOps fn).toList[6]?).getD default
def bwO18 (fn : Func) : Oper := ((bwOps fn).toList[7]?).getD default
theorem bw_body : Tryz.f171.body = some (.seq (bwR0 Tryz.f171) (.block 0 (.loop (.seq (bwR1 Tryz.f171) (.seq (.block 1 (.seq (.region 3 (bwOps Tryz.f171) false) (bwC3 Tryz.f171))) (bwR2 Tryz.f171)))))) := by kernel_rfl
theorem bw_ops : (bwOps Tryz.f171).toList = (bwPre Tryz.f171) ++ [(bwO17 Tryz.f171), (bwO18 Tryz.f171)] := by kernel_rfl
theorem bw_op17 : (bwO17 Tryz.f171).op = .call ⟨.value (.tmp 11), #[.tmp 12, .tmp 16], #[3, 179]⟩ ∧ (bwO17 Tryz.f171).guard = none ∧ (bwO17 Tryz.f171).dst = some 17 := ⟨by kernel_rfl, by kernel_rfl, by kernel_rfl⟩
abbrev yv (l : Nat) : AV := .v (.func (.yield l) #[] #[])
abbrev bw4 (es : List AV) (l : Nat) (i : Int) : List AV := [yv l, .lp [.lst 1 es], uu, iv i]
abbrev bwT (es : List AV) (l : Nat) (i : Int) : List AV := bw4 es l i ++ List.replicate 15 .any
theorem bw_head (es : List AV) (l : Nat) (H : Heap) : (evC Tryz.prog tab (bwR0 Tryz.f171) ([yv l, .lp [.lst 1 es]] ++ List.replicate 17 uu) H [] []).cut 4 =
    some (.normal, bwT es l ((es.length : Int) - 1), H, [IntKind.i64.wrap ((es.length : Int) - 1) = (es.length : Int) - 1]) := by kernel_rfl
theorem bw_go (es : List AV) (l : Nat) (i : Int) (H : Heap) : (evC Tryz.prog tab (bwR1 Tryz.f171) (bwT es l i) H [.b true] []).cut 4 = some (.normal, bwT es l i, H, [decide (i ≥ 0) = true]) := by kernel_rfl
theorem bw_out (es : List AV) (l : Nat) (i : Int) (H : Heap) : (evC Tryz.prog tab (bwR1 Tryz.f171) (bwT es l i) H [.b false] []).cut 4 = some (.exit 0, bwT es l i, H, [decide (i ≥ 0) = false]) := by kernel_rfl
theorem bw_next (es : List AV) (l : Nat) (i : Int) (H : Heap) : (evC Tryz.prog tab (bwR2 Tryz.f171) (bwT es l i) H [] []).cut 4 = some (.normal, bwT es l (i - 1), H, [IntKind.i64.wrap (i - 1) = i - 1]) := by kernel_rfl
abbrev bwT6 (es : List AV) (l : Nat) (i x : Int) : List AV := bw4 es l i ++ [.any, .any, .any, .any, .any, .any, .any, yv l, iv i, .lst 1 es, iv i, .lp [uv x], uv x, .any, .any]
theorem bw_pre (es : List AV) (l : Nat) (i x : Int) (H : Heap) : opsA Tryz.prog tab (bwOps Tryz.f171) (bwPre Tryz.f171) (bwT es l i) H [.a (uv x)] [] =
    .ok (bwT6 es l i x) H [] [0 ≤ i ∧ es[i.toNat]? = some (uv x)] [] := by kernel_rfl
abbrev bwT7 (es : List AV) (l : Nat) (i : Int) : List AV := bw4 es l i ++ List.replicate 13 .any ++ [bv true, .any]
theorem bw_op18 (es : List AV) (l : Nat) (i : Int) (H : Heap) : opsA Tryz.prog tab (bwOps Tryz.f171) [(bwO18 Tryz.f171)] (bwT7 es l i) H [] [] = .ok (bw4 es l i ++ List.replicate 13 .any ++ [bv true, bv (!true)]) H [] [] [] := by kernel_rfl
theorem bw_c3 (es : List AV) (l : Nat) (i : Int) (H : Heap) : (evC Tryz.prog tab (bwC3 Tryz.f171) (bw4 es l i ++ List.replicate 13 .any ++ [bv true, bv (!true)]) H [.b false] []).cut 4 = some (.normal, bwT es l i, H, [(!true) = false]) := by kernel_rfl
abbrev bwH (H : Heap) (x y : Aux) (us : List Value) (G : List AV) : Heap := H ++ [some (.aux x), some (.aux y), some (.ghost us G)]
theorem bw_get1 (H : Heap) (x y : Aux) (us : List Value) (G : List AV) : getH (bwH H x y us G) H.length = some (.aux x) := by
  simp [getH]
theorem bw_get2 (H : Heap) (x y : Aux) (us : List Value) (G : List AV) : getH (bwH H x y us G) (H.length + 1) = some (.aux y) := by
  simp [getH]
theorem bw_get3 (H : Heap) (x y : Aux) (us : List Value) (G : List AV) : getH (bwH H x y us G) (H.length + 2) = some (.ghost us G) := by
  simp [getH]
theorem bw_unmarked {H : Heap} (h : unmarked H = true) {x y : Aux} {us : List Value} {G : List AV} (hx : x.live = false) (hy : y.live = false) : unmarked (bwH H x y us G) = true :=
  unmarked_app h (by simp [unmarked, hx, hy])
theorem setAt_app : ∀ (H E : Heap) (i : Nat) (o : Option AObj), setAt (H ++ E) (H.length + i) o = H ++ setAt E i o
  | [], E, i, o => by simp
  | x :: H, E, i, o => by
    have := setAt_app H E i o
    simp only [List.cons_append, List.length_cons]
    rw [show H.length + 1 + i = (H.length + i) + 1 by omega]
    simp only [setAt, this]
theorem bw_set2 (H : Heap) (x y y' : Aux) (us : List Value) (G : List AV) : setAt (bwH H x y us G) (H.length + 1) (some (.aux y')) = bwH H x y' us G := by
  rw [setAt_app]; rfl
theorem bw_set3 (H : Heap) (x y : Aux) (us us' : List Value) (G G' : List AV) : setAt (bwH H x y us G) (H.length + 2) (some (.ghost us' G')) = bwH H x y us' G' := by
  rw [setAt_app]; rfl
abbrev bwRec (st : LoopState) (fn : FuncId) (tm : Array Value) (p0 p1 : Tmp) (assign body : Code) (D : Nat) : Loop :=
  { state := st, pending := none, fn := fn, tmps := tm, params := #[p0, p1], assign := assign, body := body, defers := D }
theorem bw_round {es : List AV} {l D : Nat} {i x0 : Int} {T0 : List AV} {Hj Hk : Heap} (hk : Hk.length = Hj.length) {fn : FuncId} {tm : Array Value} {p0 p1 : Tmp} {assign body : Code}
    (hr : ∃ T1 T2, ∀ (p q : Option Nat) (ob1 ob2 : Obj) (us : List Value), GoesIn Tryz.prog assign ((T0.set p0 (iv i)).set p1 (uv x0)) (bwH Hj ⟨p, ob1, false⟩ ⟨q, ob2, false⟩ us (T0 ++ bw4 es l i)) .normal T1 (bwH Hj ⟨p, ob1, false⟩ ⟨q, ob2, false⟩ us (T0 ++ bw4 es l i)) ∧
      GoesIn Tryz.prog body T1 (bwH Hj ⟨p, ob1, false⟩ ⟨q, ob2, false⟩ us (T0 ++ bw4 es l i)) .normal T2 (bwH Hk ⟨p, ob1, false⟩ ⟨q, ob2, false⟩ us (T0 ++ bw4 es l i)))
    (huj : unmarked Hj = true) (hi : 0 ≤ i) (hx : es[i.toNat]? = some (uv x0)) (h64 : i ≤ 9223372036854775807)
    {B : Nat} {S0 : Nat → Prop} {w0 : World} {α : Nat → Option Value} {a : Act} {w : World}
    (s : Sim B S0 w0 α (bwT es l i) (bwH Hj ⟨some D, .deferred (some []), false⟩ ⟨some l, .loop (bwRec .ready fn tm p0 p1 assign body D), false⟩ tm.toList T0) a w)
    (hf : Fresh α (bwH Hj ⟨some D, .deferred (some []), false⟩ ⟨some l, .loop (bwRec .ready fn tm p0 p1 assign body D), false⟩ tm.toList T0)) (Q : Exit → Act → World → Prop)
    (hQ : ∀ (α' : Nat → Option Value) (a' : Act) (w' : World), Sim B S0 w0 α' (bwT es l (i - 1)) (bwH Hk ⟨some D, .deferred (some []), false⟩ ⟨some l, .loop (bwRec .ready fn tm p0 p1 assign body D), false⟩ tm.toList T0) a' w' →
      Fresh α' (bwH Hk ⟨some D, .deferred (some []), false⟩ ⟨some l, .loop (bwRec .ready fn tm p0 p1 assign body D), false⟩ tm.toList T0) → Q .normal a' w') :
    (Code.seq (bwR1 Tryz.f171) (.seq (.block 1 (.seq (.region 3 (bwOps Tryz.f171) false) (bwC3 Tryz.f171))) (bwR2 Tryz.f171))).wpIn Fence.wide 0 Tryz.prog Q a w := by
  refine wpIn_seq (wpIn_wide.2 (Goes.cut fits hmix (bw_go es l i _) ⟨by simpa using hi, trivial⟩ B S0 w0 α a w s hf _ fun α1 a1 w1 s1 hf1 => ?_))
  refine wpIn_seq (wpIn_block (wpIn_seq (wpIn_region_list ?_)))
  rw [bw_ops]
  refine opsA_sound_gen fits (fun _ h => wp_wide h) (fun _ => trivial) (bw_pre es l i x0 _) (by kernel_rfl) (fun c hc => ?_) s1 hf1 _ fun α6 a6 w6 s6 hf6 => ?_
  · simp only [List.mem_singleton] at hc
    subst hc
    exact ⟨hi, hx⟩
  have hlen6 : a6.tmps.toList.length = 19 := by rw [s6.tmps.length]; rfl
  have hyv : a6.eval (.tmp 11) = .func (.yield l) #[] #[] := (s6.eval (.tmp 11)).inv_v
  have hvi : a6.eval (.tmp 12) = .int .i64 i := (s6.eval (.tmp 12)).inv_v
  have hvx : a6.eval (.tmp 16) = .int .u64 x0 := (s6.eval (.tmp 16)).inv_v
  obtain ⟨l', hl1, hl2, hl3, hl4⟩ := s6.objs _ _ (bw_get2 Hj _ _ _ _)
  obtain rfl := hl4 l rfl
  have hgh := (s6.objs _ _ (bw_get3 Hj _ _ _ _)).2
  unfold wpListIn
  rw [if_pos (by simp [Region.wanted, bw_op17.2.1])]
  have hrun : (execOp a6.eval (bwO17 Tryz.f171)).run Tryz.prog w6 = .ok (.round l' fn ((tm.setIfInBounds p0 (.int .i64 i)).setIfInBounds p1 (.int .u64 x0)) assign body) w6 := by
    have hy := run_yield (P := Tryz.prog) (args := #[.int .i64 i, .int .u64 x0]) hl3 rfl
    simp [execOp, bw_op17.1, resolve, hyv, hvi, hvx, Deferred.ofValue, invoke, hy]
  refine ⟨fun _ _ => trivial, ?_⟩
  rw [Oper.semAt_eq _ _ _ fun c e => by rw [bw_op17.1] at e; cases e]
  rw [hrun]
  refine ⟨(fun h => by cases h), roundIn_of_wpIn trivial ?_⟩
  have sg := s6.reghost (us' := tm.toList ++ a6.tmps.toList.take 4) (xs' := T0 ++ bw4 es l' i) (bw_get3 Hj _ _ _ _) (hgh.append (s6.tmps.take 4))
  rw [bw_set3] at sg
  have fr3 : ∀ {α : Nat → Option Value} {H H' : Heap} {x y x' y' : Aux} {us us' : List Value} {G G' : List AV}, H'.length = H.length → Fresh α (bwH H x y us G) → Fresh α (bwH H' x' y' us' G') := fun hl h k hk => h k (by simpa [hl] using hk)
  have sr := sg.reframe (T' := (T0.set p0 (iv i)).set p1 (uv x0)) (a' := { tmps := (tm.setIfInBounds p0 (.int .i64 i)).setIfInBounds p1 (.int .u64 x0), defers := [] })
    (by
      have := ((hgh.mono (Env.Le.refl _)).set p0 (x := iv i) (u := .int .i64 i) (.v _)).set p1 (x := uv x0) (u := .int .u64 x0) (.v _)
      have h2 : RepL (envOf B S0 α6 (bwH Hj ⟨some D, .deferred (some []), false⟩ ⟨some l', .loop (bwRec .ready fn tm p0 p1 assign body D), false⟩ (tm.toList ++ a6.tmps.toList.take 4) (T0 ++ bw4 es l' i)) w6) T0 tm.toList := by
        have h3 := (sg.objs _ _ (bw_get3 Hj _ _ _ _)).2
        have h4 := RepL.take T0.length h3
        rw [List.take_left' rfl] at h4
        rw [List.take_left' (by rw [hgh.length])] at h4
        exact h4
      simpa using (h2.set p0 (x := iv i) (u := .int .i64 i) (.v _)).set p1 (x := uv x0) (u := .int .u64 x0) (.v _)) .nil
  obtain ⟨T1, T2, hr⟩ := hr
  refine (hr _ _ _ _ _).1 l' B S0 w0 α6 _ w6 sr (fr3 rfl hf6) _ fun α7 a7 w7 s7 hf7 => ?_
  obtain ⟨b7, b71, b72, b73, b74⟩ := s7.objs _ _ (bw_get2 Hj _ _ _ _)
  obtain rfl := b74 l' rfl
  refine ⟨_, run_beginRound b73 rfl, ?_⟩
  have s8 := s7.turn (o' := .loop (bwRec .busy fn tm p0 p1 assign body D)) (bw_get2 Hj _ _ _ _) b71 (.inr (by intro h; cases h))
  rw [bw_set2] at s8
  refine (hr _ _ _ _ _).2 b7 B S0 w0 α7 _ _ s8 (fr3 rfl hf7) _ fun α9 a9 w9 s9 hf9 => ?_
  have e9 : Hj.length = Hk.length := hk.symm
  obtain ⟨b9, b91, b92, b93, b94⟩ := s9.objs _ _ (bw_get2 Hk _ _ _ _)
  obtain rfl := b94 b7 rfl
  refine ⟨_, _, run_endRound none b93, ?_⟩
  have s10 := s9.turn (o' := .loop (bwRec .ready fn tm p0 p1 assign body D)) (bw_get2 Hk _ _ _ _) b91 (.inr (by intro h; cases h))
  rw [bw_set2] at s10
  have hgh10 := (s10.objs _ _ (bw_get3 Hk _ _ _ _)).2
  have hdrop := RepL.drop T0.length hgh10
  rw [List.drop_left' rfl, List.drop_left' (by rw [hgh.length])] at hdrop
  have htake := RepL.take T0.length hgh10
  rw [List.take_left' rfl, List.take_left' (by rw [hgh.length])] at htake
  have s11 := s10.reframe (T' := bwT7 es b9 i) (a' := a6.put (some 17) (.bool true)) (by
    have h1 : RepL _ (bw4 es b9 i ++ List.replicate 15 .any) a6.tmps.toList := RepL.of_get (by simp [hlen6]) fun k x u hx hu => by
      by_cases hk4 : k < 4
      · rw [List.getElem?_append_left (by simpa using hk4)] at hx
        obtain ⟨u', hu', hr'⟩ := hdrop.get hx
        rw [List.getElem?_take_of_lt hk4, hu] at hu'
        cases hu'
        exact hr'
      · rw [List.getElem?_append_right (by simp; omega), List.getElem?_replicate] at hx
        split at hx
        · cases hx; exact .any _
        · cases hx
    have h2 := h1.set 17 (x := bv true) (u := .bool true) (.v _)
    simpa [Act.put] using h2) (by
      have e : (a6.put (some 17) (.bool true)).defers = [] := (show (a6.put (some 17) (.bool true)).defers = a6.defers from rfl).trans (defers_nil s6 (bw_unmarked (x := ⟨some D, .deferred (some []), false⟩) (y := ⟨some b9, .loop (bwRec .ready fn tm p0 p1 assign body D), false⟩) huj rfl rfl))
      rw [e]
      exact .nil)
  have s12 := s11.reghost (us' := tm.toList) (xs' := T0) (bw_get3 Hk _ _ _ _) htake
  rw [bw_set3] at s12
  have hl12 : Fresh α9 (bwH Hk ⟨some D, .deferred (some []), false⟩ ⟨some b9, .loop (bwRec .ready fn tm p0 p1 assign body D), false⟩ tm.toList T0) := fr3 rfl hf9
  have h18 := opsA_sound_gen fits (F := Fence.wide) (fun _ h => wp_wide h) (fun _ => trivial) (ol2 := []) (bw_op18 es b9 i _) (by kernel_rfl) (fun c hc => by simp at hc) s12 hl12
  refine h18 _ fun α13 a13 w13 s13 hf13 => wpListIn_nil ?_
  refine wpIn_wide.2 (Goes.cut fits hmix (bw_c3 es b9 i _) ⟨rfl, trivial⟩ B S0 w0 α13 a13 w13 s13 hf13 _ fun α14 a14 w14 s14 hf14 => ?_)
  exact wpIn_wide.2 (Goes.cut fits hmix (bw_next es b9 i _) ⟨by rw [w64]; omega, trivial⟩ B S0 w0 α14 a14 w14 s14 hf14 _ fun α15 a15 w15 s15 hf15 => hQ α15 a15 w15 s15 hf15)
theorem renH_congr {L : List Nat} {H H' : Heap} (h : ∀ k ∈ L, getH H k = getH H' k) : renH L H = renH L H' := by
  unfold renH
  exact List.map_congr_left fun k hk => by rw [h k hk]
theorem auxIn_of {L : List Nat} : ∀ {H : Heap} {k : Nat}, (∀ h o, getH H h = some (.aux o) → o.live = true → k + h ∈ L) → auxIn L k H = true
  | [], _, _ => rfl
  | o :: H, k, h => by
    simp only [auxIn, Bool.and_eq_true]
    refine ⟨?_, auxIn_of fun j o' ho hv => ?_⟩
    · split
      · rename_i x
        cases hv : x.live with
        | false => rfl
        | true => simpa using h 0 x (by simp [getH]) hv
      · rfl
    · have := h (j + 1) o' (by simpa [getH] using ho) hv
      rwa [show k + (j + 1) = k + 1 + j by omega] at this
theorem goes_backward {xs : List Int} {T0 : List AV} {H0 : Heap} {Hs : Nat → Heap} {g : Operand} {p0 p1 : Tmp} {assign body : Code}
    (hg : evalA T0 g = .fn 171 [.lp [.lst 1 (xs.map uv)]]) (h0 : Hs 0 = H0) (hlen : ∀ j, (Hs j).length = H0.length) (hu : ∀ j, unmarked (Hs j) = true) (hmax : (xs.length : Int) ≤ 9223372036854775807)
    (hr : ∀ (j : Nat) (x0 : Int), xs[xs.length - 1 - j]? = some x0 → j < xs.length → ∀ l : Nat, ∃ T1 T2, ∀ (p q : Option Nat) (ob1 ob2 : Obj) (us : List Value),
      GoesIn Tryz.prog assign ((T0.set p0 (iv ((xs.length : Int) - 1 - j))).set p1 (uv x0)) (bwH (Hs j) ⟨p, ob1, false⟩ ⟨q, ob2, false⟩ us (T0 ++ bw4 (xs.map uv) l ((xs.length : Int) - 1 - j))) .normal T1 (bwH (Hs j) ⟨p, ob1, false⟩ ⟨q, ob2, false⟩ us (T0 ++ bw4 (xs.map uv) l ((xs.length : Int) - 1 - j))) ∧
      GoesIn Tryz.prog body T1 (bwH (Hs j) ⟨p, ob1, false⟩ ⟨q, ob2, false⟩ us (T0 ++ bw4 (xs.map uv) l ((xs.length : Int) - 1 - j))) .normal T2 (bwH (Hs (j + 1)) ⟨p, ob1, false⟩ ⟨q, ob2, false⟩ us (T0 ++ bw4 (xs.map uv) l ((xs.length : Int) - 1 - j)))) :
    Goes Tryz.prog (.rangeFunc g #[p0, p1] assign body) T0 H0 .normal (T0.map (ren (List.range (H0.length + 1)) 9)) (renH (List.range (H0.length + 1)) (Hs xs.length ++ [some (.aux ⟨none, .deferred (some []), true⟩)])) := by
  intro B S0 w0 α a w s hf Q hQ
  have hd0 : a.defers = [] := defers_nil s (by rw [← h0]; exact hu 0)
  have hgv := s.eval g
  rw [hg] at hgv
  obtain ⟨cus, hgv, hcap⟩ := hgv.inv_fn
  refine (wpIn_wide (n := 0)).1 (wpIn_rangeFunc (n := 0) fun fn _ => ?_)
  have f1 := fresh_upd (v := .chan (some w.heap.size)) hf (o := some (.aux ⟨some w.heap.size, .deferred (some []), false⟩))
  have f2 := fresh_upd (v := .chan (some (w.alloc (.deferred (some []))).heap.size)) f1 (o := some (.aux ⟨some (w.alloc (.deferred (some []))).heap.size, .loop (bwRec .ready fn a.tmps p0 p1 assign body w.heap.size), false⟩))
  have s2 := (s.pushAux hf (.deferred (some []))).pushAux f1 (.loop (bwRec .ready fn a.tmps p0 p1 assign body w.heap.size))
  have sc := ((s.reframe (T' := [.lp [.lst 1 (xs.map uv)]]) (a' := { tmps := cus.toArray, defers := [] }) hcap .nil).pushAux hf (.deferred (some []))).pushAux f1 (.loop (bwRec .ready fn a.tmps p0 p1 assign body w.heap.size))
  have s3 := sc.pushGhost f2 (us := a.tmps.toList) (xs := T0) s2.tmps
  have f3 := fresh_upd (v := undef) f2 (o := some (.ghost a.tmps.toList T0))
  rw [World.size_alloc] at s3 f3
  simp only [List.append_assoc, List.cons_append, List.nil_append] at s3 f3
  generalize updα _ _ undef = α3 at s3 f3
  have hcus : cus.length = 1 := hcap.length
  have s4 := s3.reframe (T' := [yv (w.heap.size + 1), .lp [.lst 1 (xs.map uv)]] ++ List.replicate 17 uu)
    (a' := { tmps := (#[Value.func (.yield (w.heap.size + 1)) #[] #[]] ++ cus.toArray) ++ Array.replicate (Tryz.f171.ntmps - (#[Value.func (.yield (w.heap.size + 1)) #[] #[]] ++ cus.toArray).size) undef, defers := [] }) (by
      have hn : Tryz.f171.ntmps - (#[Value.func (.yield (w.heap.size + 1)) #[] #[]] ++ cus.toArray).size = 17 := by
        have : Tryz.f171.ntmps = 19 := by kernel_rfl
        rw [this]
        simp [hcus]
      rw [hn]
      have h1 : ∀ E : Env, RepL E [yv (w.heap.size + 1)] [.func (.yield (w.heap.size + 1)) #[] #[]] := fun E => .cons _ _ _ _ (.v _) .nil
      have h2 : ∀ E : Env, RepL E (List.replicate 17 uu) (List.replicate 17 undef) := fun E => RepL.of_get (by simp) fun k x u hx hu => by
        rw [List.getElem?_replicate] at hx hu
        split at hx
        · rename_i hk
          rw [if_pos hk] at hu
          cases hx; cases hu
          exact .v _
        · cases hx
      have := ((h1 _).append s3.tmps).append (h2 _)
      simpa using this) .nil
  refine ⟨w.heap.size + 1, [{ target := .collected w.heap.size, args := #[] }], (w.alloc (.deferred (some []))).alloc (.loop (bwRec .ready fn a.tmps p0 p1 assign body w.heap.size)), { target := .fn (.func 171) cus.toArray, args := #[Value.func (.yield (w.heap.size + 1)) #[] #[]] }, (w.alloc (.deferred (some []))).alloc (.loop (bwRec .ready fn a.tmps p0 p1 assign body w.heap.size)), 171,
    #[Value.func (.yield (w.heap.size + 1)) #[] #[]] ++ cus.toArray, (w.alloc (.deferred (some []))).alloc (.loop (bwRec .ready fn a.tmps p0 p1 assign body w.heap.size)), run_enterLoop_outer _ _ _ _ _, ?_, (fun _ _ => trivial), ?_, (fun h => by cases h), ?_⟩
  · simp [resolve, hgv, Deferred.ofValue]
    rfl
  · have hb : Body Tryz.prog 171 := ⟨_, _, Tryz.func171, bw_body, by kernel_rfl⟩
    simp [invoke, run_callFunc hb]
  refine callsIn_of_wp Tryz.func171 bw_body trivial ?_
  refine wpIn_seq (wpIn_wide.2 (Goes.cut fits hmix (bw_head (xs.map uv) (w.heap.size + 1) _) ⟨by rw [w64]; simp; omega, trivial⟩ B S0 w0 α3 _ _ s4 f3 _ fun α5 a5 w5 s5 f5 => ?_))
  have key : ∀ (m j : Nat) (α : Nat → Option Value) (a1 : Act) (w1 : World), j + m = xs.length →
      Sim B S0 w0 α (bwT (xs.map uv) (w.heap.size + 1) ((xs.length : Int) - 1 - j)) (bwH (Hs j) ⟨some w.heap.size, .deferred (some []), false⟩ ⟨some (w.heap.size + 1), .loop (bwRec .ready fn a.tmps p0 p1 assign body w.heap.size), false⟩ a.tmps.toList T0) a1 w1 →
      Fresh α (bwH (Hs j) ⟨some w.heap.size, .deferred (some []), false⟩ ⟨some (w.heap.size + 1), .loop (bwRec .ready fn a.tmps p0 p1 assign body w.heap.size), false⟩ a.tmps.toList T0) →
      ∀ Q' : Exit → Act → World → Prop,
      (∀ (α' : Nat → Option Value) (a' : Act) (w' : World), Sim B S0 w0 α' (bwT (xs.map uv) (w.heap.size + 1) (-1)) (bwH (Hs xs.length) ⟨some w.heap.size, .deferred (some []), false⟩ ⟨some (w.heap.size + 1), .loop (bwRec .ready fn a.tmps p0 p1 assign body w.heap.size), false⟩ a.tmps.toList T0) a' w' →
        Fresh α' (bwH (Hs xs.length) ⟨some w.heap.size, .deferred (some []), false⟩ ⟨some (w.heap.size + 1), .loop (bwRec .ready fn a.tmps p0 p1 assign body w.heap.size), false⟩ a.tmps.toList T0) → Q' (.exit 0) a' w') →
      Code.roundsIn Fence.wide 0 Tryz.prog (Code.seq (bwR1 Tryz.f171) (.seq (.block 1 (.seq (.region 3 (bwOps Tryz.f171) false) (bwC3 Tryz.f171))) (bwR2 Tryz.f171))) Q' (m + 1) a1 w1 := by
    intro m
    induction m with
    | zero =>
      intro j α a1 w1 hj s f Q' hQ'
      have hj' : j = xs.length := by omega
      subst hj'
      rw [show (xs.length : Int) - 1 - (xs.length : Nat) = -1 by omega] at s
      exact wpIn_seq (wpIn_wide.2 (Goes.cut fits hmix (bw_out (xs.map uv) (w.heap.size + 1) (-1) _) ⟨by decide, trivial⟩ B S0 w0 α _ _ s f _ fun α5 a5 w5 s5 f5 => hQ' α5 a5 w5 s5 f5))
    | succ m ih =>
      intro j α a1 w1 hj s f Q' hQ'
      have hjl : j < xs.length := by omega
      obtain ⟨x0, hx0⟩ : ∃ x0, xs[xs.length - 1 - j]? = some x0 := ⟨_, List.getElem?_eq_getElem (by omega)⟩
      refine bw_round (x0 := x0) (Hk := Hs (j + 1)) (by rw [hlen, hlen]) (hr j x0 hx0 hjl (w.heap.size + 1)) (hu j) (by omega) ?_ (by omega) s f _ fun α' a' w' s' f' => ?_
      · rw [show ((xs.length : Int) - 1 - j).toNat = xs.length - 1 - j by omega, List.getElem?_map, hx0]
        rfl
      · rw [show (xs.length : Int) - 1 - j - 1 = (xs.length : Int) - 1 - (j + 1 : Nat) by omega] at s'
        exact ih (j + 1) α' a' w' (by omega) s' f' Q' hQ'
  have s5' : Sim B S0 w0 α5 (bwT (xs.map uv) (w.heap.size + 1) ((xs.length : Int) - 1 - (0 : Nat))) (bwH (Hs 0) ⟨some w.heap.size, .deferred (some []), false⟩ ⟨some (w.heap.size + 1), .loop (bwRec .ready fn a.tmps p0 p1 assign body w.heap.size), false⟩ a.tmps.toList T0) a5 w5 := by
    rw [h0]
    simpa using s5
  refine wpIn_block (wpIn_loop_rounds (xs.length + 1) (key xs.length 0 α5 a5 w5 (by omega) s5' (by rw [h0]; exact f5) _ fun α6 a6 w6 s6 f6 => ?_))
  have hd6 : a6.defers = [] := defers_nil s6 (bw_unmarked (hu _) (x := ⟨some w.heap.size, .deferred (some []), false⟩) (y := ⟨some (w.heap.size + 1), .loop (bwRec .ready fn a.tmps p0 p1 assign body w.heap.size), false⟩) rfl rfl)
  have hres : Tryz.f171.results = #[] := by kernel_rfl
  have hfin : bodyPost Tryz.prog Tryz.f171 (rangePost Fence.wide 0 Tryz.prog (w.heap.size + 1) Q { a with defers := [{ target := .collected w.heap.size, args := #[] }] ++ a.defers }) .normal a6 w6 := by
    refine ⟨hd6, .tuple #[], by rw [results_eq, hres]; simp, ?_⟩
    obtain ⟨bl, l1, l2, l3, l4⟩ := s6.objs _ _ (bw_get2 (Hs xs.length) _ _ _ _)
    obtain rfl := l4 _ rfl
    refine ⟨none, _, run_endLoop l3 (by simp), ?_⟩
    have s7 := s6.turn (o' := .loop { bwRec .ready fn a.tmps p0 p1 assign body w.heap.size with state := .exhausted }) (bw_get2 (Hs xs.length) _ _ _ _) l1 (.inl hd6)
    rw [bw_set2] at s7
    have s8 := s7.reframe (T' := T0) (a' := { a with defers := [] }) (s7.objs _ _ (bw_get3 (Hs xs.length) _ _ _ _)).2 .nil
    obtain ⟨bd, d1, d2, d3, d4⟩ := s8.objs _ _ (bw_get1 (Hs xs.length) _ _ _ _)
    obtain rfl := d4 _ rfl
    have s9 := s8.mark (bw_get1 (Hs xs.length) _ _ _ _) d1
    have hlh : (Hs xs.length).length = H0.length := hlen _
    have s10 := s9.ren (List.range (H0.length + 1)) List.nodup_range (auxIn_of fun h o ho hv => ?_)
    · have hcon : renH (List.range (H0.length + 1)) (setAt (bwH (Hs xs.length) ⟨some w.heap.size, .deferred (some []), false⟩ ⟨some (w.heap.size + 1), .loop { bwRec .ready fn a.tmps p0 p1 assign body w.heap.size with state := .exhausted }, false⟩ a.tmps.toList T0) (Hs xs.length).length (some (.aux ⟨none, .deferred (some []), true⟩))) =
          renH (List.range (H0.length + 1)) (Hs xs.length ++ [some (.aux ⟨none, .deferred (some []), true⟩)]) := renH_congr fun k hk => by
        have hk' : k < H0.length + 1 := List.mem_range.1 hk
        by_cases e : k = (Hs xs.length).length
        · subst e
          rw [getH_setAt_same]
          have := getH_app (Hs xs.length) [some (.aux ⟨none, .deferred (some []), true⟩)] 0
          simp [getH]
        · rw [getH_setAt_other _ _ _ _ e]
          unfold getH
          rw [List.getElem?_append_left (by omega), List.getElem?_append_left (by omega)]
      have hcon' := hcon
      rw [hcon'] at s10
      have := hQ _ _ _ s10 (hcon' ▸ renα_fresh _ _ _)
      simpa [hd0, Ex.toExit] using this
    · rw [Nat.zero_add, List.mem_range]
      by_cases e : h = (Hs xs.length).length
      · omega
      · rw [getH_setAt_other _ _ _ _ e] at ho
        have := unmarked_get (bw_unmarked (hu xs.length) (x := ⟨some w.heap.size, .deferred (some []), false⟩) (y := ⟨some (w.heap.size + 1), .loop { bwRec .ready fn a.tmps p0 p1 assign body w.heap.size with state := .exhausted }, false⟩) rfl rfl) ho
        rw [hv] at this
        cases this
  simpa [Exit.inBlock] using hfin
end Go.Flow.Tryz
namespace Go.Flow
open Go Go.RowKit
variable {B : Nat} {S0 : Nat → Prop} {w0 : World} {α : Nat → Option Value} {T : List AV} {H : Heap} {a : Act} {w : World}
theorem Sim.swapObj (s : Sim B S0 w0 α T H a w) {h : Nat} {o o' : AObj} (ho : getH H h = some o) (hs : o'.shut = o.shut) (hx : o.isAux = false) (hok : ∀ E : Env, ObjOk B E h o → ObjOk B E h o') :
    Sim B S0 w0 α T (setAt H h (some o')) a w := by
  have hle : (envOf B S0 α H w).Le (envOf B S0 α (setAt H h (some o')) w) := by
    refine ⟨fun _ _ h => h, fun b hb => ⟨hb.1, hb.2.1, fun k o1 v1 h1 h2 h3 => ?_⟩, fun _ _ => rfl⟩
    by_cases hk : k = h
    · subst hk; rw [getH_setAt_same] at h1; cases h1; exact hb.2.2 k o v1 ho (by rw [← hs]; exact h2) h3
    · rw [getH_setAt_other _ _ _ _ hk] at h1; exact hb.2.2 k o1 v1 h1 h2 h3
  refine s.move hle s.below s.base (fun k o1 h1 => ?_) (fun k k' o1 o2 v1 v2 b h1 h2 hne a1 a2 b1 => ?_) (fun k o1 h1 => ?_)
  · by_cases hk : k = h
    · subst hk
      rw [getH_setAt_same] at h1
      cases h1
      exact hok _ ((s.objs k o ho).mono hle fun _ _ _ _ => rfl)
    · rw [getH_setAt_other _ _ _ _ hk] at h1
      exact (s.objs k o1 h1).mono hle fun _ _ _ _ => rfl
  · have g1 : ∃ o3, getH H k = some o3 := by
      by_cases hk : k = h
      · subst hk; exact ⟨_, ho⟩
      · rw [getH_setAt_other _ _ _ _ hk] at h1; exact ⟨_, h1⟩
    have g2 : ∃ o3, getH H k' = some o3 := by
      by_cases hk : k' = h
      · subst hk; exact ⟨_, ho⟩
      · rw [getH_setAt_other _ _ _ _ hk] at h2; exact ⟨_, h2⟩
    obtain ⟨o3, g1⟩ := g1
    obtain ⟨o4, g2⟩ := g2
    exact s.inj k k' o3 o4 v1 v2 b g1 g2 hne a1 a2 b1
  · rw [getH_setAt_other _ _ _ _ (fun e => by rw [e, ho] at h1; cases h1; cases hx)]; exact h1
theorem objOk_row {E : Env} {h : Nat} {fr : Bool} {e : TypeId} {us : List Value} (ho : ObjOk B E h (.vrow fr e us)) : ObjOk B E h (.row fr e 1 (us.map .v)) := by
  obtain ⟨v, h1, h2⟩ := ho
  exact ⟨v, us, h1, by rw [List.length_map]; exact h2, by rw [flats_v]; exact repL_plain E us, (fun x hx => by obtain ⟨y, _, rfl⟩ := List.mem_map.1 hx; rfl), by decide⟩
theorem objOk_vrow {E : Env} {h : Nat} {fr : Bool} {e : TypeId} {us : List Value} (ho : ObjOk B E h (.row fr e 1 (us.map .v))) : ObjOk B E h (.vrow fr e us) := by
  obtain ⟨v, xs, h1, h2, h3, _, _⟩ := ho
  rw [flats_v] at h3
  have := repL_v_eq h3
  subst this
  rw [List.length_map] at h2
  exact ⟨v, h1, h2⟩
theorem fresh_set {o : Option AObj} {h : Nat} (hlt : h < H.length) (hf : Fresh α H) : Fresh α (setAt H h o) := fun k hk => hf k (Nat.le_trans (setAt_length_ge H h o) hk)
theorem getH_lt {h : Nat} {o : AObj} (ho : getH H h = some o) : h < H.length := by
  unfold getH at ho
  by_cases hl : h < H.length
  · exact hl
  · rw [List.getElem?_eq_none (by omega)] at ho; cases ho
theorem Same.row (h : Nat) {fr : Bool} {e : TypeId} {us : List Value} (ho : getH H h = some (.vrow fr e us)) : Same T H T (setAt H h (some (.row fr e 1 (us.map .v)))) :=
  fun _ _ _ α _ _ s hf => ⟨α, s.swapObj ho rfl rfl fun _ => objOk_row, fresh_set (getH_lt ho) hf⟩
theorem Same.vrow (h : Nat) {fr : Bool} {e : TypeId} {us : List Value} (ho : getH H h = some (.row fr e 1 (us.map .v))) : Same T H T (setAt H h (some (.vrow fr e us))) :=
  fun _ _ _ α _ _ s hf => ⟨α, s.swapObj ho rfl rfl fun _ => objOk_vrow, fresh_set (getH_lt ho) hf⟩
theorem Same.trans {T' T'' : List AV} {H' H'' : Heap} (h1 : Same T H T' H') (h2 : Same T' H' T'' H'') : Same T H T'' H'' := fun B S0 w0 α a w s hf => by
  obtain ⟨α1, s1, f1⟩ := h1 B S0 w0 α a w s hf
  exact h2 B S0 w0 α1 a w s1 f1
theorem Same.refl : Same T H T H := fun _ _ _ α _ _ s hf => ⟨α, s, hf⟩
theorem Same.slots {T' : List AV} (h : ∀ (E : Env) (us : List Value), RepL E T us → RepL E T' us) : Same T H T' H :=
  fun _ _ _ α _ _ s hf => ⟨α, s.reframe (h _ _ s.tmps) s.defers, hf⟩
theorem Same.slot (t : Nat) {x y : AV} (hx : T[t]? = some x) (h : ∀ (E : Env) (u : Value), Rep E x u → Rep E y u) : Same T H (T.set t y) H :=
  Same.slots fun E us hr => by
    obtain ⟨u, hu, hxu⟩ := hr.get hx
    have := hr.set t (h E u hxu)
    have e : us.set t u = us := by
      obtain ⟨hl, he⟩ := List.getElem?_eq_some_iff.1 hu
      rw [← he]
      exact List.set_getElem_self hl
    rwa [e] at this
theorem Same.keep (k : Nat) : Same T H (keepA k T) H := fun _ _ _ α _ _ s hf => ⟨α, s.keep k, hf⟩
theorem Same.goes {P : Program} {c : Code} {T1 T' : List AV} {H1 H' : Heap} {ex : Ex} (h : Same T H T1 H1) (g : Goes P c T1 H1 ex T' H') : Goes P c T H ex T' H' := fun B S0 w0 α a w s hf Q hQ => by
  obtain ⟨α1, s1, f1⟩ := h B S0 w0 α a w s hf
  exact g B S0 w0 α1 a w s1 f1 Q hQ
theorem Goes.same {P : Program} {c : Code} {T1 T' : List AV} {H1 H' : Heap} {ex : Ex} (g : Goes P c T H ex T1 H1) (h : Same T1 H1 T' H') : Goes P c T H ex T' H' := fun B S0 w0 α a w s hf Q hQ =>
  g B S0 w0 α a w s hf Q fun α' a' w' s' f' => by
    obtain ⟨α1, s1, f1⟩ := h B S0 w0 α' a' w' s' f'
    exact hQ α1 a' w' s1 f1
def mask : List Bool → List AV → List AV
  | true :: bs, x :: xs => x :: mask bs xs
  | _ :: bs, _ :: xs => .any :: mask bs xs
  | [], xs => xs.map fun _ => .any
  | _, [] => []
theorem anys_rep {E : Env} : ∀ {xs : List AV} {us : List Value}, RepL E xs us → RepL E (xs.map fun _ => .any) us
  | _, _, .nil => .nil
  | _, _, .cons _ _ _ _ _ hxs => .cons _ _ _ _ (.any _) (anys_rep hxs)
theorem mask_rep {E : Env} : ∀ (bs : List Bool) {xs : List AV} {us : List Value}, RepL E xs us → RepL E (mask bs xs) us
  | [], _, _, h => by
    simp only [mask]
    exact anys_rep h
  | b :: bs, _, _, .nil => by cases b <;> exact .nil
  | b :: bs, _, _, .cons x u xs us hx hxs => by
    cases b
    · exact .cons _ _ _ _ (.any _) (mask_rep bs hxs)
    · exact .cons _ _ _ _ hx (mask_rep bs hxs)
theorem Same.mask (bs : List Bool) : Same T H (mask bs T) H := fun _ _ _ α _ _ s hf => ⟨α, s.reframe (mask_rep bs s.tmps) s.defers, hf⟩
theorem Same.ren (L : List Nat) (hL : (apartB L && auxIn L 0 H) = true) : Same T H (T.map (ren L 9)) (renH L H) := fun _ _ _ α _ _ s _ => by
  simp only [Bool.and_eq_true] at hL
  exact ⟨renα L α, s.ren L (apartB_nodup hL.1) hL.2, renα_fresh L α H⟩
theorem Same.pad : Same T H T (H ++ [none]) := fun B S0 w0 α a w s hf => by
  have hg : ∀ k, getH (H ++ [none]) k = getH H k := fun k => by
    unfold getH
    by_cases hk : k < H.length
    · rw [List.getElem?_append_left hk]
    · rw [List.getElem?_append_right (by omega), List.getElem?_eq_none (l := H) (by omega)]
      cases h : k - H.length with
      | zero => simp
      | succ j => simp
  have hle : (envOf B S0 α H w).Le (envOf B S0 α (H ++ [none]) w) := ⟨fun _ _ h => h, fun b hb => ⟨hb.1, hb.2.1, fun h o v ho => hb.2.2 h o v (by rw [← hg]; exact ho)⟩, fun _ _ => rfl⟩
  refine ⟨α, ⟨s.below, s.base, s.defers.imp fun h D p h1 h2 => ⟨h, p, by rw [hg]; exact h1, h2⟩, s.tmps.mono hle, fun h o ho => (s.objs h o (by rw [← hg]; exact ho)).mono hle fun _ _ _ _ => rfl,
    fun h h' o o' v v' b h1 h2 => s.inj h h' o o' v v' b (by rw [← hg]; exact h1) (by rw [← hg]; exact h2), s.grd⟩, fun k hk => hf k (by simp at hk; omega)⟩
end Go.Flow
namespace Go.Flow
open Go Go.RowKit
variable {P : Program} {τ : Tab}
def evI (P : Program) (τ : Tab) (fn : Func) (ys : List AV) (H : Heap) (us : List Value) (G : List AV) (orc : List Orc) : Option (AV × Heap × List Prop) :=
  match fn.body with
  | some c => match evC P τ c (ys ++ List.replicate (fn.ntmps - ys.length) (.v undef)) (H ++ [some (.ghost us G)]) orc [] with
    | .ok (.exit _) _ _ _ _ => none
    | .ok _ T H3 _ cs => match resultsA τ T H3 fn.results.toList with
      | some rs => some (oneOrTup rs, unmarkH H3, cs)
      | none => none
    | _ => none
  | none => none
theorem setAt_length_eq : ∀ (X : Heap) (k : Nat) (o : Option AObj), k < X.length → (setAt X k o).length = X.length
  | [], _, _, h => absurd h (by simp)
  | _ :: _, 0, _, _ => rfl
  | _ :: xs, k + 1, o, h => by simp [setAt, setAt_length_eq xs k o (by simpa using h)]
theorem Sim.drop0 {B : Nat} {S0 : Nat → Prop} {w0 : World} {α : Nat → Option Value} {T : List AV} {H : Heap} {a : Act} {w : World} (s : Sim B S0 w0 α T H a w) (hd : a.defers = []) {H' : Heap} (hH : ∀ k o, getH H' k = some o → getH H k = some o) : Sim B S0 w0 α T H' a w := by
  have hle : (envOf B S0 α H w).Le (envOf B S0 α H' w) := ⟨fun _ _ h => h, fun b hb => ⟨hb.1, hb.2.1, fun k o v h1 h2 h3 => hb.2.2 k o v (hH k o h1) h2 h3⟩, fun _ _ => rfl⟩
  exact ⟨s.below, s.base, by rw [hd]; exact .nil, s.tmps.mono hle, fun k o ho => (s.objs k o (hH k o ho)).mono hle fun _ _ _ _ => rfl,
    fun k k' o o' v v' b h1 h2 hne a1 a2 b1 => s.inj k k' o o' v v' b (hH k o h1) (hH k' o' h2) hne a1 a2 b1, s.grd⟩
theorem Inl.of (hτ : Fits P τ) (hm : P.follows .mixedOrders = true) {f : FuncId} {fn : Func} (hf : P.funcs[f]? = some fn) (hname : (fn.name == "runtime.NumGoroutine") = false) {ys : List AV} {H H2 : Heap} {r : AV} {orc : List Value → List AV → List Orc} {cs : List Value → List AV → List Prop}
    (h : ∀ us G, evI P τ fn ys H us G (orc us G) = some (r, setAt H2 H.length (some (.ghost us G)), cs us G)) (hH : unmarked H = true) (hn : getH H2 H.length = none) (hl : H.length < H2.length) (hc : ∀ us G, AllP (cs us G)) : Inl P f ys H H2 r := by
  have hbody : Body P f := by
    have := h [] []
    unfold evI at this
    split at this
    · exact ⟨fn, _, hf, ‹_›, hname⟩
    · cases this
  refine ⟨hbody, hn, hl, fun B S0 w0 α a w us G s hfr => ?_⟩
  have h := h us G
  unfold evI at h
  split at h
  rotate_left
  · cases h
  rename_i c hb
  have hinit : Sim B S0 w0 α (ys ++ List.replicate (fn.ntmps - ys.length) (.v undef)) (H ++ [some (.ghost us G)]) { tmps := a.tmps ++ Array.replicate (fn.ntmps - a.tmps.size) undef, defers := [] } w := by
    refine s.reframe ?_ .nil
    have h2 : RepL (envOf B S0 α (H ++ [some (.ghost us G)]) w) (List.replicate (fn.ntmps - ys.length) (.v undef)) (List.replicate (fn.ntmps - a.tmps.size) undef) := by
      have e := s.tmps.length
      rw [Array.length_toList] at e
      rw [e]
      generalize fn.ntmps - ys.length = n
      induction n with
      | zero => exact .nil
      | succ n ih => exact .cons _ _ _ _ (.v _) ih
    have := s.tmps.append h2
    simpa using this
  have hfresh : Fresh α (H ++ [some (.ghost us G)]) := fun k hk => hfr k (by simp at hk; omega)
  have fin : ∀ {ex : Ex} {T : List AV} {H3 : Heap} {orc' : List Orc} {cs' : List Prop}, (ex = .normal ∨ ex = .ret) → evC P τ c (ys ++ List.replicate (fn.ntmps - ys.length) (.v undef)) (H ++ [some (.ghost us G)]) (orc us G) [] = .ok ex T H3 orc' cs' →
      (match resultsA τ T H3 fn.results.toList with
        | some rs => some (oneOrTup rs, unmarkH H3, cs')
        | none => none) = some (r, setAt H2 H.length (some (.ghost us G)), cs us G) →
      Calls P f a.tmps w fun e w' => ∃ (v : Value) (α' : Nat → Option Value) (H3 : Heap), e = .returned v ∧ (∀ k, getH H3 k = getH (setAt H2 H.length (some (.ghost us G))) k) ∧
        Sim B S0 w0 α' [r] H3 { tmps := #[v], defers := [] } w' ∧ (∀ k, H2.length ≤ k → α' k = none) ∧
        (∀ h x, getH H h = some (.aux x) → x.live = true → getH H2 h = some (.aux x) ∧ α' h = α h) := fun {ex T H3 orc' cs'} hex hev h => by
    split at h
    rotate_left
    · cases h
    rename_i rs hrs
    simp only [Option.some.injEq, Prod.mk.injEq] at h
    obtain ⟨rfl, hH3, hcs⟩ := h
    have hg := evC_sound hτ hm c hev (hcs ▸ hc us G).all
    refine callsIn_wide.1 (callsIn_of_wp_marks (n := 0) hf hb trivial (wpIn_wide.2 (hg B S0 w0 α _ w hinit hfresh _ fun α' a' w' s' hf' => ?_)))
    have hlen : H3.length = H2.length := by
      have := congrArg List.length hH3
      rw [setAt_length_eq _ _ _ hl] at this
      simpa [unmarkH] using this
    have hpost : LeavesInM Fence.wide 0 P fn a'.tmps (fun e w' => ∃ (v : Value) (α' : Nat → Option Value) (H3 : Heap), e = .returned v ∧ (∀ k, getH H3 k = getH (setAt H2 H.length (some (.ghost us G))) k) ∧
        Sim B S0 w0 α' [oneOrTup rs] H3 { tmps := #[v], defers := [] } w' ∧ (∀ k, H2.length ≤ k → α' k = none) ∧
        (∀ h x, getH H h = some (.aux x) → x.live = true → getH H2 h = some (.aux x) ∧ α' h = α h)) a'.defers .returning w' := by
      refine leaves_of (τ := τ) a'.defers (s'.reframe s'.tmps .nil) s'.defers fun H1 w1 s1 e1 _ e3 => ?_
      obtain ⟨vs, hv1, hv2⟩ := resultsA_run hτ s1 ((e1 _).trans hrs)
      have hv : ∃ v, (results fn a'.tmps).run P w1 = .ok v w1 ∧ Rep (envOf B S0 α' H1 w1) (oneOrTup rs) v := by
        have hrun : (fn.results.mapM (resOne a'.tmps)).run P w1 = .ok vs.toArray w1 := by
          rw [Array.mapM_eq_mapM_toList]
          simp [hv1]
        have hlen := hv2.length
        refine ⟨if h : vs.toArray.size = 1 then vs.toArray[0] else .tuple vs.toArray, ?_, ?_⟩
        · rw [results_eq]
          simp only [Sem.run_bind]
          rw [hrun]
          rfl
        · cases hv2 with
          | nil => exact .tup [] [] .nil
          | cons x u xs us hx hxs =>
            cases hxs with
            | nil => exact hx
            | cons y v ys vs hy hyss =>
              have : ¬ (u :: v :: vs).toArray.size = 1 := by simp
              rw [dif_neg this]
              exact .tup _ _ (.cons _ _ _ _ hx (.cons _ _ _ _ hy hyss))
      obtain ⟨v, hrv, hrep⟩ := hv
      have s2 := s1.reframe (T' := [oneOrTup rs]) (a' := { tmps := #[v], defers := [] }) (.cons _ _ _ _ hrep .nil) .nil
      have s3 := s2.drop0 rfl (H' := setAt H2 H.length (some (.ghost us G))) (fun k o ho => e3 k o (by rw [hH3]; exact ho))
      refine ⟨v, hrv, v, α', _, rfl, fun _ => rfl, s3, fun k hk => hf' k (by rw [hlen]; exact hk), fun h x hx hlv => ?_⟩
      rw [unmarked_get hH hx] at hlv
      cases hlv
    rcases hex with rfl | rfl
    · exact hpost
    · exact hpost
  split at h
  · cases h
  · rename_i ex T H3 orc' cs' hne hev
    refine fin (ex := ex) ?_ hev h
    cases ex with
    | normal => exact .inl rfl
    | ret => exact .inr rfl
    | exit id => exact absurd rfl (hne id)
  · cases h
theorem Inl.vrow {f : FuncId} {ys : List AV} {H H2 : Heap} {r : AV} (h : Inl P f ys H H2 r) (k : Nat) {fr : Bool} {e : TypeId} {us : List Value} (ho : getH H2 k = some (.row fr e 1 (us.map .v))) :
    Inl P f ys H (setAt H2 k (some (.vrow fr e us))) r := by
  obtain ⟨h1, h2, h3, h4⟩ := h
  have hk : k < H2.length := getH_lt ho
  have hne : k ≠ H.length := fun e => by rw [e, h2] at ho; cases ho
  refine ⟨h1, by rw [getH_setAt_other _ _ _ _ (fun e => hne e.symm)]; exact h2, by rw [setAt_length_eq _ _ _ hk]; exact h3, fun B S0 w0 α a w us' G s hf => ?_⟩
  refine (h4 B S0 w0 α a w us' G s hf).mono ?_
  rintro en w' ⟨v, α', H3, rfl, g1, g2, g3, g4⟩
  have hk3 : getH H3 k = some (.row fr e 1 (us.map .v)) := by rw [g1, getH_setAt_other _ _ _ _ hne]; exact ho
  refine ⟨v, α', setAt H3 k (some (.vrow fr e us)), rfl, fun j => ?_, g2.swapObj hk3 rfl rfl fun _ => objOk_vrow, fun j hj => g3 j (by rw [setAt_length_eq _ _ _ hk] at hj; exact hj), fun j x hj hl => ?_⟩
  · by_cases e1 : j = k
    · subst e1
      rw [getH_setAt_same, getH_setAt_other _ _ _ _ hne, getH_setAt_same]
    · rw [getH_setAt_other _ _ _ _ e1, g1]
      by_cases e2 : j = H.length
      · subst e2; rw [getH_setAt_same, getH_setAt_same]
      · rw [getH_setAt_other _ _ _ _ e2, getH_setAt_other _ _ _ _ e2, getH_setAt_other _ _ _ _ e1]
  · obtain ⟨q1, q2⟩ := g4 j x hj hl
    refine ⟨?_, q2⟩
    rw [getH_setAt_other _ _ _ _ (fun e => by rw [e, ho] at q1; cases q1)]
    exact q1
end Go.Flow
namespace Go.Flow
open Go Go.RowKit
variable {P : Program} {τ : Tab} {B : Nat} {S0 : Nat → Prop} {w0 : World} {α : Nat → Option Value} {a : Act} {w : World}
def aAnyL (P : Program) (τ : Tab) (ops : Array Oper) (base n : Nat) (F K : Nat → List Nat) (L : Array Bool → List AV → Heap → Prop) : Nat → Array Bool → List AV → Heap → Prop
  | 0, listed, T, H => L listed T H
  | f + 1, listed, T, H => Region.ready .any ops listed ≠ [] ∧
    ∀ i ∈ Region.ready .any ops listed, i < n ∧ ∀ o, ops[i]? = some o → ∃ v upd, Yield noX P τ ops base i o (F i) (K i) T H v upd ∧ aAnyL P τ ops base n F K L f (listed.setIfInBounds i true) (putA T o.dst v) (applyU H upd)
theorem aAnyL_first {ops : Array Oper} {base n : Nat} {F K : Nat → List Nat} {L : Array Bool → List AV → Heap → Prop} {i : Nat} {oi : Oper} {v : AV} {upd : Upd} (hi : ops[i]? = some oi)
    (hs : Region.sinkB .any ops n = true) (hc : Region.chainB .any ops n = true) (hn : n < ops.size) (hin : i < n) (hdone : ∀ listed T H, L listed T H → ∀ j ∈ Region.ready .any ops listed, n ≤ j) :
    ∀ (f : Nat) (listed : Array Bool) (T : List AV) (H : Heap), HeadInv .any ops n listed →
      (∀ (j : Nat) (oj : Oper), ops[j]? = some oj → j < n → j ≠ i → listed.getD j true = false → (∀ e ∈ oj.after, Region.binds .any e = true → e.on ≠ i) → oi.apart ops oj = true ∧ Indep base F K i j) →
      i ∈ Region.ready .any ops listed → Yield noX P τ ops base i oi (F i) (K i) T H v upd →
      aAnyL P τ ops base n F K L f (listed.setIfInBounds i true) (putA T oi.dst v) (applyU H upd) → aAnyL P τ ops base n F K L (f + 1) listed T H := by
  intro f
  induction f with
  | zero =>
    intro listed T H inv _ hr hy hA
    have hun := (mem_ready.1 hr).1
    refine ⟨fun h => (by rw [h] at hr; cases hr), fun j hj => ?_⟩
    have hjn : j < n := by
      rcases Nat.lt_or_ge j n with h | h
      · exact h
      · exact absurd hj (tail_waits hs hc hn inv _ i rfl hin hun j h)
    refine ⟨hjn, fun o ho => ?_⟩
    by_cases hji : j = i
    · subst hji
      rw [hi] at ho
      cases ho
      exact ⟨v, upd, hy, hA⟩
    · have := hdone _ _ _ hA j (ready_mono hj hji)
      omega
  | succ f ih =>
    intro listed T H inv hfree hr hy hA
    have hun := (mem_ready.1 hr).1
    refine ⟨fun h => (by rw [h] at hr; cases hr), fun j hj => ?_⟩
    have hjn : j < n := by
      rcases Nat.lt_or_ge j n with h | h
      · exact h
      · exact absurd hj (tail_waits hs hc hn inv _ i rfl hin hun j h)
    refine ⟨hjn, fun o ho => ?_⟩
    by_cases hji : j = i
    · subst hji
      rw [hi] at ho
      cases ho
      exact ⟨v, upd, hy, hA⟩
    · obtain ⟨_, h1⟩ := hA.2 j (ready_mono hj hji)
      obtain ⟨vj, updj, yj, hA'⟩ := h1 o ho
      obtain ⟨hjun, oj, hoj, hall⟩ := mem_ready.1 hj
      rw [ho] at hoj
      cases hoj
      have hnot : ∀ e ∈ o.after, Region.binds .any e = true → e.on ≠ i := fun e he hb heq => by
        have h1 := hall e he hb
        rw [heq, getD_both hun] at h1
        cases h1
      obtain ⟨hap, hind⟩ := hfree j o ho hjn hji hjun hnot
      obtain ⟨a1, a2, a3⟩ := Oper.apart_spec hap
      have kj : ∀ t ∈ F j, AgreeT H (applyU H upd) t := fun t ht => hy.agree fun hk => hind.ij _ hk t ht rfl
      have yj' : Yield noX P τ ops base j o (F j) (K j) T H vj updj := (Yield.put a1 kj Iff.rfl).2 yj
      have ki : ∀ t ∈ F i, AgreeT H (applyU H updj) t := fun t ht => yj'.agree fun hk => hind.ji _ hk t ht rfl
      have yi' : Yield noX P τ ops base i oi (F i) (K i) (putA T o.dst vj) (applyU H updj) v upd := (Yield.put a3 ki Iff.rfl).1 hy
      refine ⟨vj, updj, yj', ih (listed.setIfInBounds j true) _ _ (inv.set hj hjn) (fun k ok hk hkn hki hun' hno => ?_) (ready_mono hr (Ne.symm hji)) yi' ?_⟩
      · refine hfree k ok hk hkn hki ?_ hno
        by_cases hjk : j = k
        · subst hjk; exact hjun
        · rw [getD_set_ne true hjk] at hun'; exact hun'
      · rw [Array.setIfInBounds_comm _ _ hji, ← putA_comm T v vj a2, applyU_comm updj upd H fun p hp q hq e => hind.kk _ (hy.keys q hq) _ (yj.keys p hp) (by rw [e])]
        exact hA'
theorem aAnyL_lex {ops : Array Oper} {base n g : Nat} {F K : Nat → List Nat} {T1 : List AV} {H1 : Heap} (hs : Region.sinkB .any ops n = true) (hc : Region.chainB .any ops n = true) (hn : n < ops.size)
    (hI : ∀ (i j : Nat) (oj : Oper), i < j → j < n → ops[j]? = some oj → waits oj i = false → Indep base F K i j) :
    ∀ (l : List Oper) (k : Nat) (listed : Array Bool) (T : List AV) (H : Heap) (orc orc' : List Orc) (cs cs' : List Prop) (fs : List (List Nat × List Nat)), (∀ j : Nat, j < l.length → l[j]? = ops[k + j]?) → k + l.length = n → (∀ j, j < k → listed.getD j true = true) → HeadInv .any ops n listed →
      Region.lexHead .any ops g l.length k listed = true → drawA P τ ops base k l T H orc cs = .ok T1 H1 orc' cs' fs → (∀ c ∈ cs', c) → (∀ (j : Nat) (p : List Nat × List Nat), fs[j]? = some p → F (k + j) = p.1 ∧ K (k + j) = p.2) →
      aAnyL P τ ops base n F K (fun ls T H => Region.seqB .any ops g n ls = true ∧ T = T1 ∧ H = H1) l.length listed T H
  | [], k, listed, T, H, orc, orc', cs, cs', fs, _, hk, _, _, hB, h, _, _ => by
    simp only [drawA] at h
    cases h
    have : k = n := by simpa using hk
    subst this
    exact ⟨by simpa [Region.lexHead] using hB, rfl, rfl⟩
  | o :: l, k, listed, T, H, orc, orc', cs, cs', fs, hl, hk, hlt, inv, hB, h, hcs, hF => by
    have h0 : ops[k]? = some o := by simpa using (hl 0 (by simp)).symm
    simp only [List.length_cons, Region.lexHead, Bool.and_eq_true] at hB
    obtain ⟨⟨hr, hf⟩, hB'⟩ := hB
    have hkn : k < n := by simp only [List.length_cons] at hk; omega
    have hr' : k ∈ Region.ready .any ops listed := by simpa using hr
    have hl' : ∀ j : Nat, j < l.length → l[j]? = ops[k + 1 + j]? := fun j hj => by
      have := hl (j + 1) (by simp; omega)
      simpa [Nat.add_assoc, Nat.add_comm 1 j] using this
    have hk' : k + 1 + l.length = n := by simp only [List.length_cons] at hk; omega
    have hlt' : ∀ j, j < k + 1 → (listed.setIfInBounds k true).getD j true = true := fun j hj => by
      by_cases e : k = j
      · subst e
        by_cases hs : k < listed.size
        · simp [hs]
        · simp [hs]
      · rw [getD_set_ne true e]
        exact hlt j (by omega)
    have hfree : ∀ (j : Nat) (oj : Oper), ops[j]? = some oj → j < n → j ≠ k → listed.getD j true = false → (∀ e ∈ oj.after, Region.binds .any e = true → e.on ≠ k) → o.apart ops oj = true ∧ Indep base F K k j := fun j oj hj hjn hjk hun hno => by
      refine ⟨Region.free_spec h0 hf j oj hj hjk hun hno, ?_⟩
      have hkj : k < j := by
        rcases Nat.lt_trichotomy j k with h | h | h
        · rw [hlt j h] at hun; cases hun
        · exact absurd h hjk
        · exact h
      refine hI k j oj hkj hjn hj ?_
      unfold waits
      rw [Array.any_eq_false]
      intro x hx
      have := hno _ (Array.getElem_mem hx)
      by_cases hb : Region.binds .any oj.after[x] = true
      · simpa [hb] using this hb
      · simp [hb]
    have hdone : ∀ (ls : Array Bool) (T : List AV) (H : Heap), (Region.seqB .any ops g n ls = true ∧ T = T1 ∧ H = H1) → ∀ j ∈ Region.ready .any ops ls, n ≤ j := fun ls T H hL => seqB_ready hL.1
    unfold drawA at h
    split at h
    · rename_i orc1 c1 hw
      split at h
      · rename_i v upd orc2 c2 hop
        split at h
        · rename_i fs1 hd
          cases h
          obtain ⟨m1, _⟩ := drawA_mono hd
          have hF0 := hF 0 _ rfl
          simp only [Nat.add_zero] at hF0
          have ih := aAnyL_lex hs hc hn hI l (k + 1) (listed.setIfInBounds k true) _ _ _ _ _ _ _ hl' hk' hlt' (inv.set hr' hkn) hB' hd hcs fun j p hp => by
            have := hF (j + 1) p (by simpa using hp)
            simpa [Nat.add_assoc, Nat.add_comm 1 j] using this
          refine aAnyL_first h0 hs hc hn hkn hdone l.length listed T H inv hfree hr' (.run orc orc1 orc2 c1 c2 hw (fun c h => hcs c (m1 c (by simp [h]))) hop (fun c h => hcs c (m1 c (by simp [h]))) ?_ ?_) ih
          · rw [hF0.1]; exact fun h hh => hh
          · rw [hF0.2]; exact fun t ht => ht
        · rename_i r hne
          exact absurd h (hne _ _ _ _ _)
      · cases h
    · rename_i orc1 c1 hw
      split at h
      · rename_i fs1 hd
        cases h
        obtain ⟨m1, _⟩ := drawA_mono hd
        have ih := aAnyL_lex hs hc hn hI l (k + 1) (listed.setIfInBounds k true) _ _ _ _ _ _ _ hl' hk' hlt' (inv.set hr' hkn) hB' hd hcs fun j p hp => by
          have := hF (j + 1) p (by simpa using hp)
          simpa [Nat.add_assoc, Nat.add_comm 1 j] using this
        exact aAnyL_first h0 hs hc hn hkn hdone l.length listed T H inv hfree hr' (.skip orc orc1 c1 hw (fun c h => hcs c (m1 c (by simp [h]))) rfl rfl) ih
      · rename_i r hne
        exact absurd h (hne _ _ _ _ _)
    · cases h
theorem wpAnyIn_of_seq {Fn : Fence} {ops : Array Oper} {Q' : Exit → Act → World → Prop} : ∀ (l : List Oper) (k : Nat) (listed : Array Bool) (a : Act) (w : World), (∀ j, l[j]? = ops[k + j]?) →
    Region.seqB .any ops l.length k listed = true → wpListIn Fn 0 P ops Q' l a w → wpAnyIn Fn 0 P .any ops Q' l.length listed a w
  | [], _, _, _, _, _, hB, h => ⟨by simpa [Region.seqB] using hB, h⟩
  | o :: l, k, listed, a, w, hl, hB, h => by
    have h0 : ops[k]? = some o := by simpa using (hl 0).symm
    simp only [List.length_cons, Region.seqB, Bool.and_eq_true, decide_eq_true_eq] at hB
    refine ⟨fun h1 => (by rw [hB.1] at h1; cases h1), fun i hi => ?_⟩
    rw [hB.1] at hi
    have hik : i = k := by simpa using hi
    subst hik
    have hw : wpOpIn Fn 0 P ops Q' i (wpListIn Fn 0 P ops Q' l) a w := by
      unfold wpOpIn
      simp only [h0]
      exact h
    exact wpOpIn_mono (fun a' w' h' => wpAnyIn_of_seq l (i + 1) _ a' w' (fun j => by have := hl (j + 1); simpa [Nat.add_assoc, Nat.add_comm 1 j] using this) hB.2 h') hw
theorem wpAnyIn_of_aAnyL (hτ : Fits P τ) {Fn : Fence} (hF : ∀ {o : Oper} {a : Act} {w : World} {K : Act → World → Prop} {Q : Exit → Act → World → Prop}, isDefer o.op = false → o.wp P a w K Q → o.wpIn Fn 0 P a w K Q) (hFf : ∀ f, Fn.fn f)
    {ops : Array Oper} {base n g : Nat} (hd : (ops.toList.all fun o => !isDefer o.op) = true) {F K : Nat → List Nat} {L : Array Bool → List AV → Heap → Prop} (hN : ∀ i j, i ≠ j → i < n → j < n → (∀ o, ops[j]? = some o → waits o i = false) → 2 * (base + i) ∉ K j) {Q : Exit → Act → World → Prop}
    (hL : ∀ (listed : Array Bool) (T : List AV) (H : Heap) (α : Nat → Option Value) (a : Act) (w : World), L listed T H → Sim B S0 w0 α T H a w → Fresh α H → wpAnyIn Fn 0 P .any ops Q g listed a w) :
    ∀ (f : Nat) (listed : Array Bool) (T : List AV) (H : Heap) (α : Nat → Option Value) (a : Act) (w : World), aAnyL P τ ops base n F K L f listed T H → Sim B S0 w0 α T H a w → Fresh α H →
      (∀ i, i < n → listed.getD i true = false → α (base + i) = none ∧ getH H (base + i) = none) → wpAnyIn Fn 0 P .any ops Q (f + g) listed a w
  | 0, listed, T, H, α, a, w, hA, s, hf, _ => by
    rw [Nat.zero_add]
    exact hL listed T H α a w hA s hf
  | f + 1, listed, T, H, α, a, w, hA, s, hf, hu => by
    rw [show f + 1 + g = (f + g) + 1 by omega]
    refine ⟨fun h0 => absurd h0 hA.1, fun i hi => ?_⟩
    obtain ⟨hun, o, ho, hall⟩ := mem_ready.1 hi
    obtain ⟨hin, h1⟩ := hA.2 i hi
    obtain ⟨v, upd, hy, hA'⟩ := h1 o ho
    obtain ⟨hα, hn⟩ := hu i hin hun
    have hdo : isDefer o.op = false := by
      have hm := List.all_eq_true.1 hd o (by
        have := List.mem_of_getElem? (l := ops.toList) (i := i) (by simpa using ho)
        exact this)
      simpa using hm
    refine wpOp_yield_gen hτ hF hFf noX_known s hf ho hdo hα hn hy fun α' a' w' s' hfr => ?_
    refine wpAnyIn_of_aAnyL hτ hF hFf hd hN hL f _ _ _ α' a' w' hA' s' (fun q hq => ?_) fun j hj hunj => ?_
    · rw [hfr q (.inr hq)]
      exact hf q (Nat.le_trans (applyU_length_ge upd H) hq)
    · have hij : i ≠ j := fun e => by
        subst e
        by_cases hs : i < listed.size
        · simp [hs] at hunj
        · simp [hs] at hunj
      rw [getD_set_ne true hij] at hunj
      obtain ⟨g1, g2⟩ := hu j hj hunj
      refine ⟨?_, ?_⟩
      · rw [hfr (base + j) (.inl (by omega))]
        exact g1
      · rw [getH_applyU upd H _ fun p hp e => hN j i (Ne.symm hij) hj hin (not_waits ho hall hunj) (by rw [← e]; exact hy.keys p hp)]
        exact g2
theorem draw_tail (hτ : Fits P τ) (hm : P.follows .mixedOrders = true) {Fn : Fence} (hF : ∀ {o : Oper} {a : Act} {w : World} {K : Act → World → Prop} {Q : Exit → Act → World → Prop}, isDefer o.op = false → o.wp P a w K Q → o.wpIn Fn 0 P a w K Q) (hFf : ∀ f, Fn.fn f)
    {id n : Nat} {ops : Array Oper} {T T1 : List AV} {H H1 : Heap} {orc orc' : List Orc} {cs' : List Prop} {fs : List (List Nat × List Nat)} (h : drawA P τ ops H.length 0 (ops.toList.take n) T H orc [] = .ok T1 H1 orc' cs' fs)
    (hB : Region.lexTailB .any ops n = true) (hA : apartA H.length 0 (ops.toList.take n) fs = true) (hd : (ops.toList.all fun o => !isDefer o.op) = true) (hc : ∀ c ∈ cs', c) (s : Sim B S0 w0 α T H a w) (hf : Fresh α H) {Q : Exit → Act → World → Prop}
    (hQ : ∀ (α' : Nat → Option Value) (a' : Act) (w' : World), Sim B S0 w0 α' T1 H1 a' w' → Fresh α' H1 → wpListIn Fn 0 P ops Q (ops.toList.drop n) a' w') : (Code.region id ops true).wpIn Fn 0 P Q a w := by
  simp only [Region.lexTailB, Bool.and_eq_true, decide_eq_true_eq] at hB
  obtain ⟨⟨⟨⟨_, hn⟩, hs⟩, hch⟩, hlex⟩ := hB
  have htl : (ops.toList.take n).length = n := by simp; omega
  have hdl : (ops.toList.drop n).length = ops.size - n := by simp
  obtain ⟨_, hlen⟩ := drawA_mono h
  have hsp := apartA_spec hA hlen.symm
  have hfs : ∀ i, i < n → ∃ p, fs[i]? = some p := fun i hi => ⟨fs[i]'(by rw [hlen, htl]; exact hi), List.getElem?_eq_getElem _⟩
  have htk : ∀ j : Nat, j < n → (ops.toList.take n)[j]? = ops[j]? := fun j hj => by
    rw [List.getElem?_take_of_lt hj]
    simp
  have inv0 : HeadInv .any ops n (Array.replicate ops.size false) :=
    ⟨by simp, fun j oj _ hl => (by rw [getD_replicate_false] at hl; cases hl), fun t _ ht => getD_in (by simpa using ht) (getD_replicate_false _ _)⟩
  have key := aAnyL_lex (P := P) (τ := τ) (base := H.length) (g := ops.size - n) (F := fun i => ((fs[i]?).getD ([], [])).1) (K := fun i => ((fs[i]?).getD ([], [])).2) (T1 := T1) (H1 := H1) (ops := ops) hs hch hn (fun i j oj hij hjn hj hw => by
    obtain ⟨p, hp⟩ := hfs i (by omega)
    obtain ⟨q, hq⟩ := hfs j hjn
    obtain ⟨h1, h2, h3⟩ := (hsp i j oj p q hij (by rw [htk j hjn]; exact hj) hp hq).1 (by simpa using hw)
    exact ⟨by simp only [hp, hq, Option.getD_some]; exact disj_spec h1, by simp only [hp, hq, Option.getD_some]; exact disj_spec h2, by simp only [hp, hq, Option.getD_some]; exact disj_spec h3⟩) (ops.toList.take n) 0 (Array.replicate ops.size false) T H orc orc' [] cs' fs
    (fun j hj => by rw [Nat.zero_add]; exact htk j (by rw [htl] at hj; exact hj)) (by rw [Nat.zero_add]; exact htl) (by intro j hj; omega) inv0 (by rw [htl]; exact hlex) h hc (fun j p hp => by simp [hp])
  refine wpIn_region_any hm ?_
  have hN : ∀ i j, i ≠ j → i < n → j < n → (∀ o, ops[j]? = some o → waits o i = false) → 2 * (H.length + i) ∉ ((fs[j]?).getD ([], [])).2 := fun i j hij hi hj hwt => by
    obtain ⟨p, hp⟩ := hfs i hi
    obtain ⟨q, hq⟩ := hfs j hj
    simp only [hq, Option.getD_some]
    have hjs : j < ops.size := by omega
    have his : i < ops.size := by omega
    rcases Nat.lt_or_gt_of_ne hij with hlt | hgt
    · have := (hsp i j ops[j] p q hlt (by rw [htk j hj]; exact Array.getElem?_eq_getElem hjs) hp hq).2.1 (by simpa using hwt _ (Array.getElem?_eq_getElem hjs))
      simpa using this
    · have := (hsp j i ops[i] q p hgt (by rw [htk i hi]; exact Array.getElem?_eq_getElem his) hq hp).2.2
      simpa using this
  have := wpAnyIn_of_aAnyL (B := B) (S0 := S0) (w0 := w0) hτ hF hFf hd hN (g := ops.size - n) (Q := Q) (fun ls T' H' α' a' w' hL s' hf' => by
    obtain ⟨hq, rfl, rfl⟩ := hL
    have := wpAnyIn_of_seq (P := P) (Fn := Fn) (Q' := Q) (ops.toList.drop n) n ls a' w' (fun j => by simp [List.getElem?_drop]) (by rw [hdl]; exact hq) (hQ α' a' w' s' hf')
    rwa [hdl] at this) _ _ _ _ α a _ key s.drew hf (fun i _ _ => ⟨hf _ (by omega), by simp [getH]⟩)
  rw [htl, show n + (ops.size - n) = ops.size by omega] at this
  exact this
end Go.Flow
namespace Go.Flow
open Go Go.RowKit
variable {P : Program} {B : Nat} {S0 : Nat → Prop} {w0 : World} {α : Nat → Option Value} {a : Act} {w : World}
def mkH (n : Nat) : Heap := List.replicate n (some (.aux ⟨none, .deferred (some []), true⟩))
def hdH (ps : List (Option Nat)) : Heap := ps.map fun p => some (.aux ⟨p, .deferred (some []), false⟩)
theorem unmarked_hdH : ∀ ps : List (Option Nat), unmarked (hdH ps) = true
  | [] => rfl
  | p :: ps => by simp [hdH, unmarked]; exact unmarked_hdH ps
theorem getH_right (H E : Heap) {k : Nat} (h : H.length ≤ k) : getH (H ++ E) k = getH E (k - H.length) := by
  have := getH_app H E (k - H.length)
  rwa [show H.length + (k - H.length) = k by omega] at this
theorem getH_left {H E : Heap} {k : Nat} (h : k < H.length) : getH (H ++ E) k = getH H k := by
  unfold getH
  rw [List.getElem?_append_left h]
theorem getH_mkH {n k : Nat} {o : AObj} (h : getH (mkH n) k = some o) : k < n ∧ o = .aux ⟨none, .deferred (some []), true⟩ := by
  unfold getH mkH at h
  rw [List.getElem?_replicate] at h
  split at h
  · rename_i hk; cases h; exact ⟨hk, rfl⟩
  · cases h
theorem mkH_get {n k : Nat} (h : k < n) : getH (mkH n) k = some (.aux ⟨none, .deferred (some []), true⟩) := by
  unfold getH mkH
  rw [List.getElem?_replicate, if_pos h]
  rfl
def placesOf (α : Nat → Option Value) (m n : Nat) : List (Option Nat) := (List.range n).map fun i => (α (m + i)).bind fun | .chan b => b | _ => none
theorem hdH_get {α : Nat → Option Value} {m n k : Nat} (h : k < n) : getH (hdH (placesOf α m n)) k = some (.aux ⟨(α (m + k)).bind (fun | .chan b => b | _ => none), .deferred (some []), false⟩) := by
  unfold getH hdH placesOf
  simp [h]
theorem hdH_get' {α : Nat → Option Value} {m n k : Nat} {o : AObj} (h : getH (hdH (placesOf α m n)) k = some o) : k < n := by
  have hl : (hdH (placesOf α m n)).length = n := by simp [hdH, placesOf]
  rcases Nat.lt_or_ge k n with h1 | h1
  · exact h1
  · unfold getH at h
    rw [List.getElem?_eq_none (by omega)] at h
    cases h
theorem Sim.hide {T : List AV} {H : Heap} {n : Nat} (s : Sim B S0 w0 α T (H ++ mkH n) a w) : Sim B S0 w0 α T (H ++ hdH (placesOf α H.length n)) { a with defers := [] } w := by
  have hsame : ∀ k o, getH (H ++ hdH (placesOf α H.length n)) k = some o → (k < H.length ∧ getH (H ++ mkH n) k = some o) ∨ (H.length ≤ k ∧ k - H.length < n ∧ getH (H ++ mkH n) k = some (.aux ⟨none, .deferred (some []), true⟩) ∧ o = .aux ⟨(α k).bind (fun | .chan b => b | _ => none), .deferred (some []), false⟩) := fun k o ho => by
    rcases Nat.lt_or_ge k H.length with hk | hk
    · left
      rw [getH_left hk] at ho ⊢
      exact ⟨hk, ho⟩
    · right
      rw [getH_right _ _ hk] at ho ⊢
      have hlt := hdH_get' ho
      rw [hdH_get hlt] at ho
      cases ho
      exact ⟨hk, hlt, mkH_get hlt, by rw [show H.length + (k - H.length) = k by omega]⟩
  have hold : ∀ k o, getH (H ++ hdH (placesOf α H.length n)) k = some o → ∃ o', getH (H ++ mkH n) k = some o' ∧ (o.shut = false → o'.shut = false) := fun k o ho => by
    rcases hsame k o ho with ⟨_, h⟩ | ⟨_, _, h, rfl⟩
    · exact ⟨o, h, id⟩
    · exact ⟨_, h, fun _ => rfl⟩
  have hle : (envOf B S0 α (H ++ mkH n) w).Le (envOf B S0 α (H ++ hdH (placesOf α H.length n)) w) := ⟨fun _ _ h => h, fun b hb => ⟨hb.1, hb.2.1, fun k o v h1 h2 h3 => by
    obtain ⟨o', h4, h5⟩ := hold k o h1
    exact hb.2.2 k o' v h4 (h5 h2) h3⟩, fun _ _ => rfl⟩
  refine ⟨s.below, s.base, .nil, s.tmps.mono hle, fun k o ho => ?_, fun k k' o o' v v' b h1 h2 hne a1 a2 b1 => ?_, s.grd⟩
  · rcases hsame k o ho with ⟨_, h⟩ | ⟨_, _, h, rfl⟩
    · exact (s.objs k o h).mono hle fun _ _ _ _ => rfl
    · obtain ⟨b, h1, h2, h3, _⟩ := s.objs k _ h
      refine ⟨b, h1, h2, h3, fun p hp => ?_⟩
      have h1' : α k = some (.chan (some b)) := h1
      rw [h1'] at hp
      simpa using hp
  · obtain ⟨o1, g1, _⟩ := hold k o h1
    obtain ⟨o2, g2, _⟩ := hold k' o' h2
    exact s.inj k k' o1 o2 v v' b g1 g2 hne a1 a2 b1
theorem Sim.unhide {T : List AV} {H0 H : Heap} {n : Nat} {α0 : Nat → Option Value} {ds : List Deferred} (hds : DefsOk α0 (H0 ++ mkH n) ds) (h0 : unmarked H0 = true) (hl : H0.length = H.length) {D : Nat}
    (s : Sim B S0 w0 α T (H ++ hdH (placesOf α0 H0.length n) ++ [some (.aux ⟨some D, .deferred (some []), false⟩)]) { a with defers := [] } w) :
    Sim B S0 w0 α T (H ++ mkH (n + 1)) { a with defers := { target := .collected D, args := #[] } :: ds } w := by
  have hlen : (hdH (placesOf α0 H0.length n)).length = n := by simp [hdH, placesOf]
  have hnew : ∀ k o, getH (H ++ mkH (n + 1)) k = some o → (k < H.length ∧ getH (H ++ hdH (placesOf α0 H0.length n) ++ [some (.aux ⟨some D, .deferred (some []), false⟩)]) k = some o) ∨
      (∃ p, H.length ≤ k ∧ getH (H ++ hdH (placesOf α0 H0.length n) ++ [some (.aux ⟨some D, .deferred (some []), false⟩)]) k = some (.aux ⟨p, .deferred (some []), false⟩) ∧ o = .aux ⟨none, .deferred (some []), true⟩) := fun k o ho => by
    rcases Nat.lt_or_ge k H.length with hk | hk
    · left
      rw [getH_left hk] at ho
      refine ⟨hk, ?_⟩
      rw [List.append_assoc, getH_left hk]
      exact ho
    · right
      rw [getH_right _ _ hk] at ho
      obtain ⟨hlt, rfl⟩ := getH_mkH ho
      rw [List.append_assoc, getH_right _ _ hk]
      rcases Nat.lt_or_ge (k - H.length) n with h1 | h1
      · rw [getH_left (by rw [hlen]; exact h1), hdH_get h1]
        exact ⟨_, hk, rfl, rfl⟩
      · have e : k - H.length = n := by omega
        rw [getH_right _ _ (by rw [hlen]; omega), hlen, e, Nat.sub_self]
        exact ⟨_, hk, rfl, rfl⟩
  have hold : ∀ k o, getH (H ++ mkH (n + 1)) k = some o → ∃ o', getH (H ++ hdH (placesOf α0 H0.length n) ++ [some (.aux ⟨some D, .deferred (some []), false⟩)]) k = some o' ∧ (o.shut = false → o'.shut = false) := fun k o ho => by
    rcases hnew k o ho with ⟨_, h⟩ | ⟨p, _, h, rfl⟩
    · exact ⟨o, h, id⟩
    · exact ⟨_, h, fun _ => rfl⟩
  have hle : (envOf B S0 α (H ++ hdH (placesOf α0 H0.length n) ++ [some (.aux ⟨some D, .deferred (some []), false⟩)]) w).Le (envOf B S0 α (H ++ mkH (n + 1)) w) := ⟨fun _ _ h => h, fun b hb => ⟨hb.1, hb.2.1, fun k o v h1 h2 h3 => by
    obtain ⟨o', h4, h5⟩ := hold k o h1
    exact hb.2.2 k o' v h4 (h5 h2) h3⟩, fun _ _ => rfl⟩
  have hD : α (H.length + n) = some (.chan (some D)) := by
    have hg : getH (H ++ hdH (placesOf α0 H0.length n) ++ [some (.aux ⟨some D, .deferred (some []), false⟩)]) (H.length + n) = some (.aux ⟨some D, .deferred (some []), false⟩) := by
      rw [getH_right _ _ (by simp [hlen])]
      simp [hlen, getH]
    obtain ⟨b, h1, _, _, h4⟩ := s.objs _ _ hg
    rw [h4 D rfl] at h1
    exact h1
  have hkeep : ∀ k D', k < n → α0 (H0.length + k) = some (.chan (some D')) → α (H.length + k) = some (.chan (some D')) := fun k D' hk hα => by
    have hg : getH (H ++ hdH (placesOf α0 H0.length n) ++ [some (.aux ⟨some D, .deferred (some []), false⟩)]) (H.length + k) = some (.aux ⟨some D', .deferred (some []), false⟩) := by
      rw [List.append_assoc, getH_right _ _ (by omega), Nat.add_sub_cancel_left, getH_left (by rw [hlen]; exact hk), hdH_get hk, hα]
      rfl
    obtain ⟨b, h1, _, _, h4⟩ := s.objs _ _ hg
    rw [h4 D' rfl] at h1
    exact h1
  have hdef : DefsOk α (H ++ mkH (n + 1)) ({ target := .collected D, args := #[] } :: ds) := by
    have hone : ∀ k, k < n + 1 → getH (H ++ mkH (n + 1)) (H.length + k) = some (.aux ⟨none, .deferred (some []), true⟩) := fun k hk => by
      rw [getH_right _ _ (by omega), Nat.add_sub_cancel_left]
      exact mkH_get hk
    have hds' : ∀ d ∈ ds, ∃ k D', k < n ∧ α (H.length + k) = some (.chan (some D')) ∧ d = { target := .collected D', args := #[] } := fun d hd => by
      obtain ⟨h, D', p, g1, g2, g3⟩ := hds.1 d hd
      rcases Nat.lt_or_ge h H0.length with hh | hh
      · rw [getH_left hh] at g1
        have := unmarked_get h0 g1
        cases this
      · rw [getH_right _ _ hh] at g1
        obtain ⟨hlt, _⟩ := getH_mkH g1
        exact ⟨h - H0.length, D', hlt, hkeep _ D' hlt (by rw [show H0.length + (h - H0.length) = h by omega]; exact g2), g3⟩
    refine ⟨fun d hd => ?_, List.nodup_cons.2 ⟨fun hm => ?_, hds.2⟩⟩
    · rcases List.mem_cons.1 hd with rfl | hd
      · exact ⟨H.length + n, D, none, hone n (by omega), hD, rfl⟩
      · obtain ⟨k, D', hk, g2, g3⟩ := hds' d hd
        exact ⟨H.length + k, D', none, hone k (by omega), g2, g3⟩
    · obtain ⟨k, D', hk, g2, g3⟩ := hds' _ hm
      have e : D' = D := by injection g3 with g3; injection g3 with g3; exact g3.symm
      subst e
      obtain ⟨o1, q1, _⟩ := hold _ _ (hone k (by omega))
      obtain ⟨o2, q2, _⟩ := hold _ _ (hone n (by omega))
      exact s.inj _ _ o1 o2 _ _ D' q1 q2 (by omega) g2 hD rfl rfl
  refine ⟨s.below, s.base, hdef, s.tmps.mono hle, fun k o ho => ?_, fun k k' o o' v v' b h1 h2 hne a1 a2 b1 => ?_, s.grd⟩
  · rcases hnew k o ho with ⟨_, h⟩ | ⟨p, _, h, rfl⟩
    · exact (s.objs k o h).mono hle fun _ _ _ _ => rfl
    · obtain ⟨b, h1, h2, h3, _⟩ := s.objs k _ h
      exact ⟨b, h1, h2, h3, fun p hp => by cases hp⟩
  · obtain ⟨o1, g1, _⟩ := hold k o h1
    obtain ⟨o2, g2, _⟩ := hold k' o' h2
    exact s.inj k k' o1 o2 v v' b g1 g2 hne a1 a2 b1
end Go.Flow
namespace Go.Flow
open Go Go.RowKit
variable {B : Nat} {S0 : Nat → Prop} {w0 : World} {α : Nat → Option Value} {T : List AV} {H : Heap} {a : Act} {w : World}
theorem own_lst (s : Sim B S0 w0 α T H a w) {h : Nat} {e : TypeId} {sz : Nat} {es : List AV} (ho : getH H h = some (.row true e sz es)) {u : Value} (hu : α h = some u) : Rep (envOf B S0 α H w) (.lst sz es) u := by
  obtain ⟨v, xs, h1, h2, h3, h4, h5⟩ := s.objs h _ ho
  have hv : v = u := Option.some.inj ((show α h = some v from h1).symm.trans hu)
  subst hv
  rcases h2.2 with ⟨rfl, e2⟩ | ⟨g, cap, cur, rfl, hbg, hgg, hnc, hr⟩
  · have : es = [] := List.eq_nil_of_length_eq_zero e2
    subst this
    exact .lst0 _ _ _
  · exact .lst _ _ _ _ _ xs rfl hnc (frozen_stab s ho rfl hu rfl) h4 h3 (h2.cells (g := g) rfl)
theorem set_self {us : List Value} {t : Nat} {u : Value} (h : us[t]? = some u) : us.set t u = us := by
  obtain ⟨hl, he⟩ := List.getElem?_eq_some_iff.1 h
  rw [← he]
  exact List.set_getElem_self hl
theorem Same.shut (t h : Nat) {fr : Bool} {e : TypeId} {sz : Nat} {es : List AV} {y : AV} (hT : T[t]? = some (.own h)) (ho : getH H h = some (.row fr e sz es)) (hy : ∀ (E : Env) (u : Value), Rep E (.lst sz es) u → Rep E y u) :
    Same T H (T.set t y) (setAt H h (some (.row true e sz es))) := fun B S0 w0 α a w s hf => by
  have s1 := s.freeze ho
  have hset : setAt H h (some (AObj.row fr e sz es).freeze) = setAt H h (some (.row true e sz es)) := rfl
  rw [hset] at s1
  refine ⟨α, s1.reframe ?_ s1.defers, fresh_set (getH_lt ho) hf⟩
  obtain ⟨u, hu, hr⟩ := s1.tmps.get hT
  have hl : Rep (envOf B S0 α (setAt H h (some (.row true e sz es))) w) y u := by
    obtain ⟨ad, n, c, hα, rfl⟩ := hr.inv_own
    exact hy _ _ (own_lst s1 (getH_setAt_same _ _ _) hα)
  have := s1.tmps.set t hl
  rwa [set_self hu] at this
theorem Same.sealBox (hb i h : Nat) {eb : TypeId} {cs : List AV} {fr : Bool} {e : TypeId} {sz : Nat} {es : List AV} {y : AV} (hB : getH H hb = some (.box false eb cs)) (hc : cs[i]? = some (.own h)) (ho : getH H h = some (.row fr e sz es)) (hne : hb ≠ h) (hy : ∀ (E : Env) (u : Value), Rep E (.lst sz es) u → Rep E y u) :
    Same T H T (setAt (setAt H h (some (.row true e sz es))) hb (some (.box false eb (cs.set i y)))) := fun B S0 w0 α a w s hf => by
  have s1 := s.freeze ho
  have hset : setAt H h (some (AObj.row fr e sz es).freeze) = setAt H h (some (.row true e sz es)) := rfl
  rw [hset] at s1
  have hB1 : getH (setAt H h (some (.row true e sz es))) hb = some (.box false eb cs) := by rw [getH_setAt_other _ _ _ _ hne]; exact hB
  obtain ⟨b, us, h1, h2, h3, h4⟩ := s1.objs hb _ hB1
  have hg : w.grownBy w none := ⟨rfl, rfl, rfl, Nat.le_refl _, fun _ _ _ => rfl⟩
  have hle := Le_upd s1 (o' := .box false eb (cs.set i y)) hB1 rfl h1 (fun _ h => by cases h) hg
  have ho1 : getH (setAt (setAt H h (some (.row true e sz es))) hb (some (.box false eb (cs.set i y)))) h = some (.row true e sz es) := by
    rw [getH_setAt_other _ _ _ _ (Ne.symm hne), getH_setAt_same]
  refine ⟨α, s1.upd hB1 rfl h1 (fun _ h => by cases h) hg ⟨b, us, h1, h2, h3, ?_⟩, fresh_set (getH_lt hB1) (fresh_set (getH_lt ho) hf)⟩
  obtain ⟨u, hu, hr⟩ := h4.get hc
  have hl : Rep (envOf B S0 α (setAt H h (some (.row true e sz es))) w) y u := by
    obtain ⟨ad, n, c, hα, rfl⟩ := hr.inv_own
    exact hy _ _ (own_lst s1 (getH_setAt_same _ _ _) hα)
  have := (h4.mono hle).set i (hl.mono hle)
  rwa [set_self hu] at this
theorem rep_lst_ps {sz : Nat} {rows : List (List Value)} (E : Env) (u : Value) (h : Rep E (.lst sz (rows.map rowAV)) u) : Rep E (.ps sz rows) u := .ps _ _ _ h
theorem rep_lst_ls' {us : List Value} (E : Env) (u : Value) (h : Rep E (.lst 1 (us.map .v)) u) : Rep E (.ls us) u := .ls _ _ h
theorem rep_nil_ps {sz : Nat} (E : Env) (u : Value) (h : Rep E (.v (.slice none 0 0)) u) : Rep E (.ps sz []) u := by
  rw [h.inv_v]
  exact .ps _ _ _ (.lst0 _ _ _)
end Go.Flow
namespace Go.Flow.Tryz
open Go Go.Proofs Go.RowKit Go.Flow Go.ChangeShapes Go.WideShapes Go.ChangeAt
set_option maxRecDepth 100000
abbrev laidL : List (String × DataW Unit) := Go.Proofs.YtampjkpdiojciaaGreatDoor.Rows.meshLocatesRow.laid
theorem own : ownKnob Tryz.prog.godebug = none := by kernel_rfl
theorem door_met (os : Os) (args : Array Value) : laidMetH Tryz.prog laidL ((World.doorLaid Tryz.prog 400 os).forCall (fun _ _ => 0) ⟨#[], args, []⟩).memory :=
  laidMetH_of_parts3 (fuel := 8) (laidMet_of_run' 8 (by kernel_rfl) (by kernel_rfl)) (by kernel_rfl) (by kernel_rfl)
theorem row_err (u : TypeId) (h : Tryz.prog.typeName? 3 u = some "*errors.errorString") : u = 254 := by
  have star : "*" ++ "errors.errorString" = "*errors.errorString" := by decide
  exact typeName_ptr_named (nm := "errors.errorString") (by rw [star]; kernel_rfl) (by kernel_rfl) (by decide) u (by rw [star]; exact h)
theorem var_below {P : Program} {W W' : World} (hb : Below W.heap.size W W') {n : String} {cs : Array Value} (h : W.var? P n = some cs) : W'.var? P n = some cs := by
  unfold World.var? at h ⊢
  cases hg : P.globalNamed n with
  | none => simp [hg] at h
  | some g =>
    simp only [hg, Option.bind_some] at h ⊢
    have hlt : g < W.heap.size := by
      rcases Nat.lt_or_ge g W.heap.size with h' | h'
      · exact h'
      · simp [Array.getElem?_eq_none h'] at h
    rw [hb.block g hlt]
    exact h
theorem ground {W : World} (hL0 : laidMetH Tryz.prog laidL W) (hsh : W.ShapedOpen Tryz.prog) : Grd W.heap.size W := by
  have hL : laidMet Tryz.prog laidL W := by
    rw [MakeChecks.laidMetH_plain _ _ _ (by kernel_rfl)] at hL0
    exact hL0
  obtain ⟨m, hm⟩ := cell_of_shapedOpen_int (P := Tryz.prog) (g := 0) (t := 3) (zero := #[.int .i64 0]) hsh (of_decide_eq_true (by kernel_rfl)) (by kernel_rfl) rfl (by kernel_rfl) (by kernel_rfl) Tryz.underlying3
  have h3 : Lib.TabIs Tryz.prog W "internal/strconv.uint64pow10" .u64 Lib.pow10Tab := by
    have h : laidMet Tryz.prog (("internal/strconv.uint64pow10", Lib.tabData .u64 Lib.pow10Tab) :: laidL.drop 3) W := hL.tail.tail
    exact Lib.tabIs_of_head (g := 3) (t := 252) (e := 179) (n := 20) (by kernel_rfl) (by kernel_rfl) (by kernel_rfl) (by kernel_rfl) (by kernel_rfl) (by kernel_rfl) h
  have h4 := laid_sentinel hL.tail.tail.tail (g := 2) (ti := 176) (by kernel_rfl) (by kernel_rfl) Tryz.underlying176 row_err Tryz.underlying254 Tryz.underlying256 rfl rfl Tryz.underlying9 (by kernel_rfl) (by kernel_rfl)
  have h5 := laid_sentinel hL.tail.tail.tail.tail (g := 1) (ti := 176) (by kernel_rfl) (by kernel_rfl) Tryz.underlying176 row_err Tryz.underlying254 Tryz.underlying256 rfl rfl Tryz.underlying9 (by kernel_rfl) (by kernel_rfl)
  obtain ⟨a4, s4, v4, _⟩ := h4
  obtain ⟨a5, s5, v5, _⟩ := h5
  intro W' hb _
  refine ⟨⟨m, ?_⟩, var_below hb h3, ⟨_, _, var_below hb v5⟩, ⟨_, _, var_below hb v4⟩⟩
  have hlt : 0 < W.heap.size := by
    rcases Nat.lt_or_ge 0 W.heap.size with h' | h'
    · exact h'
    · simp [World.cell?, Array.getElem?_eq_none h'] at hm
  rw [hb.cell hlt]
  exact hm
theorem lift {f : FuncId} {fn : Func} {s : ChangeSpec} (hvars : s.vars = []) (hs : ∀ (H : Type) (ds : List (DataW H)), ds.length = fn.params.size → s.fn H ds = { results := [.lit (.bool true)], args := ds })
    (hfn : Tryz.prog.funcs[f]? = some fn) (hres : fn.resultTypes = #[4]) (noInit : Tryz.prog.inits.idxOf? f = none)
    (wit : ∀ (os : Os) (H : Type) (enc : TypeId × Value → H), ∃ (w : World) (tape : Tape) (i : Input), w.os = os ∧ (w.forCall tape i).Shaped Tryz.prog ∧ i.vars = [] ∧ Input.okWide Tryz.prog (w.forCall tape i) .any w.heap.size f i ∧
      ((s.pre enc Tryz.prog fn [] false (w.forCall tape i).memory i.args ∧ laidMetH Tryz.prog laidL (w.forCall tape i).memory) ∧ sizedMet enc Tryz.prog fn (OpenSpec.ofChange s) false (w.forCall tape i).memory i.args) ∧ (({} : Assume)).holds Tryz.prog (lone (Frame.enter Tryz.prog f i.args .normal) [] (w.forCall tape i)))
    (law : ∀ (H : Type) (enc : TypeId × Value → H) (W : World) (base : Nat) (args : Array Value) (ds : List (DataW H)) (p : List MemPlace),
      (∀ (j : Nat) t v, fn.params[j]? = some t → args[j]? = some v → Value.okWide Tryz.prog W .any base t v) →
      DataW.TrodAll enc Tryz.prog W 0 (fun _ => true) true fn.params.toList args.toList ds p →
      p = [] ∧ ds.length = fn.params.size ∧ (∀ (W' : World) (sp : Nat → Bool), DataW.TrodAll enc Tryz.prog W' 0 sp true fn.params.toList args.toList ds []) ∧
        ∃ avs, CallsTo Tryz.prog f avs (bv true) ∧ ∀ E : Env, RepL E avs args.toList)
    (os : Os) (started : os.Started) (H : Type) (enc : TypeId × Value → H) :
    ReturnsInHanded {} Tryz.checked os f .any (fun w args => (s.pre enc Tryz.prog fn [] false w args ∧ laidMetH Tryz.prog laidL w) ∧ sizedMet enc Tryz.prog fn (OpenSpec.ofChange s) false w args)
      (s.post enc Tryz.prog fn false true false false) := by
  refine returnsInHanded_of_calls (C := Tryz.checked) own started noInit (wit os H enc) ?_
  intro w tape i _ hsh _ hok hpre hholds
  obtain ⟨_, _, _, fn', hfn', _, _, _, _, hval⟩ := hok
  have e : fn' = fn := Option.some.inj (hfn'.symm.trans hfn)
  subst e
  obtain ⟨⟨⟨ds, gs, before, hw, hc⟩, hx⟩, hz⟩ := hpre
  have hW := DataW.Whole.of_heap (w' := w.forCall tape i) (by rfl) hw
  have hL : laidMetH Tryz.prog laidL (w.forCall tape i) := hx.of_heap (by rfl)
  have hW' := hW
  obtain ⟨p, q, hA, hV, rfl, hfz, hnd⟩ := hW
  rw [hvars] at hV
  obtain ⟨rfl, rfl⟩ := trodVars_none hV
  obtain ⟨rfl, hlen, hback, avs, hcall, hrep⟩ := law H enc (w.forCall tape i) _ i.args ds p hval hA
  have hk := hcall.2 (w.forCall tape i) (fun b => b < (w.forCall tape i).heap.size) i.args.toList (ground hL hsh) (fun _ h => h) (hrep _)
  refine Calls.mono hk fun e W' hpost => ?_
  obtain ⟨v, he, hb, hr⟩ := hpost
  subst he
  cases hr
  have e1 := hs H ds hlen
  refine ChangeSpec.post_blind (v := .bool true) ?_
  exact ⟨ds, [], [], [], [], [], hW', by rw [List.append_nil, e1, hres]; exact trodAll_mk1 (shut_bool Tryz.underlying4 _), by rw [List.append_nil, e1]; exact hback _ _, by rw [hvars, List.append_nil, e1]; rfl, hb.frame _, fun h => by cases h⟩
end Go.Flow.Tryz
