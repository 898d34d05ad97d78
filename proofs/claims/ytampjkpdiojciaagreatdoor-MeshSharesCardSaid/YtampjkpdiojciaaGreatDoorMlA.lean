/- Part 1 of the proofs of the mesh laws: what their code computes. No conditions. -/
import Derived.Calls
import Derived.Below
import Derived.Maps.AppendAt
import Derived.Orders
import Derived.KernelRfl
import Derived.Lib.LaidTab
import Derived.Lib.ItoaNum
import Derived.Test.YtampjkpdiojciaaGreatDoorProg
import Derived.RangeFuncOwn
import Derived.Laws.OwnMore
import Derived.Laws.MakeOwn
import Derived.Laws.Tables
import Derived.Maps.Own
import Derived.Lib.AppendStr
import Derived.Still
namespace Go.Flow
open Go Go.RowKit
structure Ground0 (w : World) : Prop where
  most : ∃ m, w.cell? ⟨0, 0, none⟩ = some (.int .i64 m)
  pow : Lib.TabIs Go.Proofs.Tryz.prog w "internal/strconv.uint64pow10" .u64 Lib.pow10Tab
  esyn : ∃ tp p, w.var? Go.Proofs.Tryz.prog "strconv.ErrSyntax" = some #[.iface tp p]
  erng : ∃ tp p, w.var? Go.Proofs.Tryz.prog "strconv.ErrRange" = some #[.iface tp p]
def Grd (B : Nat) (w : World) : Prop := ∀ w', Below B w w' → B ≤ w'.heap.size → Ground0 w'
theorem Grd.later {B : Nat} {w w' : World} (h : Grd B w) (hb : Below B w w') (hB : B ≤ w'.heap.size) : Grd w'.heap.size w' :=
  fun w'' h1 h2 => h w'' (hb.trans (h1.mono hB)) (Nat.le_trans hB h2)
theorem Grd.here {w : World} (h : Grd w.heap.size w) : Ground0 w := h w (Below.refl _ _) (Nat.le_refl _)
inductive AV where
  | v (x : Value)
  | any
  | lst (sz : Nat) (es : List AV)
  | ls (us : List Value)
  | ps (sz : Nat) (es : List (List Value))
  | lp (cs : List AV)
  | own (h : Nat)
  | rp (h sz i off : Nat)
  | op (h off : Nat)
  | mp (h : Nat)
  | mv (es : List (Value × Value))
  | mx (arr : Array MapEntry) (clock : Nat)
  | fn (f : FuncId) (cap : List AV)
  | agg (cs : List AV)
  | tup (cs : List AV)
  deriving Inhabited
def rowAV (r : List Value) : AV := .agg (r.map .v)
def AV.flat : AV → List AV
  | .agg cs => cs
  | x => [x]
def flats : List AV → List AV
  | [] => []
  | e :: es => e.flat ++ flats es
structure Env where
  α : Nat → Option Value
  S : Nat → Prop
  w : World
def MapIs (es : List (Value × Value)) (arr : Array MapEntry) (clock : Nat) : Prop :=
  (arr.toList.map fun e => (e.key, e.val)).Perm es ∧ (∀ e ∈ arr.toList, e.born < clock) ∧ (arr.toList.map (·.born)).Nodup ∧ (arr.toList.map (·.key)).Nodup
mutual
inductive Rep (E : Env) : AV → Value → Prop
  | v (x : Value) : Rep E (.v x) x
  | any (x : Value) : Rep E .any x
  | lst0 (sz : Nat) (a : Option Addr) (c : Nat) : Rep E (.lst sz []) (.slice a 0 c)
  | lst (sz : Nat) (es : List AV) (ad : Addr) (n c : Nat) (us : List Value) (hn : es.length = n) (hc : n ≤ c) (hs : E.S ad.block) (hz : ∀ e ∈ es, e.flat.length = sz)
      (hr : RepL E (flats es) us) (hw : ∀ j u, us[j]? = some u → E.w.cell? (ad.add j) = some u) : Rep E (.lst sz es) (.slice (some ad) n c)
  | ls (us : List Value) (v : Value) (h : Rep E (.lst 1 (us.map .v)) v) : Rep E (.ls us) v
  | ps (sz : Nat) (es : List (List Value)) (v : Value) (h : Rep E (.lst sz (es.map rowAV)) v) : Rep E (.ps sz es) v
  | lp (cs : List AV) (ad : Addr) (us : List Value) (hs : E.S ad.block) (hr : RepL E cs us) (hw : ∀ j u, us[j]? = some u → E.w.cell? (ad.add j) = some u) : Rep E (.lp cs) (.pointer (some ad))
  | own (h : Nat) (a : Option Addr) (n c : Nat) (hu : E.α h = some (.slice a n c)) : Rep E (.own h) (.slice a n c)
  | rp (h sz i off b n c : Nat) (hu : E.α h = some (.slice (some ⟨b, 0, none⟩) n c)) : Rep E (.rp h sz i off) (.pointer (some ⟨b, i * sz + off, none⟩))
  | op (h off b : Nat) (hu : E.α h = some (.pointer (some ⟨b, 0, none⟩))) : Rep E (.op h off) (.pointer (some ⟨b, off, none⟩))
  | mp (h : Nat) (r : Option Nat) (hu : E.α h = some (.map r)) : Rep E (.mp h) (.map r)
  | mv (es : List (Value × Value)) (b : Nat) (arr : Array MapEntry) (clock : Nat) (hs : E.S b) (hb : E.w.heap[b]? = some (.map arr clock)) (hm : MapIs es arr clock) : Rep E (.mv es) (.map (some b))
  | mx (arr : Array MapEntry) (clock : Nat) (b : Nat) (hs : E.S b) (hb : E.w.heap[b]? = some (.map arr clock)) : Rep E (.mx arr clock) (.map (some b))
  | fn (f : FuncId) (cap : List AV) (us : List Value) (hr : RepL E cap us) : Rep E (.fn f cap) (.func (.func f) #[] us.toArray)
  | agg (cs : List AV) (us : List Value) (hr : RepL E cs us) : Rep E (.agg cs) (.agg us.toArray)
  | tup (cs : List AV) (us : List Value) (hr : RepL E cs us) : Rep E (.tup cs) (.tuple us.toArray)
inductive RepL (E : Env) : List AV → List Value → Prop
  | nil : RepL E [] []
  | cons (x : AV) (u : Value) (xs : List AV) (us : List Value) (hx : Rep E x u) (hxs : RepL E xs us) : RepL E (x :: xs) (u :: us)
end
structure Env.Le (E E' : Env) : Prop where
  α : ∀ k v, E.α k = some v → E'.α k = some v
  S : ∀ b, E.S b → E'.S b
  heap : ∀ b, E.S b → E'.w.heap[b]? = E.w.heap[b]?
theorem Env.Le.refl (E : Env) : E.Le E := ⟨fun _ _ h => h, fun _ h => h, fun _ _ => rfl⟩
theorem Env.Le.trans {E E' E'' : Env} (h : E.Le E') (k : E'.Le E'') : E.Le E'' :=
  ⟨fun a b c => k.α a b (h.α a b c), fun b hb => k.S b (h.S b hb), fun b hb => (k.heap b (h.S b hb)).trans (h.heap b hb)⟩
theorem add_block (a : Addr) (n : Nat) : (a.add n).block = a.block := by unfold Addr.add; split <;> rfl
theorem Env.Le.cells {E E' : Env} (h : E.Le E') {ad : Addr} (hs : E.S ad.block) {us : List Value} (hw : ∀ j u, us[j]? = some u → E.w.cell? (ad.add j) = some u) :
    ∀ j u, us[j]? = some u → E'.w.cell? (ad.add j) = some u := fun j u hu =>
  (World.cell?_of_block (by rw [add_block]; exact h.heap _ hs)).trans (hw j u hu)
mutual
theorem Rep.mono {E E' : Env} (h : E.Le E') : ∀ {x : AV} {u : Value}, Rep E x u → Rep E' x u
  | _, _, .v x => .v x
  | _, _, .any x => .any x
  | _, _, .lst0 sz a c => .lst0 sz a c
  | _, _, .lst sz es ad n c us hn hc hs hz hr hw => .lst sz es ad n c us hn hc (h.S _ hs) hz (RepL.mono h hr) (h.cells hs hw)
  | _, _, .ls us v hv => .ls us v (Rep.mono h hv)
  | _, _, .ps sz es v hv => .ps sz es v (Rep.mono h hv)
  | _, _, .lp cs ad us hs hr hw => .lp cs ad us (h.S _ hs) (RepL.mono h hr) (h.cells hs hw)
  | _, _, .own k a n c hu => .own k a n c (h.α _ _ hu)
  | _, _, .rp k sz i off b n c hu => .rp k sz i off b n c (h.α _ _ hu)
  | _, _, .op k off b hu => .op k off b (h.α _ _ hu)
  | _, _, .mp k r hu => .mp k r (h.α _ _ hu)
  | _, _, .mv es b arr clock hs hb hm => .mv es b arr clock (h.S _ hs) ((h.heap b hs).trans hb) hm
  | _, _, .mx arr clock b hs hb => .mx arr clock b (h.S _ hs) ((h.heap b hs).trans hb)
  | _, _, .fn f cap us hr => .fn f cap us (RepL.mono h hr)
  | _, _, .agg cs us hr => .agg cs us (RepL.mono h hr)
  | _, _, .tup cs us hr => .tup cs us (RepL.mono h hr)
theorem RepL.mono {E E' : Env} (h : E.Le E') : ∀ {xs : List AV} {us : List Value}, RepL E xs us → RepL E' xs us
  | _, _, .nil => .nil
  | _, _, .cons x u xs us hx hxs => .cons x u xs us (Rep.mono h hx) (RepL.mono h hxs)
end
theorem RepL.length {E : Env} : ∀ {xs : List AV} {us : List Value}, RepL E xs us → us.length = xs.length
  | _, _, .nil => rfl
  | _, _, .cons _ _ _ _ _ hxs => by simp [hxs.length]
theorem RepL.get {E : Env} : ∀ {xs : List AV} {us : List Value}, RepL E xs us → ∀ {i : Nat} {x : AV}, xs[i]? = some x → ∃ u, us[i]? = some u ∧ Rep E x u
  | _, _, .cons _ u _ _ hx _, 0, _, h => by cases h; exact ⟨u, rfl, hx⟩
  | _, _, .cons _ _ _ _ _ hxs, i + 1, _, h => by simpa using hxs.get (by simpa using h)
theorem RepL.append {E : Env} : ∀ {xs ys : List AV} {us vs : List Value}, RepL E xs us → RepL E ys vs → RepL E (xs ++ ys) (us ++ vs)
  | _, _, _, _, .nil, k => k
  | _, _, _, _, .cons x u xs us hx hxs, k => .cons x u _ _ hx (hxs.append k)
theorem RepL.drop {E : Env} : ∀ (n : Nat) {xs : List AV} {us : List Value}, RepL E xs us → RepL E (xs.drop n) (us.drop n)
  | 0, _, _, h => h
  | _ + 1, _, _, .nil => .nil
  | n + 1, _, _, .cons _ _ _ _ _ hxs => RepL.drop n hxs
theorem RepL.take {E : Env} : ∀ (n : Nat) {xs : List AV} {us : List Value}, RepL E xs us → RepL E (xs.take n) (us.take n)
  | 0, _, _, _ => .nil
  | _ + 1, _, _, .nil => .nil
  | n + 1, _, _, .cons x u _ _ hx hxs => .cons x u _ _ hx (RepL.take n hxs)
theorem RepL.split {E : Env} : ∀ {xs ys : List AV} {us : List Value}, RepL E (xs ++ ys) us → ∃ vs ws, us = vs ++ ws ∧ RepL E xs vs ∧ RepL E ys ws
  | [], _, us, h => ⟨[], us, rfl, .nil, h⟩
  | _ :: _, _, _, .cons x u _ _ hx hxs => by
    obtain ⟨vs, ws, rfl, h1, h2⟩ := hxs.split
    exact ⟨u :: vs, ws, rfl, .cons x u _ _ hx h1, h2⟩
theorem RepL.set {E : Env} : ∀ (i : Nat) {xs : List AV} {us : List Value}, RepL E xs us → ∀ {x : AV} {u : Value}, Rep E x u → RepL E (xs.set i x) (us.set i u)
  | _, _, _, .nil, _, _, _ => .nil
  | 0, _, _, .cons _ _ _ _ _ hxs, x, u, h => .cons x u _ _ h hxs
  | i + 1, _, _, .cons y v _ _ hy hxs, _, _, h => .cons y v _ _ hy (hxs.set i h)
theorem RepL.of_get {E : Env} : ∀ {xs : List AV} {us : List Value}, us.length = xs.length → (∀ (i : Nat) (x : AV) (u : Value), xs[i]? = some x → us[i]? = some u → Rep E x u) → RepL E xs us
  | [], [], _, _ => .nil
  | x :: xs, u :: us, hl, h => .cons x u xs us (h 0 x u rfl rfl) (RepL.of_get (by simpa using hl) fun i y v h1 h2 => h (i + 1) y v (by simpa using h1) (by simpa using h2))
theorem flats_append (xs ys : List AV) : flats (xs ++ ys) = flats xs ++ flats ys := by
  induction xs with
  | nil => rfl
  | cons e es ih => simp [flats, ih]
theorem flats_length {sz : Nat} {es : List AV} (h : ∀ e ∈ es, e.flat.length = sz) : (flats es).length = es.length * sz := by
  induction es with
  | nil => simp [flats]
  | cons e es ih =>
    simp only [flats, List.length_append, List.length_cons, h e (by simp), ih fun x hx => h x (by simp [hx]), Nat.add_mul, Nat.one_mul]
    omega
theorem flats_at {sz : Nat} : ∀ {es : List AV}, (∀ e ∈ es, e.flat.length = sz) → ∀ {i : Nat} {e : AV}, es[i]? = some e → ∃ pre post, flats es = pre ++ e.flat ++ post ∧ pre.length = i * sz
  | [], _, _, _, he => by simp at he
  | e0 :: es, _, 0, e, he => by
    cases he
    exact ⟨[], flats es, by simp [flats], by simp⟩
  | e0 :: es, h, i + 1, e, he => by
    obtain ⟨pre, post, h1, h2⟩ := flats_at (es := es) (fun x hx => h x (List.mem_cons_of_mem _ hx)) (i := i) (e := e) (by simpa using he)
    refine ⟨e0.flat ++ pre, post, by simp [flats, h1], ?_⟩
    rw [List.length_append, h e0 (by simp), h2, Nat.add_mul]
    omega
structure Aux where
  place : Option Nat
  obj : Obj
  live : Bool
inductive AObj where
  | box (fr : Bool) (e : TypeId) (cs : List AV)
  | row (fr : Bool) (e : TypeId) (sz : Nat) (es : List AV)
  | vrow (fr : Bool) (e : TypeId) (us : List Value)
  | aux (o : Aux)
  | ghost (us : List Value) (xs : List AV)
  | map (fr : Bool) (es : List (Value × Value))
  deriving Inhabited
def AObj.fr : AObj → Bool
  | .box fr _ _ => fr
  | .row fr _ _ _ => fr
  | .vrow fr _ _ => fr
  | .aux _ => true
  | .ghost _ _ => true
  | .map fr _ => fr
def AObj.shut : AObj → Bool
  | .box fr _ _ => fr
  | .row fr _ _ _ => fr
  | .vrow fr _ _ => fr
  | .aux _ => false
  | .ghost _ _ => true
  | .map fr _ => fr
theorem AObj.shut_of_fr {o : AObj} (h : o.fr = false) : o.shut = false := by cases o <;> first | exact h | cases h
def AObj.freeze : AObj → AObj
  | .box _ e cs => .box true e cs
  | .row _ e sz es => .row true e sz es
  | .vrow _ e us => .vrow true e us
  | .aux o => .aux o
  | .ghost us xs => .ghost us xs
  | .map _ es => .map true es
def AObj.isAux : AObj → Bool
  | .aux _ => true
  | _ => false
abbrev Heap := List (Option AObj)
def setAt : Heap → Nat → Option AObj → Heap
  | [], 0, o => [o]
  | [], k + 1, o => none :: setAt [] k o
  | _ :: xs, 0, o => o :: xs
  | x :: xs, k + 1, o => x :: setAt xs k o
def getH (H : Heap) (h : Nat) : Option AObj := (H[h]?).getD none
theorem getH_setAt_same : ∀ (H : Heap) (k : Nat) (o : Option AObj), getH (setAt H k o) k = o
  | [], 0, _ => rfl
  | [], k + 1, o => by simpa [setAt, getH] using getH_setAt_same [] k o
  | _ :: _, 0, _ => rfl
  | _ :: xs, k + 1, o => by simpa [setAt, getH] using getH_setAt_same xs k o
theorem getH_setAt_other : ∀ (H : Heap) (k j : Nat) (o : Option AObj), j ≠ k → getH (setAt H k o) j = getH H j
  | [], 0, j, o, h => by
    cases j with
    | zero => exact absurd rfl h
    | succ j => simp [setAt, getH]
  | [], k + 1, j, o, h => by
    cases j with
    | zero => simp [setAt, getH]
    | succ j =>
      have := getH_setAt_other [] k j o (fun e => h (by rw [e]))
      simpa [setAt, getH] using this
  | x :: xs, 0, j, o, h => by
    cases j with
    | zero => exact absurd rfl h
    | succ j => simp [setAt, getH]
  | x :: xs, k + 1, j, o, h => by
    cases j with
    | zero => simp [setAt, getH]
    | succ j =>
      have := getH_setAt_other xs k j o (fun e => h (by rw [e]))
      simpa [setAt, getH] using this
def blk : Value → Option Nat
  | .pointer (some a) => some a.block
  | .slice (some a) _ _ => some a.block
  | .map (some r) => some r
  | .chan (some r) => some r
  | _ => none
def Stab (B : Nat) (S0 : Nat → Prop) (α : Nat → Option Value) (H : Heap) (w : World) (b : Nat) : Prop :=
  b < w.heap.size ∧ (b < B → S0 b) ∧ ∀ h o v, getH H h = some o → o.shut = false → α h = some v → blk v ≠ some b
def ObjOk (B : Nat) (E : Env) (h : Nat) : AObj → Prop
  | .box _ e cs => ∃ b us, E.α h = some (.pointer (some ⟨b, 0, none⟩)) ∧ B ≤ b ∧ E.w.heap[b]? = some (.cells us.toArray e (0, 0)) ∧ RepL E cs us
  | .row _ e sz es => ∃ v xs, E.α h = some v ∧ E.w.ownsRow B e sz v es.length xs ∧ RepL E (flats es) xs ∧ (∀ x ∈ es, x.flat.length = sz) ∧ 0 < sz
  | .vrow _ e us => ∃ v, E.α h = some v ∧ E.w.ownsRow B e 1 v us.length us
  | .aux o => ∃ b, E.α h = some (.chan (some b)) ∧ B ≤ b ∧ E.w.heap[b]? = some o.obj ∧ ∀ p, o.place = some p → b = p
  | .ghost us xs => E.α h = some undef ∧ RepL E xs us
  | .map _ es => ∃ b arr clock, E.α h = some (.map (some b)) ∧ B ≤ b ∧ E.w.heap[b]? = some (.map arr clock) ∧ MapIs es arr clock
abbrev envOf (B : Nat) (S0 : Nat → Prop) (α : Nat → Option Value) (H : Heap) (w : World) : Env := ⟨α, Stab B S0 α H w, w⟩
def DefsOk (α : Nat → Option Value) (H : Heap) (ds : List Deferred) : Prop :=
  (∀ d ∈ ds, ∃ h D p, getH H h = some (.aux ⟨p, .deferred (some []), true⟩) ∧ α h = some (.chan (some D)) ∧ d = { target := .collected D, args := #[] }) ∧ ds.Nodup
theorem DefsOk.nil {α : Nat → Option Value} {H : Heap} : DefsOk α H [] := ⟨fun _ h => by simp at h, List.nodup_nil⟩
theorem DefsOk.imp {α α' : Nat → Option Value} {H H' : Heap} {ds : List Deferred} (h : DefsOk α H ds)
    (f : ∀ h D p, getH H h = some (.aux ⟨p, .deferred (some []), true⟩) → α h = some (.chan (some D)) → ∃ h' p', getH H' h' = some (.aux ⟨p', .deferred (some []), true⟩) ∧ α' h' = some (.chan (some D))) : DefsOk α' H' ds :=
  ⟨fun d hd => by
    obtain ⟨k, D, p, h1, h2, h3⟩ := h.1 d hd
    obtain ⟨k', p', g1, g2⟩ := f k D p h1 h2
    exact ⟨k', D, p', g1, g2, h3⟩, h.2⟩
structure Sim (B : Nat) (S0 : Nat → Prop) (w0 : World) (α : Nat → Option Value) (T : List AV) (H : Heap) (a : Act) (w : World) : Prop where
  below : Below B w0 w
  base : B ≤ w.heap.size
  defers : DefsOk α H a.defers
  tmps : RepL (envOf B S0 α H w) T a.tmps.toList
  objs : ∀ h o, getH H h = some o → ObjOk B (envOf B S0 α H w) h o
  inj : ∀ h h' o o' v v' b, getH H h = some o → getH H h' = some o' → h ≠ h' → α h = some v → α h' = some v' → blk v = some b → blk v' ≠ some b
  grd : Grd B w0
theorem ObjOk.mono {B : Nat} {E E' : Env} (h : E.Le E') {k : Nat} {o : AObj} (ho : ObjOk B E k o) (hk : ∀ v b, E.α k = some v → blk v = some b → E'.w.heap[b]? = E.w.heap[b]?) : ObjOk B E' k o := by
  cases o with
  | box fr e cs =>
    obtain ⟨b, us, h1, h2, h3, h4⟩ := ho
    exact ⟨b, us, h.α _ _ h1, h2, (hk _ b h1 rfl).trans h3, h4.mono h⟩
  | row fr e sz es =>
    obtain ⟨v, xs, h1, h2, h3, h4, h5⟩ := ho
    refine ⟨v, xs, h.α _ _ h1, ⟨h2.1, ?_⟩, h3.mono h, h4, h5⟩
    rcases h2.2 with h6 | ⟨g, cap, cur, rfl, hg, hh, rest⟩
    · exact .inl h6
    · exact .inr ⟨g, cap, cur, rfl, hg, (hk _ g h1 rfl).trans hh, rest⟩
  | vrow fr e us =>
    obtain ⟨v, h1, h2⟩ := ho
    refine ⟨v, h.α _ _ h1, ⟨h2.1, ?_⟩⟩
    rcases h2.2 with h6 | ⟨g, cap, cur, rfl, hg, hh, rest⟩
    · exact .inl h6
    · exact .inr ⟨g, cap, cur, rfl, hg, (hk _ g h1 rfl).trans hh, rest⟩
  | aux o =>
    obtain ⟨b, h1, h2, h3, h4⟩ := ho
    exact ⟨b, h.α _ _ h1, h2, (hk _ b h1 rfl).trans h3, h4⟩
  | ghost us xs => exact ⟨h.α _ _ ho.1, ho.2.mono h⟩
  | map fr es =>
    obtain ⟨b, arr, clock, h1, h2, h3, h4⟩ := ho
    exact ⟨b, arr, clock, h.α _ _ h1, h2, (hk _ b h1 rfl).trans h3, h4⟩
theorem ObjOk.alpha {B : Nat} {E : Env} {k : Nat} {o : AObj} (ho : ObjOk B E k o) : ∃ v, E.α k = some v ∧ ∀ b, blk v = some b → B ≤ b ∧ b < E.w.heap.size := by
  cases o with
  | box fr e cs =>
    obtain ⟨b, us, h1, h2, h3, h4⟩ := ho
    refine ⟨_, h1, fun b' hb => ?_⟩
    cases hb
    exact ⟨h2, (Array.getElem?_eq_some_iff.1 h3).1⟩
  | row fr e sz es =>
    obtain ⟨v, xs, h1, h2, h3, h4, h5⟩ := ho
    refine ⟨v, h1, fun b hb => ?_⟩
    rcases h2.2 with ⟨rfl, _⟩ | ⟨g, cap, cur, rfl, hg, hh, rest⟩
    · simp [blk] at hb
    · cases hb
      exact ⟨hg, (Array.getElem?_eq_some_iff.1 hh).1⟩
  | vrow fr e us =>
    obtain ⟨v, h1, h2⟩ := ho
    refine ⟨v, h1, fun b hb => ?_⟩
    rcases h2.2 with ⟨rfl, _⟩ | ⟨g, cap, cur, rfl, hg, hh, rest⟩
    · simp [blk] at hb
    · cases hb
      exact ⟨hg, (Array.getElem?_eq_some_iff.1 hh).1⟩
  | aux o =>
    obtain ⟨b, h1, h2, h3, _⟩ := ho
    exact ⟨_, h1, fun b' hb => by cases hb; exact ⟨h2, (Array.getElem?_eq_some_iff.1 h3).1⟩⟩
  | ghost us xs => exact ⟨_, ho.1, fun b hb => by simp [undef, blk] at hb⟩
  | map fr es =>
    obtain ⟨b, arr, clock, h1, h2, h3, _⟩ := ho
    exact ⟨_, h1, fun b' hb => by cases hb; exact ⟨h2, (Array.getElem?_eq_some_iff.1 h3).1⟩⟩
end Go.Flow
namespace Go.Flow
open Go Go.RowKit
variable {B : Nat} {S0 : Nat → Prop} {w0 : World} {α : Nat → Option Value} {T : List AV} {H : Heap} {a : Act} {w : World}
def updα (α : Nat → Option Value) (k : Nat) (v : Value) : Nat → Option Value := fun j => if j = k then some v else α j
theorem updα_same (α : Nat → Option Value) (k : Nat) (v : Value) : updα α k v k = some v := by simp [updα]
theorem updα_other (α : Nat → Option Value) {k j : Nat} (v : Value) (h : j ≠ k) : updα α k v j = α j := by simp [updα, h]
theorem Sim.put (s : Sim B S0 w0 α T H a w) {d : Nat} {x : AV} {u : Value} (hx : Rep (envOf B S0 α H w) x u) : Sim B S0 w0 α (T.set d x) H (a.put (some d) u) w :=
  ⟨s.below, s.base, s.defers, by simpa [Act.put] using s.tmps.set d hx, s.objs, s.inj, s.grd⟩
theorem Sim.alpha (s : Sim B S0 w0 α T H a w) {h : Nat} {o : AObj} (ho : getH H h = some o) : ∃ v, α h = some v ∧ ∀ b, blk v = some b → B ≤ b ∧ b < w.heap.size := (s.objs h o ho).alpha
theorem Sim.move (s : Sim B S0 w0 α T H a w) {α' : Nat → Option Value} {H' : Heap} {w' : World} (hle : (envOf B S0 α H w).Le (envOf B S0 α' H' w')) (hb : Below B w0 w') (hB : B ≤ w'.heap.size)
    (ho : ∀ h o, getH H' h = some o → ObjOk B (envOf B S0 α' H' w') h o)
    (hi : ∀ h h' o o' v v' b, getH H' h = some o → getH H' h' = some o' → h ≠ h' → α' h = some v → α' h' = some v' → blk v = some b → blk v' ≠ some b)
    (hx : ∀ h o, getH H h = some (.aux o) → getH H' h = some (.aux o)) : Sim B S0 w0 α' T H' a w' :=
  ⟨hb, hB, s.defers.imp fun h D p h1 h2 => ⟨h, p, hx h _ h1, hle.α _ _ h2⟩, s.tmps.mono hle, ho, hi, s.grd⟩
theorem Le_of_below {w' : World} (h : Below w.heap.size w w') : (envOf B S0 α H w).Le (envOf B S0 α H w') :=
  ⟨fun _ _ h => h, fun _ hb => ⟨Nat.lt_of_lt_of_le hb.1 h.size, hb.2.1, hb.2.2⟩, fun b hb => h.block b hb.1⟩
theorem Sim.step (s : Sim B S0 w0 α T H a w) {w' : World} (h : Below w.heap.size w w') : Sim B S0 w0 α T H a w' :=
  s.move (Le_of_below h) (s.below.trans (h.mono s.base)) (Nat.le_trans s.base h.size)
    (fun k o ho => (s.objs k o ho).mono (Le_of_below h) fun v b hv hb => by
      obtain ⟨v', hv', hlt⟩ := s.alpha ho
      have : v = v' := by injection hv.symm.trans hv'
      subst this
      exact h.block b (hlt b hb).2) s.inj fun _ _ h => h
theorem Sim.drew (s : Sim B S0 w0 α T H a w) : Sim B S0 w0 α T H a w.drew := s.step (Below.refl _ _).drew
theorem Le_new {nh : Nat} {o : AObj} {v : Value} {ob : Obj} (hα : α nh = none) (hn : getH H nh = none) (hv : blk v = some w.heap.size) :
    (envOf B S0 α H w).Le (envOf B S0 (updα α nh v) (setAt H nh (some o)) (w.alloc ob)) := by
  refine ⟨fun k u (hk : α k = some u) => ?_, fun b hb => ⟨?_, hb.2.1, fun h o' v' h1 h2 h3 => ?_⟩, fun b hb => Below.heap_alloc w ob b hb.1⟩
  · have hne : k ≠ nh := fun e => by rw [e, hα] at hk; cases hk
    show updα α nh v k = some u
    rw [updα_other α v hne]
    exact hk
  · have := hb.1
    simp
    omega
  · by_cases hk : h = nh
    · subst hk
      rw [updα_same] at h3
      cases h3
      rw [hv]
      have := hb.1
      intro e
      cases e
      omega
    · rw [getH_setAt_other _ _ _ _ hk] at h1
      rw [updα_other α v hk] at h3
      exact hb.2.2 h o' v' h1 h2 h3
theorem Sim.new (s : Sim B S0 w0 α T H a w) {nh : Nat} {o : AObj} {v : Value} {ob : Obj} (hα : α nh = none) (hn : getH H nh = none) (hv : blk v = some w.heap.size)
    (ho : ObjOk B (envOf B S0 (updα α nh v) (setAt H nh (some o)) (w.alloc ob)) nh o) : Sim B S0 w0 (updα α nh v) T (setAt H nh (some o)) a (w.alloc ob) := by
  have hle := Le_new (B := B) (S0 := S0) (w := w) (o := o) (ob := ob) hα hn hv
  refine s.move hle (s.below.alloc s.base ob) (by have := s.base; simp; omega) (fun k o' ho' => ?_) (fun h h' o1 o2 v1 v2 b h1 h2 hne a1 a2 b1 => ?_) (fun h o1 h1 => by rw [getH_setAt_other _ _ _ _ (fun e => by rw [e, hn] at h1; cases h1)]; exact h1)
  · by_cases hk : k = nh
    · subst hk
      rw [getH_setAt_same] at ho'
      cases ho'
      exact ho
    · rw [getH_setAt_other _ _ _ _ hk] at ho'
      exact (s.objs k o' ho').mono hle fun u b hu hb => by
        obtain ⟨u', hu', hlt⟩ := s.alpha ho'
        have : u = u' := by injection hu.symm.trans hu'
        subst this
        exact Below.heap_alloc w ob b (hlt b hb).2
  · by_cases hk : h = nh
    · subst hk
      rw [updα_same] at a1
      cases a1
      rw [getH_setAt_other _ _ _ _ (Ne.symm hne)] at h2
      rw [updα_other α v (Ne.symm hne)] at a2
      obtain ⟨u', hu', hlt⟩ := s.alpha h2
      rw [hu'] at a2
      cases a2
      intro hb
      rw [hv] at b1
      cases b1
      exact absurd (hlt _ hb).2 (Nat.lt_irrefl _)
    · rw [getH_setAt_other _ _ _ _ hk] at h1
      rw [updα_other α v hk] at a1
      by_cases hk' : h' = nh
      · subst hk'
        rw [updα_same] at a2
        cases a2
        obtain ⟨u', hu', hlt⟩ := s.alpha h1
        rw [hu'] at a1
        cases a1
        rw [hv]
        intro e
        cases e
        exact absurd (hlt _ b1).2 (Nat.lt_irrefl _)
      · rw [getH_setAt_other _ _ _ _ hk'] at h2
        rw [updα_other α v hk'] at a2
        exact s.inj h h' o1 o2 v1 v2 b h1 h2 hne a1 a2 b1
theorem Le_upd (s : Sim B S0 w0 α T H a w) {h : Nat} {o o' : AObj} {v : Value} {row : Option Nat} {w' : World} (ho : getH H h = some o) (hf : o.fr = false) (hv : α h = some v)
    (hrow : ∀ g, row = some g → blk v = some g) (hg : w.grownBy w' row) : (envOf B S0 α H w).Le (envOf B S0 α (setAt H h (some o')) w') := by
  have hne : ∀ b, Stab B S0 α H w b → some b ≠ row := fun b hb e => hb.2.2 h o v ho (AObj.shut_of_fr hf) hv (hrow b e.symm)
  have _hs := s.base
  refine ⟨fun _ _ h => h, fun b hb => ⟨Nat.lt_of_lt_of_le hb.1 hg.size, hb.2.1, fun k o1 v1 h1 h2 h3 => ?_⟩, fun b hb => hg.block b hb.1 (hne b hb)⟩
  by_cases hk : k = h
  · subst hk
    rw [hv] at h3
    cases h3
    exact hb.2.2 k o v ho (AObj.shut_of_fr hf) hv
  · rw [getH_setAt_other _ _ _ _ hk] at h1
    exact hb.2.2 k o1 v1 h1 h2 h3
theorem Sim.upd (s : Sim B S0 w0 α T H a w) {h : Nat} {o o' : AObj} {v : Value} {row : Option Nat} {w' : World} (ho : getH H h = some o) (hf : o.fr = false) (hv : α h = some v)
    (hrow : ∀ g, row = some g → blk v = some g) (hg : w.grownBy w' row) (hok : ObjOk B (envOf B S0 α (setAt H h (some o')) w') h o') : Sim B S0 w0 α T (setAt H h (some o')) a w' := by
  have hle := Le_upd s (o' := o') ho hf hv hrow hg
  have hlt : ∀ b, blk v = some b → B ≤ b ∧ b < w.heap.size := fun b hb => by
    obtain ⟨u, hu, hl⟩ := s.alpha ho
    have : v = u := by injection hv.symm.trans hu
    subst this
    exact hl b hb
  refine s.move hle (s.below.grown hg s.base fun g e => (hlt g (hrow g e)).1) (Nat.le_trans s.base hg.size) (fun k o1 h1 => ?_) (fun k k' o1 o2 v1 v2 b h1 h2 hne a1 a2 b1 => ?_) (fun k o1 h1 => by rw [getH_setAt_other _ _ _ _ (fun e => by rw [e, ho] at h1; cases h1; cases hf)]; exact h1)
  · by_cases hk : k = h
    · subst hk
      rw [getH_setAt_same] at h1
      cases h1
      exact hok
    · rw [getH_setAt_other _ _ _ _ hk] at h1
      refine (s.objs k o1 h1).mono hle fun u b hu hb => ?_
      obtain ⟨u', hu', hl⟩ := s.alpha h1
      have : u = u' := by injection hu.symm.trans hu'
      subst this
      refine hg.block b (hl b hb).2 fun e => ?_
      exact s.inj h k o o1 v u b ho h1 (Ne.symm hk) hv hu (hrow b e.symm) hb
  · have g1 : ∃ o3, getH H k = some o3 := by
      by_cases hk : k = h
      · subst hk; exact ⟨o, ho⟩
      · rw [getH_setAt_other _ _ _ _ hk] at h1; exact ⟨_, h1⟩
    have g2 : ∃ o3, getH H k' = some o3 := by
      by_cases hk : k' = h
      · subst hk; exact ⟨o, ho⟩
      · rw [getH_setAt_other _ _ _ _ hk] at h2; exact ⟨_, h2⟩
    obtain ⟨o3, g1⟩ := g1
    obtain ⟨o4, g2⟩ := g2
    exact s.inj k k' o3 o4 v1 v2 b g1 g2 hne a1 a2 b1
theorem Sim.freeze (s : Sim B S0 w0 α T H a w) {h : Nat} {o : AObj} (ho : getH H h = some o) : Sim B S0 w0 α T (setAt H h (some o.freeze)) a w := by
  have hfr : o.freeze.shut = false → o.shut = false := by cases o <;> first | exact id | (intro h; cases h)
  have hle : (envOf B S0 α H w).Le (envOf B S0 α (setAt H h (some o.freeze)) w) := by
    refine ⟨fun _ _ h => h, fun b hb => ⟨hb.1, hb.2.1, fun k o1 v1 h1 h2 h3 => ?_⟩, fun _ _ => rfl⟩
    by_cases hk : k = h
    · subst hk
      rw [getH_setAt_same] at h1
      cases h1
      exact hb.2.2 k o v1 ho (hfr h2) h3
    · rw [getH_setAt_other _ _ _ _ hk] at h1
      exact hb.2.2 k o1 v1 h1 h2 h3
  refine s.move hle s.below s.base (fun k o1 h1 => ?_) (fun k k' o1 o2 v1 v2 b h1 h2 hne a1 a2 b1 => ?_) (fun k o1 h1 => by
    by_cases hk : k = h
    · subst hk; rw [ho] at h1; cases h1; rw [getH_setAt_same]; rfl
    · rw [getH_setAt_other _ _ _ _ hk]; exact h1)
  · by_cases hk : k = h
    · subst hk
      rw [getH_setAt_same] at h1
      cases h1
      have h0 := (s.objs k o ho).mono hle fun _ _ _ _ => rfl
      cases o with
      | box fr e cs => exact h0
      | row fr e sz es => exact h0
      | vrow fr e us => exact h0
      | aux o => exact h0
      | ghost us xs => exact h0
      | map fr es => exact h0
    · rw [getH_setAt_other _ _ _ _ hk] at h1
      exact (s.objs k o1 h1).mono hle fun _ _ _ _ => rfl
  · have g1 : ∃ o3, getH H k = some o3 := by
      by_cases hk : k = h
      · subst hk; exact ⟨o, ho⟩
      · rw [getH_setAt_other _ _ _ _ hk] at h1; exact ⟨_, h1⟩
    have g2 : ∃ o3, getH H k' = some o3 := by
      by_cases hk : k' = h
      · subst hk; exact ⟨o, ho⟩
      · rw [getH_setAt_other _ _ _ _ hk] at h2; exact ⟨_, h2⟩
    obtain ⟨o3, g1⟩ := g1
    obtain ⟨o4, g2⟩ := g2
    exact s.inj k k' o3 o4 v1 v2 b g1 g2 hne a1 a2 b1
theorem Sim.grow (s : Sim B S0 w0 α T H a w) {h nh : Nat} {o o' : AObj} {v v' : Value} {w' : World} (ho : getH H h = some o) (hf : o.fr = false) (hv : α h = some v)
    (hα : α nh = none) (hg : w.grownBy w' (blk v)) (hv' : blk v' = blk v ∨ blk v' = some w.heap.size)
    (hok : (envOf B S0 α H w).Le (envOf B S0 (updα α nh v') (setAt (setAt H h none) nh (some o')) w') → ObjOk B (envOf B S0 (updα α nh v') (setAt (setAt H h none) nh (some o')) w') nh o') :
    Sim B S0 w0 (updα α nh v') T (setAt (setAt H h none) nh (some o')) a w' := by
  have hnh : h ≠ nh := fun e => by rw [e, hα] at hv; cases hv
  have hlt : ∀ b, blk v = some b → B ≤ b ∧ b < w.heap.size := fun b hb => by
    obtain ⟨u, hu, hl⟩ := s.alpha ho
    have : v = u := by injection hv.symm.trans hu
    subst this
    exact hl b hb
  have hne : ∀ b, Stab B S0 α H w b → some b ≠ blk v := fun b hb e => hb.2.2 h o v ho (AObj.shut_of_fr hf) hv e.symm
  have hget : ∀ k o1, k ≠ nh → getH (setAt (setAt H h none) nh (some o')) k = some o1 → k ≠ h ∧ getH H k = some o1 := fun k o1 hk h1 => by
    rw [getH_setAt_other _ _ _ _ hk] at h1
    by_cases hkh : k = h
    · subst hkh
      rw [getH_setAt_same] at h1
      cases h1
    · rw [getH_setAt_other _ _ _ _ hkh] at h1
      exact ⟨hkh, h1⟩
  have hle : (envOf B S0 α H w).Le (envOf B S0 (updα α nh v') (setAt (setAt H h none) nh (some o')) w') := by
    refine ⟨fun k u (hk : α k = some u) => ?_, fun b hb => ⟨Nat.lt_of_lt_of_le hb.1 hg.size, hb.2.1, fun k o1 v1 h1 h2 h3 => ?_⟩, fun b hb => hg.block b hb.1 (hne b hb)⟩
    · have hne : k ≠ nh := fun e => by rw [e, hα] at hk; cases hk
      show updα α nh v' k = some u
      rw [updα_other α v' hne]
      exact hk
    · by_cases hk : k = nh
      · subst hk
        rw [updα_same] at h3
        cases h3
        rcases hv' with e | e
        · rw [e]; exact fun e' => hne b hb e'.symm
        · rw [e]
          intro e'
          cases e'
          exact absurd hb.1 (Nat.lt_irrefl _)
      · obtain ⟨_, h1'⟩ := hget k o1 hk h1
        rw [updα_other α v' hk] at h3
        exact hb.2.2 k o1 v1 h1' h2 h3
  have hnew : ∀ k o1 u b, k ≠ nh → getH (setAt (setAt H h none) nh (some o')) k = some o1 → α k = some u → blk u = some b → blk v' ≠ some b := fun k o1 u b hk h1 hu hb => by
    obtain ⟨hkh, h1'⟩ := hget k o1 hk h1
    rcases hv' with e | e
    · rw [e]
      intro e'
      exact s.inj h k o o1 v u b ho h1' (Ne.symm hkh) hv hu e' hb
    · rw [e]
      intro e'
      cases e'
      obtain ⟨u', hu', hl⟩ := s.alpha h1'
      rw [hu] at hu'
      cases hu'
      exact absurd (hl _ hb).2 (Nat.lt_irrefl _)
  refine s.move hle (s.below.grown hg s.base fun g e => (hlt g e).1) (Nat.le_trans s.base hg.size) (fun k o1 h1 => ?_) (fun k k' o1 o2 v1 v2 b h1 h2 hne' a1 a2 b1 => ?_) (fun k o1 h1 => by
    have hkn : k ≠ nh := fun e => by obtain ⟨u, hu, _⟩ := s.alpha h1; rw [e, hα] at hu; cases hu
    have hkh : k ≠ h := fun e => by rw [e, ho] at h1; cases h1; cases hf
    rw [getH_setAt_other _ _ _ _ hkn, getH_setAt_other _ _ _ _ hkh]; exact h1)
  · by_cases hk : k = nh
    · subst hk
      rw [getH_setAt_same] at h1
      cases h1
      exact hok hle
    · obtain ⟨hkh, h1'⟩ := hget k o1 hk h1
      refine (s.objs k o1 h1').mono hle fun u b hu hb => ?_
      obtain ⟨u', hu', hl⟩ := s.alpha h1'
      have : u = u' := by injection hu.symm.trans hu'
      subst this
      exact hg.block b (hl b hb).2 fun e => s.inj h k o o1 v u b ho h1' (Ne.symm hkh) hv hu e.symm hb
  · by_cases hk : k = nh
    · subst hk
      rw [updα_same] at a1
      cases a1
      rw [updα_other α v' (Ne.symm hne')] at a2
      exact fun e => hnew k' o2 v2 b (Ne.symm hne') h2 a2 e b1
    · rw [updα_other α v' hk] at a1
      by_cases hk' : k' = nh
      · subst hk'
        rw [updα_same] at a2
        cases a2
        exact hnew k o1 v1 b hk h1 a1 b1
      · rw [updα_other α v' hk'] at a2
        exact s.inj k k' o1 o2 v1 v2 b (hget k o1 hk h1).2 (hget k' o2 hk' h2).2 hne' a1 a2 b1
theorem Le_adopt {nh : Nat} {o : AObj} {v : Value} {w' : World} (hα : α nh = none) (hb : Below w.heap.size w w') (hv : ∀ b, blk v = some b → w.heap.size ≤ b) :
    (envOf B S0 α H w).Le (envOf B S0 (updα α nh v) (setAt H nh (some o)) w') := by
  refine ⟨fun k u (hk : α k = some u) => ?_, fun b hs => ⟨Nat.lt_of_lt_of_le hs.1 hb.size, hs.2.1, fun h o' v' h1 h2 h3 => ?_⟩, fun b hs => hb.block b hs.1⟩
  · have hne : k ≠ nh := fun e => by rw [e, hα] at hk; cases hk
    show updα α nh v k = some u
    rw [updα_other α v hne]
    exact hk
  · by_cases hk : h = nh
    · subst hk
      rw [updα_same] at h3
      cases h3
      intro e
      have := hv b e
      have := hs.1
      omega
    · rw [getH_setAt_other _ _ _ _ hk] at h1
      rw [updα_other α v hk] at h3
      exact hs.2.2 h o' v' h1 h2 h3
theorem Sim.adopt (s : Sim B S0 w0 α T H a w) {nh : Nat} {o : AObj} {v : Value} {w' : World} (hα : α nh = none) (hb : Below w.heap.size w w') (hv : ∀ b, blk v = some b → w.heap.size ≤ b)
    (ho : (envOf B S0 α H w).Le (envOf B S0 (updα α nh v) (setAt H nh (some o)) w') → ObjOk B (envOf B S0 (updα α nh v) (setAt H nh (some o)) w') nh o) : Sim B S0 w0 (updα α nh v) T (setAt H nh (some o)) a w' := by
  have hle := Le_adopt (B := B) (S0 := S0) (H := H) (o := o) hα hb hv
  refine s.move hle (s.below.trans (hb.mono s.base)) (Nat.le_trans s.base hb.size) (fun k o' ho' => ?_) (fun h h' o1 o2 v1 v2 b h1 h2 hne a1 a2 b1 => ?_) (fun k o1 h1 => by
    rw [getH_setAt_other _ _ _ _ (fun e => by obtain ⟨u, hu, _⟩ := s.alpha h1; rw [e, hα] at hu; cases hu)]; exact h1)
  · by_cases hk : k = nh
    · subst hk
      rw [getH_setAt_same] at ho'
      cases ho'
      exact ho hle
    · rw [getH_setAt_other _ _ _ _ hk] at ho'
      exact (s.objs k o' ho').mono hle fun u b hu hb' => by
        obtain ⟨u', hu', hlt⟩ := s.alpha ho'
        have : u = u' := by injection hu.symm.trans hu'
        subst this
        exact hb.block b (hlt b hb').2
  · by_cases hk : h = nh
    · subst hk
      rw [updα_same] at a1
      cases a1
      rw [getH_setAt_other _ _ _ _ (Ne.symm hne)] at h2
      rw [updα_other α v (Ne.symm hne)] at a2
      obtain ⟨u', hu', hlt⟩ := s.alpha h2
      rw [hu'] at a2
      cases a2
      intro e
      have := hv b b1
      have := (hlt b e).2
      omega
    · rw [getH_setAt_other _ _ _ _ hk] at h1
      rw [updα_other α v hk] at a1
      by_cases hk' : h' = nh
      · subst hk'
        rw [updα_same] at a2
        cases a2
        obtain ⟨u', hu', hlt⟩ := s.alpha h1
        rw [hu'] at a1
        cases a1
        intro e
        have := hv b e
        have := (hlt b b1).2
        omega
      · rw [getH_setAt_other _ _ _ _ hk'] at h2
        rw [updα_other α v hk'] at a2
        exact s.inj h h' o1 o2 v1 v2 b h1 h2 hne a1 a2 b1
theorem Sim.turn (s : Sim B S0 w0 α T H a w) {h b : Nat} {o : Aux} {o' : Obj} (ho : getH H h = some (.aux o)) (hv : α h = some (.chan (some b))) (hd : a.defers = [] ∨ o.obj ≠ .deferred (some [])) :
    Sim B S0 w0 α T (setAt H h (some (.aux ⟨o.place, o', o.live⟩))) a (w.putObj b o') := by
  have hg : w.grownBy (w.putObj b o') (some b) := grownBy_putObj' w b o'
  obtain ⟨b0, e0, hB0, hb0, hp0⟩ := s.objs h _ ho
  have : b0 = b := by injection e0.symm.trans hv with e; injection e with e; injection e
  subst this
  have hlt0 : b0 < w.heap.size := (Array.getElem?_eq_some_iff.1 hb0).1
  have hne : ∀ b, Stab B S0 α H w b → b ≠ b0 := fun b hb e => hb.2.2 h _ _ ho rfl hv (by rw [e]; rfl)
  have hle : (envOf B S0 α H w).Le (envOf B S0 α (setAt H h (some (.aux ⟨o.place, o', o.live⟩))) (w.putObj b0 o')) := by
    refine ⟨fun _ _ h => h, fun b hb => ⟨Nat.lt_of_lt_of_le hb.1 hg.size, hb.2.1, fun k o1 v1 h1 h2 h3 => ?_⟩, fun b hb => World.putObj_heap_other (hne b hb)⟩
    by_cases hk : k = h
    · subst hk
      rw [hv] at h3
      cases h3
      exact hb.2.2 k _ _ ho rfl hv
    · rw [getH_setAt_other _ _ _ _ hk] at h1
      exact hb.2.2 k o1 v1 h1 h2 h3
  have hd' : DefsOk α (setAt H h (some (.aux ⟨o.place, o', o.live⟩))) a.defers := by
    rcases hd with hd | hd
    · rw [hd]; exact .nil
    · refine s.defers.imp fun k D p h1 h2 => ⟨k, p, ?_, h2⟩
      rw [getH_setAt_other _ _ _ _ (fun e => by rw [e, ho] at h1; cases h1; exact hd rfl)]
      exact h1
  refine ⟨s.below.grown hg s.base (fun g e => by cases e; exact hB0), Nat.le_trans s.base hg.size, hd', s.tmps.mono hle, fun k o1 h1 => ?_, fun k k' o1 o2 v1 v2 b h1 h2 hne a1 a2 b1 => ?_, s.grd⟩
  · by_cases hk : k = h
    · subst hk
      rw [getH_setAt_same] at h1
      cases h1
      exact ⟨b0, hv, hB0, World.putObj_heap_same hlt0, hp0⟩
    · rw [getH_setAt_other _ _ _ _ hk] at h1
      refine (s.objs k o1 h1).mono hle fun u b hu hb => World.putObj_heap_other fun e => ?_
      exact s.inj h k _ o1 _ u b0 ho h1 (Ne.symm hk) hv hu rfl (by rw [← e]; exact hb)
  · have g1 : ∃ o3, getH H k = some o3 := by
      by_cases hk : k = h
      · subst hk; exact ⟨_, ho⟩
      · rw [getH_setAt_other _ _ _ _ hk] at h1; exact ⟨_, h1⟩
    have g2 : ∃ o3, getH H k' = some o3 := by
      by_cases hk : k' = h
      · subst hk; exact ⟨_, ho⟩
      · rw [getH_setAt_other _ _ _ _ hk] at h2; exact ⟨_, h2⟩
    obtain ⟨o3, g1⟩ := g1
    obtain ⟨o4, g2⟩ := g2
    exact s.inj k k' o3 o4 v1 v2 b g1 g2 hne a1 a2 b1
theorem Sim.reframe (s : Sim B S0 w0 α T H a w) {T' : List AV} {a' : Act} (ht : RepL (envOf B S0 α H w) T' a'.tmps.toList)
    (hd : DefsOk α H a'.defers) : Sim B S0 w0 α T' H a' w :=
  ⟨s.below, s.base, hd, ht, s.objs, s.inj, s.grd⟩
end Go.Flow
namespace Go.Flow
open Go Go.RowKit
structure ATy where
  desc : TypeDesc
  size : Nat
  bytes : Nat
  zero : Value
abbrev Tab := Nat → Option ATy
def Fits (P : Program) (τ : Tab) : Prop :=
  ∀ t ty, τ t = some ty → ∃ i, P.info? t = some i ∧ i.size = ty.size ∧ i.bytes = ty.bytes ∧ i.zero = some ty.zero ∧ P.underlying t = some ty.desc
def isRow : TypeDesc → Bool
  | .struct _ => true
  | .array _ _ => true
  | _ => false
def AV.one : AV → Bool
  | .v x => x.oneCell'
  | .any => false
  | .agg _ => false
  | .tup _ => false
  | _ => true
def hf : Nat → AV → Bool
  | 0, _ => false
  | n + 1, x => match x with
    | .v _ => true
    | .any => true
    | .lst _ es => es.all (hf n)
    | .ls _ => true
    | .ps _ _ => true
    | .mv _ => true
    | .mx _ _ => true
    | .lp cs => cs.all (hf n)
    | .fn _ cap => cap.all (hf n)
    | .agg cs => cs.all (hf n)
    | .tup cs => cs.all (hf n)
    | _ => false
def lookL (f : AV → Option AV) : List AV → Option (List AV)
  | [] => some []
  | x :: xs => match f x, lookL f xs with
    | some y, some ys => some (y :: ys)
    | _, _ => none
def look (H : Heap) : Nat → AV → Option AV
  | 0, _ => none
  | n + 1, x => match x with
    | .v x => some (.v x)
    | .any => some .any
    | .lst sz es => if es.all (hf n) then some (.lst sz es) else none
    | .ls us => some (.ls us)
    | .ps sz es => some (.ps sz es)
    | .mv es => some (.mv es)
    | .mx arr clock => some (.mx arr clock)
    | .mp h => match getH H h with
      | some (.map _ es) => some (.mv es)
      | _ => none
    | .lp cs => if cs.all (hf n) then some (.lp cs) else none
    | .own h => match getH H h with
      | some (.row _ _ sz es) => match lookL (look H n) es with
        | some ys => some (.lst sz ys)
        | none => none
      | some (.vrow _ _ us) => some (.ls us)
      | _ => none
    | .op h off => match getH H h with
      | some (.box _ _ cs) => match lookL (look H n) (cs.drop off) with
        | some ys => some (.lp ys)
        | none => none
      | _ => none
    | .fn f cap => match lookL (look H n) cap with
      | some ys => some (.fn f ys)
      | none => none
    | .agg cs => match lookL (look H n) cs with
      | some ys => some (.agg ys)
      | none => none
    | .tup cs => match lookL (look H n) cs with
      | some ys => some (.tup ys)
      | none => none
    | _ => none
def mem : Nat → AV → Bool
  | 0, _ => true
  | n + 1, x => match x with
    | .v _ => false
    | .any => false
    | .fn _ cap => cap.any (mem n)
    | .agg cs => cs.any (mem n)
    | .tup cs => cs.any (mem n)
    | _ => true
def handles (H : Heap) : Nat → AV → List Nat
  | 0, _ => []
  | n + 1, x => match x with
    | .own h => h :: (match getH H h with
      | some (.row _ _ _ es) => es.flatMap (handles H n)
      | some (.box _ _ cs) => cs.flatMap (handles H n)
      | _ => [])
    | .op h _ => h :: (match getH H h with
      | some (.row _ _ _ es) => es.flatMap (handles H n)
      | some (.box _ _ cs) => cs.flatMap (handles H n)
      | _ => [])
    | .rp h _ _ _ => [h]
    | .mp h => [h]
    | .lst _ es => es.flatMap (handles H n)
    | .lp cs => cs.flatMap (handles H n)
    | .fn _ cap => cap.flatMap (handles H n)
    | .agg cs => cs.flatMap (handles H n)
    | .tup cs => cs.flatMap (handles H n)
    | _ => []
def Body (P : Program) (f : FuncId) : Prop := ∃ fn c, P.funcs[f]? = some fn ∧ fn.body = some c ∧ (fn.name == "runtime.NumGoroutine") = false
def CallsTo (P : Program) (f : FuncId) (args : List AV) (r : AV) : Prop :=
  Body P f ∧ ∀ (w : World) (S : Nat → Prop) (us : List Value), Grd w.heap.size w → (∀ b, S b → b < w.heap.size) → RepL ⟨fun _ => none, S, w⟩ args us →
    Calls P f us.toArray w fun e w' => ∃ v, e = .returned v ∧ Below w.heap.size w w' ∧ Rep ⟨fun _ => none, fun b => b < w'.heap.size ∧ (b < w.heap.size → S b), w'⟩ r v
def CallsOwn (P : Program) (f : FuncId) (args : List AV) (e : TypeId) (sz : Nat) (es : List AV) : Prop :=
  Body P f ∧ ∀ (w : World) (S : Nat → Prop) (us : List Value), Grd w.heap.size w → (∀ b, S b → b < w.heap.size) → RepL ⟨fun _ => none, S, w⟩ args us →
    Calls P f us.toArray w fun en w' => ∃ v xs, en = .returned v ∧ Below w.heap.size w w' ∧ w'.ownsRow w.heap.size e sz v es.length xs ∧
      RepL ⟨fun _ => none, fun b => b < w'.heap.size ∧ (b < w.heap.size → S b) ∧ blk v ≠ some b, w'⟩ (flats es) xs
inductive Ex where
  | normal
  | exit (id : Nat)
  | ret
inductive Orc where
  | b (x : Bool)
  | a (x : AV)
  | o (e : TypeId) (sz : Nat) (es : List AV)
  | x (r : AV)
  | s (k : Nat) (ex : Ex) (T : List AV) (H : List (Option AObj))
  | u (n : Nat)
  | i (H2 : List (Option AObj)) (r : AV)
  | c (T : List AV) (H : List (Option AObj))
  | m (r : Option Value)
  | l (r : Value)
abbrev Upd := List (Nat × Option AObj)
inductive Res where
  | ok (v : AV) (upd : Upd) (orc : List Orc) (cs : List Prop)
  | bad (why : String) (info : List AV)
def constA : Value → AV
  | .agg cs => .agg (cs.toList.map .v)
  | v => .v v
def evalA (T : List AV) : Operand → AV
  | .tmp t => (T[t]?).getD (.v undef)
  | .const v => constA v
  | .global g => .v (.pointer (some ⟨g, 0, none⟩))
  | .func f => .fn f []
def zeroA (ty : ATy) : List AV := ty.zero.cells.toList.map .v
def takeAt (row : Bool) (size off : Nat) (cs : List AV) : Option AV :=
  if row then (if off + size ≤ cs.length then some (.agg ((cs.drop off).take size)) else none) else cs[off]?
def over (cs : List AV) (off : Nat) (ys : List AV) : List AV := cs.take off ++ ys ++ cs.drop (off + ys.length)
def binA (op : BinOp) (x y : AV) : Option (AV × List Prop) :=
  match x, y with
  | .v (.int k a), .v (.int k' b) => if k = k' then
      match op with
      | .add => some (.v (.int k (a + b)), [k.wrap (a + b) = a + b])
      | .sub => some (.v (.int k (a - b)), [k.wrap (a - b) = a - b])
      | .mul => some (.v (.int k (a * b)), [k.wrap (a * b) = a * b])
      | .quo => some (.v (.int k (a.tdiv b)), [b ≠ 0, k.wrap (a.tdiv b) = a.tdiv b])
      | .rem => some (.v (.int k (a.tmod b)), [b ≠ 0])
      | .eql => some (.v (.bool (a == b)), [])
      | .neq => some (.v (.bool (a != b)), [])
      | .lss => some (.v (.bool (decide (a < b))), [])
      | .leq => some (.v (.bool (decide (a ≤ b))), [])
      | .gtr => some (.v (.bool (decide (a > b))), [])
      | .geq => some (.v (.bool (decide (a ≥ b))), [])
      | _ => none
    else none
  | .v (.string a), .v (.string b) =>
    match op with
    | .add => some (.v (.string (a ++ b)), [((a.size + b.size : Nat) : Int) ≤ IntKind.i64.max])
    | .eql => some (.v (.bool (a.toList == b.toList)), [])
    | .neq => some (.v (.bool (!(a.toList == b.toList))), [])
    | _ => none
  | _, _ => none
def AV.flatOk : AV → Bool
  | .agg _ => true
  | x => x.one
def fillA (place : Nat → Option (Nat × Nat)) : List AV → List (Nat × AV) → Option (List AV)
  | cells, [] => some cells
  | cells, (i, y) :: rest =>
    match place i with
    | none => none
    | some (off, size) =>
      if y.flatOk && (y.flat.length == size) && Nat.ble (off + y.flat.length) cells.length then fillA place (over cells off y.flat) rest else none
def fieldsA (τ : Tab) : List Field → Option (List (Nat × Nat))
  | [] => some []
  | f :: fs => match τ f.type, fieldsA τ fs with
    | some ty, some r => some ((f.offset, ty.size) :: r)
    | _, _ => none
def chunkA (row : Bool) (sz : Nat) : Nat → List AV → List AV
  | 0, _ => []
  | n + 1, cs => (if row then .agg (cs.take sz) else cs.headD .any) :: chunkA row sz n (cs.drop sz)
def partsA (T : List AV) (ps : Array (Nat × Operand)) : List (Nat × AV) := ps.toList.map fun p => (p.1, evalA T p.2)
def buildA (τ : Tab) (T : List AV) (t : TypeId) (ps : Array (Nat × Operand)) : Option AV :=
  match τ t with
  | some ty => match ty.desc with
    | .struct fields => match fieldsA τ fields.toList with
      | some places => match fillA (places[·]?) (zeroA ty) (partsA T ps) with
        | some cs => some (.agg cs)
        | none => none
      | none => none
    | .array _ elem => match τ elem with
      | some ety => match fillA (fun i => some (i * ety.size, ety.size)) (zeroA ty) (partsA T ps) with
        | some cs => some (.agg cs)
        | none => none
      | none => none
    | _ => none
  | none => none
def repA (z : List AV) : Nat → List AV
  | 0 => []
  | n + 1 => z ++ repA z n
def buildSliceA (τ : Tab) (T : List AV) (t : TypeId) (len : Nat) (ps : Array (Nat × Operand)) : Option (TypeId × Nat × List AV) :=
  match τ t with
  | some ty => match ty.desc with
    | .slice elem => match τ elem with
      | some ety =>
        if Nat.ble (len * ety.size) 16777216 && Nat.ble 1 ety.size && (ety.zero.cells.size == ety.size) && (isRow ety.desc || ety.size == 1) then
          match fillA (fun i => some (i * ety.size, ety.size)) (repA (zeroA ety) len) (partsA T ps) with
          | some cs => if isRow ety.desc || cs.all AV.one then some (elem, ety.size, chunkA (isRow ety.desc) ety.size len cs) else none
          | none => none
        else none
      | none => none
    | _ => none
  | none => none
def loadA (τ : Tab) (H : Heap) (t : TypeId) (x : AV) (orc : List Orc) : Res :=
  match τ t with
  | none => .bad "load: type" []
  | some ty => match x with
    | .op h off => match getH H h with
      | some (.box _ _ cs) => match takeAt (isRow ty.desc) ty.size off cs with
        | some y => .ok y [] orc []
        | none => .bad "load: cells" cs
      | _ => .bad "load: object" [x]
    | .lp cs => match takeAt (isRow ty.desc) ty.size 0 cs with
      | some y => .ok y [] orc []
      | none => .bad "load: cells" cs
    | .rp h sz i off => match getH H h with
      | some (.row _ _ sz' es) => match orc with
        | .a e :: orc => if sz == sz' then (match takeAt (isRow ty.desc) ty.size off e.flat with
          | some y => .ok y [] orc [es[i]? = some e]
          | none => .bad "load: cells" [e]) else .bad "load: size" [x]
        | _ => .bad "load: element?" (x :: es)
      | _ => .bad "load: object" [x]
    | _ => .bad "load" [x]
def storeA (τ : Tab) (H : Heap) (t : TypeId) (x y : AV) (orc : List Orc) : Res :=
  match τ t with
  | none => .bad "store: type" []
  | some ty => if y.flatOk && y.flat.all AV.one && (y.flat.length == ty.size) then
      match x with
      | .op h off => match getH H h with
        | some (.box false e cs) => if Nat.ble (off + ty.size) cs.length then .ok (.v undef) [(h, some (.box false e (over cs off y.flat)))] orc [] else .bad "store: cells" [x]
        | _ => .bad "store: object" [x]
      | .rp h sz i off => match getH H h with
        | some (.row false e sz' es) => match orc with
          | .a e0 :: orc => if (sz == sz') && Nat.ble (off + ty.size) e0.flat.length then (match e0 with
              | .agg cs => .ok (.v undef) [(h, some (.row false e sz (es.set i (.agg (over cs off y.flat)))))] orc [es[i]? = some e0]
              | _ => if y.one then .ok (.v undef) [(h, some (.row false e sz (es.set i y)))] orc [es[i]? = some e0] else .bad "store: one" [y]) else .bad "store: size" [x]
          | _ => .bad "store: element?" (x :: es)
        | _ => .bad "store: object" [x]
      | _ => .bad "store" [x]
    else .bad "store: value" [y]
def boundsA (T : List AV) (lo hi : Option Operand) (n : Int) : Option (Int × Int) :=
  match (match lo with | none => some 0 | some x => (match evalA T x with | .v (.int _ l) => some l | _ => none)), (match hi with | none => some n | some x => (match evalA T x with | .v (.int _ h) => some h | _ => none)) with
  | some l, some h => some (l, h)
  | _, _ => none
def cutL (es : List AV) (l h : Int) : List AV := (es.take h.toNat).drop l.toNat
def sliceA (τ : Tab) (T : List AV) (H : Heap) (t : TypeId) (x : AV) (lo hi : Option Operand) (orc : List Orc) : Res :=
  match τ t with
  | none => .bad "slice: type" []
  | some ty => match ty.desc, x with
    | .string, .v (.string s) => match boundsA T lo hi s.size with
      | some (l, h) => .ok (.v (.string (s.extract l.toNat h.toNat))) [] orc [0 ≤ l ∧ l ≤ h ∧ h ≤ s.size]
      | none => .bad "slice: bounds" []
    | .slice elem, .lst sz es => match τ elem, boundsA T lo hi es.length with
      | some ety, some (l, h) => if ety.size == sz then .ok (.lst sz (cutL es l h)) [] orc [0 ≤ l ∧ l ≤ h ∧ h ≤ es.length] else .bad "slice: size" []
      | _, _ => .bad "slice: bounds" []
    | .slice elem, .own k => match getH H k with
      | some (.row fr e sz es) => match τ elem, boundsA T lo hi es.length with
        | some ety, some (l, h) => if ety.size == sz then .ok (.lst sz (cutL es l h)) [(k, some (AObj.row fr e sz es).freeze)] orc [0 ≤ l ∧ l ≤ h ∧ h ≤ es.length] else .bad "slice: size" []
        | _, _ => .bad "slice: bounds" []
      | _ => .bad "slice: object" [x]
    | .array n elem, .op k off => match getH H k with
      | some (.box fr e cs) => match τ elem, boundsA T lo hi n with
        | some ety, some (l, h) => if Nat.ble 1 ety.size && Nat.ble (off + n * ety.size) cs.length && (isRow ety.desc || (ety.size == 1 && cs.all AV.one)) then
            .ok (.lst ety.size (cutL (chunkA (isRow ety.desc) ety.size n (cs.drop off)) l h)) [(k, some (AObj.box fr e cs).freeze)] orc [0 ≤ l ∧ l ≤ h ∧ h ≤ n] else .bad "slice: size" []
        | _, _ => .bad "slice: bounds" []
      | _ => .bad "slice: object" [x]
    | _, _ => .bad "slice" [x]
def fieldAddrA (τ : Tab) (s : TypeId) (x : AV) (k : Nat) : Option AV :=
  match τ s with
  | some ty => match ty.desc with
    | .struct fields => match fields[k]? with
      | some f => match τ f.type with
        | some fty => if fty.size == 0 then none else match x with
          | .op h off => some (.op h (off + f.offset))
          | .rp h sz i off => some (.rp h sz i (off + f.offset))
          | .lp cs => some (.lp (cs.drop f.offset))
          | _ => none
        | none => none
      | none => none
    | _ => none
  | none => none
def fieldA (τ : Tab) (s : TypeId) (x : AV) (k : Nat) : Option AV :=
  match τ s with
  | some ty => match ty.desc with
    | .struct fields => match fields[k]?, x with
      | some f, .agg cs => match τ f.type with
        | some fty => takeAt (isRow fty.desc) fty.size f.offset cs
        | none => none
      | _, _ => none
    | _ => none
  | none => none
def plainOf : AV → AV
  | .ls us => .lst 1 (us.map .v)
  | .ps sz es => .lst sz (es.map rowAV)
  | x => x
def indexAddrA (τ : Tab) (H : Heap) (t : TypeId) (x i : AV) (orc : List Orc) : Res :=
  match τ t, i with
  | some ty, .v (.int _ n) => match ty.desc with
    | .array len elem => match τ elem with
      | some ety => match x with
        | .op h off => .ok (.op h (off + n.toNat * ety.size)) [] orc [0 ≤ n ∧ n < len]
        | .rp h sz j off => .ok (.rp h sz j (off + n.toNat * ety.size)) [] orc [0 ≤ n ∧ n < len]
        | .lp cs => .ok (.lp (cs.drop (n.toNat * ety.size))) [] orc [0 ≤ n ∧ n < len]
        | _ => .bad "indexAddr: array" [x]
      | none => .bad "indexAddr: type" []
    | .slice elem => match τ elem with
      | some ety => match plainOf x with
        | .lst sz es => if ety.size == sz then (match orc with
          | .a e :: orc => .ok (.lp e.flat) [] orc [0 ≤ n ∧ es[n.toNat]? = some e]
          | _ => .bad "indexAddr: element?" [x, i]) else .bad "indexAddr: size" []
        | .own h => match getH H h with
          | some (.row _ _ sz es) => if ety.size == sz then .ok (.rp h sz n.toNat 0) [] orc [0 ≤ n ∧ n < es.length] else .bad "indexAddr: size" []
          | _ => .bad "indexAddr: object" [x]
        | _ => .bad "indexAddr: slice" [x]
      | none => .bad "indexAddr: type" []
    | _ => .bad "indexAddr" [x]
  | _, _ => .bad "indexAddr: index" [x, i]
def indexA (τ : Tab) (t : TypeId) (x i : AV) (orc : List Orc) : Res :=
  match τ t, i with
  | some ty, .v (.int _ n) => match ty.desc, x with
    | .array len elem, .agg cs => match τ elem with
      | some ety => match takeAt (isRow ety.desc) ety.size (n.toNat * ety.size) cs with
        | some y => .ok y [] orc [0 ≤ n ∧ n < len]
        | none => .bad "index: cells" [x, i]
      | none => .bad "index: type" []
    | .string, .v (.string s) => .ok (.v (.int .u8 ((s.data.toList.getD n.toNat 0).toNat))) [] orc [0 ≤ n ∧ n < s.size]
    | _, _ => .bad "index" [x, i]
  | _, _ => .bad "index: index" [x, i]
def elemsA (H : Heap) (x : AV) : Option (Nat × List AV) := match plainOf x with
  | .lst sz es => some (sz, es)
  | .own h => match getH H h with
    | some (.row _ _ sz es) => some (sz, es)
    | _ => none
  | _ => none
def isNil : AV → Bool
  | .v (.slice none 0 0) => true
  | _ => false
def appendA (τ : Tab) (nh : Nat) (H : Heap) (t : TypeId) (x y : AV) (orc : List Orc) : Res :=
  match τ t with
  | some ty => match ty.desc with
    | .slice elem => match τ elem with
      | some ety =>
        if Nat.ble 1 ety.size && (ety.zero.cells.size == ety.size) then
          match (if isNil y then some (ety.size, []) else elemsA H y) with
          | some (sz, news) => if (sz == ety.size) && (flats news).all AV.one then
              (if isNil x then .ok (.own nh) [(nh, some (.row false elem sz news))] orc [news.length ≤ maxLen ∧ news.length * ety.bytes ≤ 140737488355328]
              else match x with
                | .own h => match getH H h with
                  | some (.row false e sz' es) => if (e == elem) && (sz' == sz) then .ok (.own nh) [(h, none), (nh, some (.row false elem sz (es ++ news)))] orc [es.length + news.length ≤ maxLen ∧ (es.length + news.length) * ety.bytes ≤ 140737488355328] else .bad "append: type" [x]
                  | _ => .bad "append: object" [x]
                | _ => .bad "append: to" [x]) else .bad "append: cells" news
          | none => .bad "append: what" [y]
        else .bad "append: size" []
      | none => .bad "append: elem" []
    | _ => .bad "append: slice" []
  | none => .bad "append: type" []
def lenA (H : Heap) (d : TypeDesc) (x : AV) : Option Int :=
  match d with
  | .string => match x with
    | .v (.string s) => some s.size
    | _ => none
  | .array n _ => some n
  | .map _ _ => match x with
    | .mp h => match getH H h with
      | some (.map _ es) => some es.length
      | _ => none
    | .mv es => some es.length
    | _ => none
  | .slice _ => match x with
    | .v (.slice _ n _) => some n
    | x => match elemsA H x with
      | some (_, es) => some es.length
      | none => none
  | _ => none
def freezeAll : Heap → List Nat → Upd
  | _, [] => []
  | H, h :: hs => match getH H h with
    | some o => (h, some o.freeze) :: freezeAll (setAt H h (some o.freeze)) hs
    | none => freezeAll H hs
def noAux (H : Heap) : List Nat → Bool
  | [] => true
  | h :: hs => (match getH H h with
    | some o => !o.isAux
    | none => true) && noAux H hs
def callA (P : Program) (nh : Nat) (H : Heap) (f : FuncId) (args : List AV) (orc : List Orc) : Res :=
  match lookL (look H 9) args with
  | some ys => match orc with
    | .a r :: orc => if hf 9 r && noAux H (args.flatMap (handles H 9)) then .ok r (if mem 9 r then freezeAll H (args.flatMap (handles H 9)).eraseDups else []) orc [CallsTo P f ys r] else .bad "call: result" [r]
    | .o e sz es :: orc => if es.all (hf 9) && Nat.ble 1 sz && noAux H (args.flatMap (handles H 9)) then .ok (.own nh) ((if es.any (mem 9) then freezeAll H (args.flatMap (handles H 9)).eraseDups else []) ++ [(nh, some (.row false e sz es))]) orc [CallsOwn P f ys e sz es, ∀ x ∈ es, x.flat.length = sz] else .bad "call: own result" es
    | _ => .bad "call?" (.fn f [] :: ys)
  | none => .bad "call: arguments" args
def makeA (τ : Tab) (nh : Nat) (t : TypeId) (n c : AV) (orc : List Orc) : Res :=
  match τ t, n, c with
  | some ty, .v (.int _ l), .v (.int _ m) => match ty.desc with
    | .slice elem => match τ elem with
      | some ety => if Nat.ble 1 ety.size && (ety.zero.cells.size == ety.size) && (isRow ety.desc || ety.size == 1) && (zeroA ety).all AV.one then
          .ok (.own nh) [(nh, some (.row false elem ety.size (List.replicate l.toNat (if isRow ety.desc then .agg (zeroA ety) else (zeroA ety).headD .any))))] orc [0 ≤ l ∧ l ≤ m ∧ m ≤ 9223372036854775807 ∧ m * ety.bytes ≤ 281474976710656] else .bad "make: size" []
      | none => .bad "make: elem" []
    | _ => .bad "make: slice" []
  | _, _, _ => .bad "make" [n, c]
def PureOp (P : Program) (o : Oper) (T : List AV) (r : AV) : Prop :=
  ∀ (E : Env) (ρ : Operand → Value), (∀ x ∈ o.op.operands, Rep E (evalA T x) (ρ x)) → ∃ u, (execOp ρ o).run P E.w = .ok (.value u) E.w ∧ Rep E r u
def pureKind (T : List AV) : Op → Bool
  | .binOp op _ x y _ => (binA op (evalA T x) (evalA T y)).isNone
  | _ => false
def opB (P : Program) (τ : Tab) (nh : Nat) (T : List AV) (H : Heap) (o : Oper) (orc : List Orc) : Res :=
  match o.op with
  | .move x => .ok (evalA T x) [] orc []
  | .assign x => .ok (evalA T x) [] orc []
  | .pick c x y => match evalA T c, orc with
    | .v (.bool cb), .b true :: orc => .ok (evalA T x) [] orc [cb = true]
    | .v (.bool cb), .b false :: orc => .ok (evalA T y) [] orc [cb = false]
    | v, _ => .bad "pick?" [v]
  | .alloc e => match τ e with
    | some ty => .ok (.op nh 0) [(nh, some (.box false e (zeroA ty)))] orc []
    | none => .bad "alloc: type" []
  | .box e x => if (evalA T x).flatOk then .ok (.op nh 0) [(nh, some (.box false e (evalA T x).flat))] orc [] else .bad "box" [evalA T x]
  | .build t ps => match buildA τ T t ps with
    | some y => .ok y [] orc []
    | none => .bad "build" ((partsA T ps).map (·.2))
  | .buildSlice t len ps => match buildSliceA τ T t len ps with
    | some (elem, sz, es) => .ok (.own nh) [(nh, some (.row false elem sz es))] orc []
    | none => .bad "buildSlice" ((partsA T ps).map (·.2))
  | .load t x => loadA τ H t (evalA T x) orc
  | .store t x y => storeA τ H t (evalA T x) (evalA T y) orc
  | .nilCheck x => match evalA T x with
    | .op h off => .ok (.op h off) [] orc []
    | .lp cs => .ok (.lp cs) [] orc []
    | .rp h sz i off => .ok (.rp h sz i off) [] orc []
    | .fn f cap => .ok (.fn f cap) [] orc []
    | v => .bad "nilCheck" [v]
  | .binOp op _ x y _ => match binA op (evalA T x) (evalA T y) with
    | some (v, cs) => .ok v [] orc cs
    | none => .bad "binOp?" [evalA T x, evalA T y]
  | .unOp op _ x => match op, evalA T x with
    | .not, .v (.bool c) => .ok (.v (.bool (!c))) [] orc []
    | .neg, .v (.int k n) => .ok (.v (.int k (-n))) [] orc [k.wrap (0 - n) = -n]
    | _, v => .bad "unOp" [v]
  | .convert s d x => match τ s, τ d with
    | some _, some dy => match dy.desc, evalA T x with
      | .int k, .v (.int _ n) => .ok (.v (.int k n)) [] orc [k.wrap n = n]
      | .string, .v (.string s) => .ok (.v (.string s)) [] orc []
      | _, v => .bad "convert" [v]
    | _, _ => .bad "convert: type" []
  | .makeFunc (.func f) first cap => if first.isEmpty then .ok (.fn f (cap.toList.map (evalA T))) [] orc [] else .bad "makeFunc" []
  | .makeSlice t l c => makeA τ nh t (evalA T l) (evalA T c) orc
  | .slice t x lo hi none => sliceA τ T H t (evalA T x) lo hi orc
  | .fieldAddr s x k => match fieldAddrA τ s (evalA T x) k with
    | some y => .ok y [] orc []
    | none => .bad "fieldAddr" [evalA T x]
  | .field s x k => match fieldA τ s (evalA T x) k with
    | some y => .ok y [] orc []
    | none => .bad "field" [evalA T x]
  | .indexAddr t x i => indexAddrA τ H t (evalA T x) (evalA T i) orc
  | .index t x i => indexA τ t (evalA T x) (evalA T i) orc
  | .extract x i => match evalA T x with
    | .tup vs => match vs[i]? with
      | some y => .ok y [] orc []
      | none => .bad "extract" vs
    | v => .bad "extract: tuple" [v]
  | .call ⟨.value fo, args, _⟩ => match evalA T fo with
    | .fn f cap => callA P nh H f (args.toList.map (evalA T) ++ cap) orc
    | v => .bad "call: value" [v]
  | .call ⟨.builtin .len, args, ts⟩ => match args.toList, ts.toList with
    | [x], [t] => match τ t with
      | some ty => match lenA H ty.desc (evalA T x) with
        | some n => .ok (.v (.int .i64 n)) [] orc []
        | none => .bad "len" [evalA T x]
      | none => .bad "len: type" []
    | _, _ => .bad "len: arguments" []
  | .call ⟨.builtin .append, args, ts⟩ => match args.toList, ts.toList with
    | [x, y], [t, t'] => if t == t' then appendA τ nh H t (evalA T x) (evalA T y) orc else .bad "append: types" []
    | _, _ => .bad "append: arguments" []
  | .call ⟨.builtin .min, args, _⟩ => match args.toList with
    | [x, y] => match evalA T x, evalA T y with
      | .v (.int k a), .v (.int _ b) => .ok (.v (.int k (if b < a then b else a))) [] orc []
      | v, u => .bad "min" [v, u]
    | _ => .bad "min: arguments" []
  | .call ⟨.builtin .max, args, _⟩ => match args.toList with
    | [x, y] => match evalA T x, evalA T y with
      | .v (.int k a), .v (.int _ b) => .ok (.v (.int k (if b > a then b else a))) [] orc []
      | v, u => .bad "max" [v, u]
    | _ => .bad "max: arguments" []
  | _ => .bad "op" []
def opA (P : Program) (τ : Tab) (nh : Nat) (T : List AV) (H : Heap) (o : Oper) (orc : List Orc) : Res :=
  match orc with
  | .x r :: orc' => if pureKind T o.op then .ok r [] orc' [PureOp P o T r] else opB P τ nh T H o orc
  | _ => opB P τ nh T H o orc
def applyU : Heap → Upd → Heap
  | H, [] => H
  | H, (k, o) :: rest => applyU (setAt H k o) rest
end Go.Flow
namespace Go.Flow
open Go Go.RowKit
variable {P : Program} {τ : Tab} {B : Nat} {S0 : Nat → Prop} {w0 : World} {α : Nat → Option Value} {T : List AV} {H : Heap} {a : Act} {w : World} {nh : Nat}
theorem repL_vs (E : Env) : ∀ l : List Value, RepL E (l.map .v) l
  | [] => .nil
  | x :: l => .cons _ _ _ _ (.v x) (repL_vs E l)
theorem rep_const (E : Env) (x : Value) : Rep E (constA x) x := by
  cases x <;> first | exact .v _ | skip
  rename_i cs
  exact .agg _ _ (repL_vs E cs.toList)
theorem Sim.eval (s : Sim B S0 w0 α T H a w) (x : Operand) : Rep (envOf B S0 α H w) (evalA T x) (a.eval x) := by
  cases x with
  | tmp t =>
    simp only [evalA, Act.eval]
    cases ht : T[t]? with
    | none =>
      have hl := s.tmps.length
      have : a.tmps[t]? = none := by
        rw [List.getElem?_eq_none_iff] at ht
        rw [Array.getElem?_eq_none_iff]
        simp at hl
        omega
      simp [Array.getD_eq_getD_getElem?, this]
      exact .v _
    | some y =>
      obtain ⟨u, hu, hr⟩ := s.tmps.get ht
      have : a.tmps[t]? = some u := by simpa using hu
      simp [Array.getD_eq_getD_getElem?, this]
      exact hr
  | const v => exact rep_const _ v
  | global g => exact .v _
  | func f => exact .fn f [] [] .nil
theorem Sim.evalL (s : Sim B S0 w0 α T H a w) : ∀ l : List Operand, RepL (envOf B S0 α H w) (l.map (evalA T)) (l.map a.eval)
  | [] => .nil
  | x :: l => .cons _ _ _ _ (s.eval x) (s.evalL l)
section
variable {E : Env}
theorem Rep.inv_v {x u : Value} (h : Rep E (.v x) u) : u = x := by cases h; rfl
theorem Rep.inv_agg {cs : List AV} {u : Value} (h : Rep E (.agg cs) u) : ∃ us, u = .agg us.toArray ∧ RepL E cs us := by cases h; exact ⟨_, rfl, ‹_›⟩
theorem Rep.inv_tup {cs : List AV} {u : Value} (h : Rep E (.tup cs) u) : ∃ us, u = .tuple us.toArray ∧ RepL E cs us := by cases h; exact ⟨_, rfl, ‹_›⟩
theorem Rep.inv_fn {f : FuncId} {cs : List AV} {u : Value} (h : Rep E (.fn f cs) u) : ∃ us, u = .func (.func f) #[] us.toArray ∧ RepL E cs us := by cases h; exact ⟨_, rfl, ‹_›⟩
theorem Rep.inv_op {k off : Nat} {u : Value} (h : Rep E (.op k off) u) : ∃ b, E.α k = some (.pointer (some ⟨b, 0, none⟩)) ∧ u = .pointer (some ⟨b, off, none⟩) := by cases h; exact ⟨_, ‹_›, rfl⟩
theorem Rep.inv_rp {k sz i off : Nat} {u : Value} (h : Rep E (.rp k sz i off) u) : ∃ b n c, E.α k = some (.slice (some ⟨b, 0, none⟩) n c) ∧ u = .pointer (some ⟨b, i * sz + off, none⟩) := by cases h; exact ⟨_, _, _, ‹_›, rfl⟩
theorem Rep.inv_mx {arr : Array MapEntry} {clock : Nat} {u : Value} (h : Rep E (.mx arr clock) u) : ∃ b, u = .map (some b) ∧ E.S b ∧ E.w.heap[b]? = some (.map arr clock) := by cases h; exact ⟨_, rfl, ‹_›, ‹_›⟩
theorem Rep.inv_mv {es : List (Value × Value)} {u : Value} (h : Rep E (.mv es) u) : ∃ b arr clock, u = .map (some b) ∧ E.S b ∧ E.w.heap[b]? = some (.map arr clock) ∧ MapIs es arr clock := by cases h; exact ⟨_, _, _, rfl, ‹_›, ‹_›, ‹_›⟩
theorem Rep.inv_mp {k : Nat} {u : Value} (h : Rep E (.mp k) u) : ∃ r, E.α k = some (.map r) ∧ u = .map r := by cases h; exact ⟨_, ‹_›, rfl⟩
theorem Rep.inv_own {k : Nat} {u : Value} (h : Rep E (.own k) u) : ∃ b n c, E.α k = some (.slice b n c) ∧ u = .slice b n c := by cases h; exact ⟨_, _, _, ‹_›, rfl⟩
theorem Rep.inv_lp {cs : List AV} {u : Value} (h : Rep E (.lp cs) u) : ∃ ad us, u = .pointer (some ad) ∧ E.S ad.block ∧ RepL E cs us ∧ ∀ (j : Nat) (u : Value), us[j]? = some u → E.w.cell? (ad.add j) = some u := by
  cases h; exact ⟨_, _, rfl, ‹_›, ‹_›, ‹_›⟩
theorem Rep.inv_lst {sz : Nat} {es : List AV} {u : Value} (h : Rep E (.lst sz es) u) : ∃ a c, u = .slice a es.length c ∧ (es = [] ∨ (es.length ≤ c ∧ ∃ ad us, a = some ad ∧ E.S ad.block ∧ RepL E (flats es) us ∧
    (∀ e ∈ es, e.flat.length = sz) ∧ ∀ (j : Nat) (u : Value), us[j]? = some u → E.w.cell? (ad.add j) = some u)) := by
  cases h with
  | lst0 sz a c => exact ⟨a, c, rfl, .inl rfl⟩
  | lst sz es ad n c us hn hc hs hz hr hw => subst hn; exact ⟨some ad, c, rfl, .inr ⟨hc, ad, us, rfl, hs, hr, hz, hw⟩⟩
theorem flats_v : ∀ us : List Value, flats (us.map .v) = us.map .v
  | [] => rfl
  | _ :: us => by simp only [List.map_cons, flats, flats_v us]; rfl
theorem repL_plain (E : Env) : ∀ us : List Value, RepL E (us.map .v) us
  | [] => .nil
  | u :: us => .cons _ _ _ _ (.v u) (repL_plain E us)
theorem repL_v_eq : ∀ {xs us : List Value}, RepL E (xs.map .v) us → us = xs
  | [], us, h => by cases h; rfl
  | x :: xs, us, h => by
    cases h with
    | cons _ u _ us hx hxs => rw [repL_v_eq hxs, hx.inv_v]
theorem Rep.inv_ls {us : List Value} {u : Value} (h : Rep E (.ls us) u) : Rep E (.lst 1 (us.map .v)) u := by cases h; assumption
theorem Rep.inv_ls' {us : List Value} {u : Value} (h : Rep E (.ls us) u) : ∃ a c, u = .slice a us.length c := by
  obtain ⟨a, c, h1, _⟩ := h.inv_ls.inv_lst
  exact ⟨a, c, by rw [h1, List.length_map]⟩
theorem Rep.ls_env {E' : Env} (hS : ∀ b, E.S b → E'.S b) (hw : E'.w = E.w) {us : List Value} {u : Value} (h : Rep E (.ls us) u) : Rep E' (.ls us) u := by
  refine .ls _ _ ?_
  have h := h.inv_ls
  generalize hes : us.map AV.v = es at h
  cases h with
  | lst0 sz a c => exact .lst0 _ _ _
  | lst sz es ad n c vs hn hc hs hz hr hwc =>
    subst hes
    have : vs = us := by rw [flats_v] at hr; exact repL_v_eq hr
    subst this
    exact .lst _ _ _ _ _ vs hn hc (hS _ hs) hz (by rw [flats_v]; exact repL_plain _ vs) (by rw [hw]; exact hwc)
theorem Rep.inv_ps {sz : Nat} {es : List (List Value)} {u : Value} (h : Rep E (.ps sz es) u) : Rep E (.lst sz (es.map rowAV)) u := by cases h; assumption
theorem flats_rows : ∀ es : List (List Value), flats (es.map rowAV) = es.flatten.map .v
  | [] => rfl
  | r :: es => by simp only [List.map_cons, flats, flats_rows es, List.flatten_cons, List.map_append]; rfl
theorem Rep.ps_env {E' : Env} (hS : ∀ b, E.S b → E'.S b) (hw : E'.w = E.w) {sz : Nat} {es : List (List Value)} {u : Value} (h : Rep E (.ps sz es) u) : Rep E' (.ps sz es) u := by
  refine .ps _ _ _ ?_
  have h := h.inv_ps
  generalize hes : es.map rowAV = rs at h
  cases h with
  | lst0 sz a c => exact .lst0 _ _ _
  | lst sz rs ad n c vs hn hc hs hz hr hwc =>
    subst hes
    have : vs = es.flatten := by rw [flats_rows] at hr; exact repL_v_eq hr
    subst this
    exact .lst _ _ _ _ _ es.flatten hn hc (hS _ hs) hz (by rw [flats_rows]; exact repL_plain _ _) (by rw [hw]; exact hwc)
theorem plainOf_rep {x : AV} {u : Value} (h : Rep E x u) : Rep E (plainOf x) u := by
  cases x with
  | ls us => exact h.inv_ls
  | ps sz es => exact h.inv_ps
  | _ => exact h
theorem Rep.one {x : AV} {u : Value} (h : Rep E x u) (h1 : x.one = true) : u.oneCell' = true := by
  cases x with
  | ls us => obtain ⟨_, _, e⟩ := h.inv_ls'; subst e; rfl
  | ps sz es => obtain ⟨_, _, e, _⟩ := h.inv_ps.inv_lst; subst e; rfl
  | _ => cases h <;> first | rfl | exact h1 | (simp [AV.one] at h1)
theorem Rep.one_cells {x : AV} {u : Value} (h : Rep E x u) (h1 : x.one = true) : x.flat = [x] ∧ u.cells = #[u] := by
  cases x with
  | ls us => obtain ⟨_, _, e⟩ := h.inv_ls'; subst e; exact ⟨rfl, rfl⟩
  | ps sz es => obtain ⟨_, _, e, _⟩ := h.inv_ps.inv_lst; subst e; exact ⟨rfl, rfl⟩
  | v y =>
    cases h
    simp [AV.one, Value.oneCell'] at h1
    refine ⟨rfl, ?_⟩
    unfold Value.cells
    split <;> simp_all
  | _ => cases h <;> simp [AV.one, Value.oneCell'] at h1 <;> exact ⟨rfl, rfl⟩
theorem Rep.flat {x : AV} {u : Value} (h : Rep E x u) (h1 : x.flatOk = true) : RepL E x.flat u.cells.toList := by
  by_cases ha : ∃ cs, x = .agg cs
  · obtain ⟨cs, rfl⟩ := ha
    obtain ⟨us, rfl, hr⟩ := h.inv_agg
    simpa [AV.flat, Value.cells] using hr
  · have h2 : x.one = true := by cases x <;> simp_all [AV.flatOk]
    obtain ⟨e1, e2⟩ := h.one_cells h2
    rw [e1, e2]
    exact .cons _ _ _ _ h .nil
theorem RepL.ones : ∀ {xs : List AV} {us : List Value}, RepL E xs us → xs.all AV.one = true → ∀ u ∈ us, u.oneCell' = true
  | _, _, .nil, _, u, hu => by simp at hu
  | _, _, .cons x v xs us hx hxs, h, u, hu => by
    simp only [List.all_cons, Bool.and_eq_true] at h
    rcases List.mem_cons.1 hu with rfl | hu
    · exact hx.one h.1
    · exact hxs.ones h.2 u hu
end
def Stepped (P : Program) (B : Nat) (S0 : Nat → Prop) (w0 : World) (α : Nat → Option Value) (T : List AV) (a : Act) (w : World) (nh : Nat) (o : Oper) (v : AV) (H' : Heap) : Prop :=
  ∀ (K : Act → World → Prop) (Q : Exit → Act → World → Prop),
    (∀ (α' : Nat → Option Value) (w' : World) (u : Value), Sim B S0 w0 α' T H' a w' → (∀ k, (k ≠ nh ∨ H'.length ≤ k) → α' k = α k) → Rep (envOf B S0 α' H' w') v u → K (a.put o.dst u) w') → o.wp P a w K Q
theorem setAt_gt : ∀ (X : Heap) (k : Nat) (o : Option AObj), k < (setAt X k o).length
  | [], 0, _ => by simp [setAt]
  | [], k + 1, o => by simpa [setAt] using setAt_gt [] k o
  | _ :: _, 0, _ => by simp [setAt]
  | _ :: xs, k + 1, o => by simpa [setAt] using setAt_gt xs k o
theorem fr_new {X : Heap} {o : Option AObj} {v : Value} : ∀ k, (k ≠ nh ∨ (setAt X nh o).length ≤ k) → updα α nh v k = α k := fun k h =>
  updα_other _ _ (h.elim id fun h => by have := setAt_gt X nh o; omega)
theorem stepped_value {o : Oper} {v : AV} {H' : Heap} {α' : Nat → Option Value} {w' : World} {u : Value} (hrun : (execOp a.eval o).run P w = .ok (.value u) w') (s : Sim B S0 w0 α' T H' a w')
    (hα : ∀ k, (k ≠ nh ∨ H'.length ≤ k) → α' k = α k) (hr : Rep (envOf B S0 α' H' w') v u) : Stepped P B S0 w0 α T a w nh o v H' := by
  intro K Q h
  unfold Oper.wp
  rw [hrun]
  exact h α' w' u s hα hr
theorem stepped_skip {o : Oper} {H' : Heap} {α' : Nat → Option Value} {w' : World} (hrun : (execOp a.eval o).run P w = .ok .skip w') (s : Sim B S0 w0 α' T H' a w')
    (hα : ∀ k, (k ≠ nh ∨ H'.length ≤ k) → α' k = α k) : Stepped P B S0 w0 α T a w nh o (.v undef) H' := by
  intro K Q h
  unfold Oper.wp
  rw [hrun]
  exact h α' w' undef s hα (.v _)
theorem stepped_pure {o : Oper} {v : AV} {u : Value} (s : Sim B S0 w0 α T H a w) (hrun : (execOp a.eval o).run P w = .ok (.value u) w) (hr : Rep (envOf B S0 α H w) v u) : Stepped P B S0 w0 α T a w nh o v H :=
  stepped_value hrun s (fun _ _ => rfl) hr
theorem run_v {o : Oper} {op : Op} {e : Sem Value} {u : Value} {w' : World} (_ho : o.op = op) (he : execOp a.eval o = (do pure (.value (← e)))) (hr : e.run P w = .ok u w') : (execOp a.eval o).run P w = .ok (.value u) w' := by
  rw [he]
  simp [hr]
end Go.Flow
namespace Go.Flow
open Go Go.RowKit
variable {P : Program} {τ : Tab} {B : Nat} {S0 : Nat → Prop} {w0 : World} {α : Nat → Option Value} {T : List AV} {H : Heap} {a : Act} {w : World} {nh : Nat}
theorem Fits.info (hτ : Fits P τ) {t : TypeId} {ty : ATy} (h : τ t = some ty) : ∃ i, P.info? t = some i ∧ i.size = ty.size ∧ i.bytes = ty.bytes ∧ i.zero = some ty.zero := by
  obtain ⟨i, h1, h2, h3, h4, _⟩ := hτ t ty h
  exact ⟨i, h1, h2, h3, h4⟩
theorem Fits.und (hτ : Fits P τ) {t : TypeId} {ty : ATy} (h : τ t = some ty) : P.underlying t = some ty.desc := by
  obtain ⟨i, _, _, _, _, h5⟩ := hτ t ty h
  exact h5
theorem Fits.run_size (hτ : Fits P τ) {t : TypeId} {ty : ATy} (h : τ t = some ty) (w : World) : (sizeOf t).run P w = .ok ty.size w := by
  obtain ⟨i, h1, h2, _⟩ := hτ.info h
  simp [sizeOf, typeInfo, h1, h2]
theorem Fits.run_zero (hτ : Fits P τ) {t : TypeId} {ty : ATy} (h : τ t = some ty) (w : World) : (zeroValue t).run P w = .ok ty.zero w := by
  obtain ⟨i, h1, _, _, h4⟩ := hτ.info h
  simp [zeroValue, typeInfo, h1, h4]
theorem Fits.run_und (hτ : Fits P τ) {t : TypeId} {ty : ATy} (h : τ t = some ty) (w : World) : (underlying t).run P w = .ok ty.desc w := run_underlying (hτ.und h) w
theorem Fits.run_agg (hτ : Fits P τ) {t : TypeId} {ty : ATy} (h : τ t = some ty) (w : World) : (isAgg t).run P w = .ok (isRow ty.desc) w := by
  simp only [isAgg, Sem.run_bind, hτ.run_und h, Result.andThen_ok]
  cases ty.desc <;> rfl
theorem take_drop_get {β : Type} (l : List β) (off n j : Nat) (u : β) (h : ((l.drop off).take n)[j]? = some u) : l[off + j]? = some u := by
  rw [List.getElem?_take] at h
  split at h
  · simpa using h
  · cases h
theorem run_loadVar_cells (hτ : Fits P τ) {t : TypeId} {ty : ATy} (ht : τ t = some ty) {E : Env} {ad : Addr} {cs : List AV} {us : List Value} {off : Nat} {y : AV} (hr : RepL E cs us)
    (hw : ∀ (j : Nat) (u : Value), us[j]? = some u → E.w.cell? (ad.add j) = some u) (hy : takeAt (isRow ty.desc) ty.size off cs = some y) :
    ∃ u, (loadVar t (ad.add off)).run P E.w = .ok u E.w ∧ Rep E y u := by
  have hadd : ∀ j, (ad.add off).add j = ad.add (off + j) := fun j => by
    unfold Addr.add
    by_cases h1 : off = 0 <;> by_cases h2 : j = 0 <;> simp [h1, h2, Nat.add_assoc]
  unfold takeAt at hy
  simp only [loadVar, Sem.run_bind, hτ.run_agg ht, Result.andThen_ok]
  cases hd : isRow ty.desc with
  | true =>
    simp only [hd, if_true] at hy
    split at hy
    · rename_i hle
      cases hy
      have hl := hr.length
      have hlen : ((us.drop off).take ty.size).length = ty.size := by simp; omega
      have h1 := run_loadCells_list (P := P) E.w (ad.add off) ((us.drop off).take ty.size) (fun j v hv => by
        rw [hadd]
        exact hw _ _ (take_drop_get us off ty.size j v hv))
      rw [hlen] at h1
      refine ⟨.agg ((us.drop off).take ty.size).toArray, ?_, .agg _ _ ((hr.drop off).take ty.size)⟩
      simp [hτ.run_size ht, h1]
    · cases hy
  | false =>
    simp only [hd, Bool.false_eq_true, if_false] at hy
    obtain ⟨u, hu, hru⟩ := hr.get hy
    refine ⟨u, ?_, hru⟩
    have := hw off u hu
    simp [load, Sem.run, this]
theorem load_core (hτ : Fits P τ) (s : Sim B S0 w0 α T H a w) {t : TypeId} {x : AV} {q : Value} (hx : Rep (envOf B S0 α H w) x q) {orc orc' : List Orc} {v : AV} {upd : Upd} {cs : List Prop}
    (h : loadA τ H t x orc = .ok v upd orc' cs) (hc : ∀ c ∈ cs, c) : upd = [] ∧ ∃ ad u, q = .pointer (some ad) ∧ (loadVar t ad).run P w = .ok u w ∧ Rep (envOf B S0 α H w) v u := by
  have key : ∀ {ad : Addr} {u : Value}, q = .pointer (some ad) → (loadVar t ad).run P w = .ok u w → Rep (envOf B S0 α H w) v u → ([] : Upd) = [] ∧ ∃ ad u, q = .pointer (some ad) ∧ (loadVar t ad).run P w = .ok u w ∧ Rep (envOf B S0 α H w) v u := fun {ad u} he hl hr =>
    ⟨rfl, ad, u, he, hl, hr⟩
  unfold loadA at h
  split at h
  · cases h
  rename_i ty hty
  split at h
  ·
    rename_i k off
    obtain ⟨b, hα, hu⟩ := hx.inv_op
    split at h
    · rename_i fr e bs ho'
      obtain ⟨b', us, h1, h2, h3, h4⟩ := s.objs _ _ ho'
      have hbb : b = b' := by
        have := hα.symm.trans h1
        cases this
        rfl
      subst hbb
      split at h
      · rename_i y hy
        cases h
        have hadd : ∀ j, (⟨b, 0, none⟩ : Addr).add j = ⟨b, j, none⟩ := fun j => by unfold Addr.add; split <;> simp_all
        obtain ⟨u, hl, hr⟩ := run_loadVar_cells hτ hty (ad := ⟨b, 0, none⟩) (off := off) h4 (fun j u hj => by rw [hadd, cell_of_row _ b j us.toArray e (0, 0) h3]; simpa using hj) hy
        rw [hadd] at hl
        exact key hu hl hr
      · cases h
    · cases h
  · rename_i bs
    obtain ⟨ad, us, hu, hs, hr, hw⟩ := hx.inv_lp
    split at h
    · rename_i y hy
      cases h
      obtain ⟨u, hl, hru⟩ := run_loadVar_cells hτ hty (off := 0) hr hw hy
      exact key hu hl hru
    · cases h
  · rename_i k sz i off
    obtain ⟨b, n, c, hα, hu⟩ := hx.inv_rp
    split at h
    · rename_i fr e sz' es ho'
      obtain ⟨v0, xs, h1, h2, h3, h4, h5⟩ := s.objs _ _ ho'
      split at h
      · rename_i el orc1
        split at h
        · rename_i hsz
          split at h
          · rename_i y hy
            cases h
            have hsz' : sz = sz' := by simpa using hsz
            subst hsz'
            have hel : es[i]? = some el := hc _ (by simp)
            obtain ⟨pre, post, hf, hpl⟩ := flats_at h4 hel
            have hv0 : v0 = .slice (some ⟨b, 0, none⟩) n c := by
              have := h1.symm.trans hα
              cases this
              rfl
            subst hv0
            rw [hf] at h3
            obtain ⟨us1, us2, hus, hr1, _⟩ := h3.split
            obtain ⟨us0, us3, hus', hr0, hr3⟩ := hr1.split
            have hpl' : us0.length = i * sz := by rw [hr0.length, hpl]
            have hcell := h2.cells (g := b) rfl
            have hadd : ∀ j k : Nat, (⟨b, j, none⟩ : Addr).add k = ⟨b, j + k, none⟩ := fun j k => by unfold Addr.add; split <;> simp_all
            obtain ⟨u, hl, hru⟩ := run_loadVar_cells hτ hty (ad := ⟨b, i * sz, none⟩) (off := off) (E := envOf B S0 α H w) hr3 (fun j u hj => by
              have := hcell (i * sz + j) u (by
                rw [hus, hus']
                obtain ⟨hjl, _⟩ := List.getElem?_eq_some_iff.1 hj
                rw [List.getElem?_append_left (by simp; omega), List.getElem?_append_right (by omega)]
                rw [hpl']
                simpa using hj)
              rw [hadd] at this ⊢
              simpa using this) hy
            rw [hadd] at hl
            exact key hu hl hru
          · cases h
        · cases h
      · cases h
    · cases h
  · cases h
theorem load_sound (hτ : Fits P τ) (s : Sim B S0 w0 α T H a w) {o : Oper} {t : TypeId} {x : Operand} (ho : o.op = .load t x) {orc orc' : List Orc} {v : AV} {upd : Upd} {cs : List Prop}
    (h : loadA τ H t (evalA T x) orc = .ok v upd orc' cs) (hc : ∀ c ∈ cs, c) : Stepped P B S0 w0 α T a w nh o v (applyU H upd) := by
  obtain ⟨rfl, ad, u, he, hl, hr⟩ := load_core hτ s (s.eval x) h hc
  exact stepped_pure s (run_v ho (by simp [execOp, ho]; rfl) (by simp [Instr.loadAt, Instr.sureAddr, he, hl])) hr
end Go.Flow
namespace Go.Flow
open Go Go.RowKit
variable {P : Program} {τ : Tab} {B : Nat} {S0 : Nat → Prop} {w0 : World} {α : Nat → Option Value} {T : List AV} {H : Heap} {a : Act} {w : World} {nh : Nat}
theorem repL_over {E : Env} {cs : List AV} {us : List Value} (hr : RepL E cs us) (off : Nat) {ys : List AV} {vs : List Value} (hy : RepL E ys vs) :
    RepL E (over cs off ys) (us.take off ++ vs ++ us.drop (off + vs.length)) := by
  unfold over
  rw [hy.length]
  exact ((hr.take off).append hy).append (hr.drop _)
theorem over_length {cs : List AV} {off : Nat} {ys : List AV} (h : off + ys.length ≤ cs.length) : (over cs off ys).length = cs.length := by
  simp [over]
  omega
theorem flats_set {sz : Nat} : ∀ {es : List AV} {i : Nat} {e : AV}, (∀ x ∈ es, x.flat.length = sz) → es[i]? = some e → ∀ e' : AV, e'.flat.length = sz →
    flats (es.set i e') = (flats es).take (i * sz) ++ e'.flat ++ (flats es).drop (i * sz + sz)
  | [], _, _, _, h, _, _ => by simp at h
  | x :: xs, 0, e, hz, h, e', he' => by
    cases h
    simp [flats, hz x (by simp)]
  | x :: xs, i + 1, e, hz, h, e', he' => by
    have ih := flats_set (es := xs) (i := i) (e := e) (fun y hy => hz y (List.mem_cons_of_mem _ hy)) (by simpa using h) e' he'
    have hx := hz x (by simp)
    simp only [List.set_cons_succ, flats, ih]
    have e1 : (i + 1) * sz = x.flat.length + i * sz := by rw [hx, Nat.add_mul]; omega
    rw [e1, List.take_length_add_append, Nat.add_assoc, List.drop_length_add_append]
    simp
theorem store_sound (hτ : Fits P τ) (s : Sim B S0 w0 α T H a w) {o : Oper} {t : TypeId} {x y : Operand} (ho : o.op = .store t x y) {orc orc' : List Orc} {v : AV} {upd : Upd} {cs : List Prop}
    (h : storeA τ H t (evalA T x) (evalA T y) orc = .ok v upd orc' cs) (hc : ∀ c ∈ cs, c) : Stepped P B S0 w0 α T a w nh o v (applyU H upd) := by
  have hx := s.eval x
  have hy := s.eval y
  generalize hyv : evalA T y = yv at *
  unfold storeA at h
  split at h
  · cases h
  rename_i ty hty
  split at h
  rotate_left
  · cases h
  rename_i hcond
  simp only [Bool.and_eq_true, beq_iff_eq] at hcond
  obtain ⟨⟨hok, hone⟩, hlen⟩ := hcond
  have hflat := hy.flat hok
  have hcl : (a.eval y).cells.toList.length = ty.size := by rw [hflat.length, hlen]
  have hcs : (a.eval y).cells.size = ty.size := by simpa using hcl
  have hones := hflat.ones hone
  have run : ∀ {b off : Nat} {cur : Array Value} {e : TypeId}, a.eval x = .pointer (some ⟨b, off, none⟩) → w.heap[b]? = some (.cells cur e (0, 0)) → off + ty.size ≤ cur.size →
      (execOp a.eval o).run P w = .ok .skip (w.setRow b (cur.toList.take off ++ (a.eval y).cells.toList ++ cur.toList.drop (off + (a.eval y).cells.toList.length)).toArray) := fun {b off cur e} he hb hfit => by
    have hst := run_storeCells_at P b off e (a.eval y).cells.toList 0 cur w hb (by omega) hones
    simp only [Nat.add_zero] at hst
    have hsz := hτ.run_size hty w
    simp [execOp, ho, Instr.storeAt, Instr.sureAddr, he, storeVar, hsz, hcs, hst]
  split at h
  ·
    rename_i k off he
    rw [he] at hx
    obtain ⟨b, hα, hu⟩ := hx.inv_op
    split at h
    · rename_i e bs ho'
      split at h
      rotate_left
      · cases h
      rename_i hle
      cases h
      have hle' : off + ty.size ≤ bs.length := by simpa using hle
      obtain ⟨b', us, h1, h2, h3, h4⟩ := s.objs _ _ ho'
      have hbb : b = b' := by
        have := hα.symm.trans h1
        cases this
        rfl
      subst hbb
      have hul := h4.length
      have hg : w.grownBy (w.setRow b (us.toArray.toList.take off ++ (a.eval y).cells.toList ++ us.toArray.toList.drop (off + (a.eval y).cells.toList.length)).toArray) (some b) :=
        ⟨rfl, rfl, rfl, by simp [World.setRow], fun k _ hk => setRow_other w b k _ (fun e => hk (by rw [e]))⟩
      have hle2 := Le_upd s (o' := .box false e (over bs off yv.flat)) ho' rfl h1 (fun g e => by cases e; rfl) hg
      refine stepped_skip (run hu h3 (by simp; omega)) (s.upd ho' rfl h1 (fun g e => by cases e; rfl) hg ?_) (fun _ _ => rfl)
      refine ⟨b, _, h1, h2, setRow_heap w b us.toArray _ e (0, 0) h3, ?_⟩
      have := repL_over (h4.mono hle2) off (hflat.mono hle2)
      simpa using this
    · cases h
  ·
    rename_i k sz i off he
    rw [he] at hx
    obtain ⟨b, n, c, hα, hu⟩ := hx.inv_rp
    split at h
    · rename_i e sz' es ho'
      obtain ⟨v0, xs, h1, h2, h3, h4, h5⟩ := s.objs _ _ ho'
      have hv0 : v0 = .slice (some ⟨b, 0, none⟩) n c := by
        have := h1.symm.trans hα
        cases this
        rfl
      subst hv0
      split at h
      · rename_i e0 orc1
        split at h
        rotate_left
        · cases h
        rename_i hcond2
        simp only [Bool.and_eq_true, beq_iff_eq, Nat.ble_eq] at hcond2
        obtain ⟨rfl, hle⟩ := hcond2
        have hel : es[i]? = some e0 := by
          split at h
          · cases h; exact hc _ (by simp)
          · split at h
            · cases h; exact hc _ (by simp)
            · cases h
        have he0 : e0.flat.length = sz := h4 e0 (List.mem_of_getElem? hel)
        obtain ⟨e1, hv1, hu1, hf1⟩ : ∃ e1, v = .v undef ∧ upd = [(k, some (.row false e sz (es.set i e1)))] ∧ e1.flat = over e0.flat off yv.flat := by
          split at h
          · cases h
            exact ⟨_, rfl, rfl, rfl⟩
          · split at h
            · rename_i hne hy1
              cases h
              refine ⟨yv, rfl, rfl, ?_⟩
              have hyf : yv.flat = [yv] := (hy.one_cells hy1).1
              have hef : e0.flat = [e0] := by
                cases e0 <;> first | rfl | exact absurd rfl (hne _)
              rw [hyf] at hlen ⊢
              rw [hef] at hle ⊢
              have h1s : ty.size = 1 := by simpa using hlen.symm
              have h0 : off = 0 := by simp at hle; omega
              subst h0
              simp [over]
            · cases h
        subst hv1
        subst hu1
        have hylen : (a.eval y).cells.toList.length = yv.flat.length := hflat.length
        have hl1 : e1.flat.length = sz := by rw [hf1, over_length (by rw [hlen]; exact hle), he0]
        rcases h2.2 with ⟨hnil, _⟩ | ⟨g, cap, cur, hgv, hbg, hgg, hnc, hcm, hcsz, htake⟩
        · cases hnil
        cases hgv
        have hil : i < es.length := (List.getElem?_eq_some_iff.1 hel).1
        have hmul : i * sz + sz ≤ es.length * sz := by
          have : (i + 1) * sz ≤ es.length * sz := Nat.mul_le_mul_right _ hil
          rw [Nat.add_mul, Nat.one_mul] at this
          exact this
        have hcap : es.length * sz ≤ cur.size := by rw [hcsz]; exact Nat.mul_le_mul_right _ hnc
        have hfit : (i * sz + off) + ty.size ≤ cur.size := by omega
        have hg : w.grownBy (w.setRow b (cur.toList.take (i * sz + off) ++ (a.eval y).cells.toList ++ cur.toList.drop ((i * sz + off) + (a.eval y).cells.toList.length)).toArray) (some b) :=
          ⟨rfl, rfl, rfl, by simp [World.setRow], fun k _ hk => setRow_other w b k _ (fun e => hk (by rw [e]))⟩
        have hle2 := Le_upd s (o' := .row false e sz (es.set i e1)) ho' rfl h1 (fun g e => by cases e; rfl) hg
        refine stepped_skip (run hu hgg hfit) (s.upd ho' rfl h1 (fun g e => by cases e; rfl) hg ?_) (fun _ _ => rfl)
        have hxl : xs.length = es.length * sz := h2.1
        have hset : (flats (es.set i e1)) = over (flats es) (i * sz + off) yv.flat := by
          rw [flats_set h4 hel e1 hl1, hf1]
          obtain ⟨pre, post, hfl, hpl⟩ := flats_at h4 hel
          rw [hfl]
          simp only [over]
          rw [← hpl, ← he0]
          have d1 : List.take pre.length (pre ++ e0.flat ++ post) = pre := by simp
          have d2 : List.drop (pre.length + e0.flat.length) (pre ++ e0.flat ++ post) = post := by
            rw [← List.length_append, List.drop_left]
          have d3 : List.take (pre.length + off) (pre ++ e0.flat ++ post) = pre ++ e0.flat.take off := by
            rw [List.append_assoc, List.take_length_add_append, List.take_append_of_le_length (by omega)]
          have d4 : List.drop (pre.length + off + yv.flat.length) (pre ++ e0.flat ++ post) = e0.flat.drop (off + yv.flat.length) ++ post := by
            rw [List.append_assoc, Nat.add_assoc, List.drop_length_add_append, List.drop_append_of_le_length (by omega)]
          rw [d1, d2, d3, d4]
          simp
        have hrep := repL_over (h3.mono hle2) (i * sz + off) (hflat.mono hle2)
        refine ⟨_, xs.take (i * sz + off) ++ (a.eval y).cells.toList ++ xs.drop ((i * sz + off) + (a.eval y).cells.toList.length), h1, ⟨?_, .inr ⟨b, c, _, by simp, hbg, setRow_heap w b cur _ e (0, 0) hgg, by simpa using hnc, hcm, ?_, ?_⟩⟩, ?_, ?_, h5⟩
        · simp
          omega
        · simp
          omega
        · have hx2 : xs = cur.toList.take (es.length * sz) := htake.symm
          rw [hx2]
          simp only [List.length_set]
          have q : i * sz + off + (a.eval y).cells.toList.length ≤ es.length * sz := by omega
          generalize i * sz + off = p at *
          generalize (a.eval y).cells.toList = ys at *
          rw [List.take_append, List.take_append, List.take_take, List.drop_take]
          have m1 : min (es.length * sz) p = p := by omega
          have m2 : min p (es.length * sz) = p := by omega
          simp only [List.length_append, List.length_take, Array.length_toList, m1]
          have m3 : min p cur.size = p := by omega
          rw [m3]
          rw [List.take_take, m2]
          have m4 : List.take (es.length * sz - p) ys = ys := List.take_of_length_le (by omega)
          rw [m4]
        · rw [hset]
          exact hrep
        · intro z hz
          rcases List.mem_or_eq_of_mem_set hz with hz | rfl
          · exact h4 z hz
          · exact hl1
      · cases h
    · cases h
  · cases h
end Go.Flow
namespace Go.Flow
open Go Go.RowKit
variable {P : Program} {τ : Tab} {B : Nat} {S0 : Nat → Prop} {w0 : World} {α : Nat → Option Value} {T : List AV} {H : Heap} {a : Act} {w : World} {nh : Nat}
theorem foldl_over (off : Nat) : ∀ (vs : List Value) (k : Nat) (us : List Value), off + k + vs.length ≤ us.length →
    (vs.zipIdx k).foldl (fun (cs : Array Value) (x : Value × Nat) => cs.setIfInBounds (off + x.2) x.1) us.toArray = (us.take (off + k) ++ vs ++ us.drop (off + k + vs.length)).toArray
  | [], k, us, _ => by simp
  | v :: vs, k, us, h => by
    simp only [List.length_cons] at h
    have hs : us.toArray.setIfInBounds (off + k) v = (us.set (off + k) v).toArray := by simp
    rw [List.zipIdx_cons, List.foldl_cons, hs, foldl_over off vs (k + 1) (us.set (off + k) v) (by simp; omega)]
    congr 1
    have e1 : off + (k + 1) = (off + k) + 1 := by omega
    have e2 : off + (k + 1) + vs.length = off + k + (v :: vs).length := by simp; omega
    rw [e2, e1]
    have hlt : off + k < us.length := by omega
    have hn : (us.set (off + k) v)[off + k]? = some v := by simp [hlt]
    rw [List.take_succ_eq_append_getElem (by simpa using hlt), List.getElem_set_self, List.take_set_of_le (Nat.le_refl _), List.drop_set_of_lt (by simp)]
    simp
theorem fill_rep {E : Env} {place : Nat → Option (Nat × Nat)} : ∀ {ps : List (Nat × AV)} {qs : List (Nat × Value)} {cs cs' : List AV} {us : List Value}, RepL E cs us →
    qs.map (·.1) = ps.map (·.1) → RepL E (ps.map (·.2)) (qs.map (·.2)) → fillA place cs ps = some cs' → ∃ us', Instr.fill place us.toArray qs = some us'.toArray ∧ RepL E cs' us'
  | [], [], cs, cs', us, hr, _, _, h => by
    simp only [fillA] at h
    cases h
    exact ⟨us, rfl, hr⟩
  | [], _ :: _, _, _, _, _, he, _, _ => by simp at he
  | _ :: _, [], _, _, _, _, he, _, _ => by simp at he
  | (i, y) :: ps, (j, u) :: qs, cs, cs', us, hr, he, hp, h => by
    simp only [List.map_cons, List.cons.injEq] at he
    obtain ⟨rfl, he⟩ := he
    cases hp with
    | cons _ _ _ _ hy hp =>
    unfold fillA at h
    unfold Instr.fill
    split at h
    · cases h
    · rename_i off size hpl
      rw [hpl]
      split at h
      · rename_i hcond
        simp only [Bool.and_eq_true, beq_iff_eq, Nat.ble_eq] at hcond
        obtain ⟨⟨hok, hsz⟩, hle⟩ := hcond
        have hflat := hy.flat hok
        have hfl : u.cells.toList.length = y.flat.length := hflat.length
        have hus := hr.length
        have hcs : u.cells.size = size := by simpa [hsz] using hfl
        have hcond : ¬ ((decide (u.cells.size ≠ size) || decide (off + u.cells.size > us.toArray.size)) = true) := by
          simp
          omega
        simp only [hcond, if_false, Bool.false_eq_true]
        have hfold : u.cells.zipIdx.foldl (fun (cs : Array Value) (x : Value × Nat) => cs.setIfInBounds (off + x.2) x.1) us.toArray = (us.take off ++ u.cells.toList ++ us.drop (off + u.cells.toList.length)).toArray := by
          have := foldl_over off u.cells.toList 0 us (by omega)
          simp only [Nat.add_zero] at this
          rw [← this, ← Array.foldl_toList]
          simp
        have hmatch : (u.cells.zipIdx.foldl (fun cs x => match x with | (c, j) => cs.setIfInBounds (off + j) c) us.toArray) = u.cells.zipIdx.foldl (fun (cs : Array Value) (x : Value × Nat) => cs.setIfInBounds (off + x.2) x.1) us.toArray := rfl
        rw [hmatch, hfold]
        exact fill_rep (repL_over hr off hflat) he hp h
      · cases h
theorem partsA_rep (s : Sim B S0 w0 α T H a w) (ps : Array (Nat × Operand)) :
    ((ps.map fun (i, x) => (i, a.eval x)).toList.map (·.1) = (partsA T ps).map (·.1)) ∧ RepL (envOf B S0 α H w) ((partsA T ps).map (·.2)) ((ps.map fun (i, x) => (i, a.eval x)).toList.map (·.2)) := by
  refine ⟨by simp [partsA, Function.comp_def], ?_⟩
  have := s.evalL (ps.toList.map (·.2))
  simpa [partsA, Function.comp_def] using this
theorem zeroA_rep (E : Env) (ty : ATy) : RepL E (zeroA ty) ty.zero.cells.toList := repL_vs E _
theorem fieldsA_spec (hτ : Fits P τ) : ∀ {fs : List Field} {places : List (Nat × Nat)}, fieldsA τ fs = some places → fs.mapM (fun f => (P.info? f.type).map fun i => (f.offset, i.size)) = some places
  | [], _, h => by simp only [fieldsA] at h; cases h; rfl
  | f :: fs, places, h => by
    unfold fieldsA at h
    split at h
    · rename_i ty r hty hr
      cases h
      obtain ⟨i, h1, h2, _⟩ := hτ.info hty
      simp [List.mapM_cons, h1, h2, fieldsA_spec hτ hr]
    · cases h
theorem build_rep (hτ : Fits P τ) (s : Sim B S0 w0 α T H a w) {t : TypeId} {ps : Array (Nat × Operand)} {y : AV} (h : buildA τ T t ps = some y) :
    ∃ u, (Instr.build t (ps.map fun (i, x) => (i, a.eval x))).run P w = .ok u w ∧ Rep (envOf B S0 α H w) y u := by
  obtain ⟨hp1, hp2⟩ := partsA_rep s ps
  unfold buildA at h
  split at h
  · rename_i ty hty
    obtain ⟨it, hi1, _, _, hi4⟩ := hτ.info hty
    have hu := hτ.und hty
    split at h
    · rename_i fields hd
      rw [hd] at hu
      split at h
      · rename_i places hpl
        split at h
        · rename_i cs hcs
          cases h
          obtain ⟨us', h1, h2⟩ := fill_rep (zeroA_rep (envOf B S0 α H w) ty) hp1 hp2 hcs
          refine ⟨.agg us'.toArray, run_build w t _ _ ?_, .agg _ _ h2⟩
          simp only [Program.built, hi1, hu, hi4, fieldsA_spec hτ hpl]
          simpa using h1
        · cases h
      · cases h
    · rename_i n elem hd
      rw [hd] at hu
      split at h
      · rename_i ety hety
        obtain ⟨ie, he1, he2, _⟩ := hτ.info hety
        split at h
        · rename_i cs hcs
          cases h
          obtain ⟨us', h1, h2⟩ := fill_rep (zeroA_rep (envOf B S0 α H w) ty) hp1 hp2 hcs
          refine ⟨.agg us'.toArray, run_build w t _ _ ?_, .agg _ _ h2⟩
          simp only [Program.built, hi1, hu, hi4, he1, he2]
          simpa using h1
        · cases h
      · cases h
    · cases h
  · cases h
theorem chunk_len (row : Bool) (sz : Nat) : ∀ (n : Nat) (cs : List AV), (chunkA row sz n cs).length = n
  | 0, _ => rfl
  | n + 1, cs => by simp [chunkA, chunk_len row sz n]
theorem chunk_flat (row : Bool) (sz : Nat) : ∀ (n : Nat) (cs : List AV), n * sz ≤ cs.length → (row = true ∨ (sz = 1 ∧ cs.all AV.one = true)) →
    flats (chunkA row sz n cs) = cs.take (n * sz) ∧ ∀ e ∈ chunkA row sz n cs, e.flat.length = sz
  | 0, cs, _, _ => by simp [chunkA, flats]
  | n + 1, cs, h, hr => by
    have hm : (n + 1) * sz = sz + n * sz := by rw [Nat.add_mul, Nat.one_mul]; omega
    rw [hm] at h
    have hall : row = true ∨ (sz = 1 ∧ (cs.drop sz).all AV.one = true) := hr.imp id fun ⟨h1, h2⟩ => ⟨h1, by
      rw [List.all_eq_true] at h2 ⊢
      exact fun x hx => h2 x (List.mem_of_mem_drop hx)⟩
    obtain ⟨i1, i2⟩ := chunk_flat row sz n (cs.drop sz) (by simp; omega) hall
    have hhead : (if row = true then AV.agg (cs.take sz) else cs.headD .any).flat = cs.take sz ∧ (cs.take sz).length = sz := by
      refine ⟨?_, by simp; omega⟩
      rcases hr with rfl | ⟨rfl, h2⟩
      · rfl
      · cases row with
        | true => rfl
        | false =>
          obtain ⟨c, l, rfl⟩ : ∃ c l, cs = c :: l := by
            cases cs with
            | nil => simp at h
            | cons c l => exact ⟨c, l, rfl⟩
          simp only [List.all_cons, Bool.and_eq_true] at h2
          have h1 := h2.1
          simp only [Bool.false_eq_true, if_false, List.headD_cons, List.take_succ_cons, List.take_zero]
          cases c <;> first | rfl | (simp [AV.one] at h1)
    refine ⟨?_, fun e he => ?_⟩
    · simp only [chunkA, flats, i1, hm]
      rw [hhead.1, List.take_add]
    · simp only [chunkA, List.mem_cons] at he
      rcases he with rfl | he
      · rw [hhead.1, hhead.2]
      · exact i2 e he
theorem run_newRow (e : TypeId) (cs : Array Value) (w : World) : (newRow e cs).run P w = .ok ⟨w.heap.size, 0, none⟩ (w.alloc (.cells cs e)) := by
  rfl
theorem run_newVar (e : TypeId) (v : Value) (w : World) : (newVar e v).run P w = .ok ⟨w.heap.size, 0, none⟩ (w.alloc (.cells v.cells e)) := run_newRow e v.cells w
theorem new_box (s : Sim B S0 w0 α T H a w) (hα : α nh = none) (hn : getH H nh = none) {e : TypeId} {cs : List AV} {us : List Value} (hr : RepL (envOf B S0 α H w) cs us) :
    Sim B S0 w0 (updα α nh (.pointer (some ⟨w.heap.size, 0, none⟩))) T (setAt H nh (some (.box false e cs))) a (w.alloc (.cells us.toArray e)) := by
  refine s.new hα hn rfl ?_
  exact ⟨w.heap.size, us, updα_same _ _ _, s.base, heap_alloc_new w _, hr.mono (Le_new hα hn rfl)⟩
theorem alloc_sound (hτ : Fits P τ) (s : Sim B S0 w0 α T H a w) (hα : α nh = none) (hn : getH H nh = none) {o : Oper} {e : TypeId} {ty : ATy} (ho : o.op = .alloc e) (hty : τ e = some ty) :
    Stepped P B S0 w0 α T a w nh o (.op nh 0) (applyU H [(nh, some (.box false e (zeroA ty)))]) := by
  refine stepped_value (u := .pointer (some ⟨w.heap.size, 0, none⟩)) ?_ (new_box s hα hn (e := e) (zeroA_rep _ ty)) fr_new (.op nh 0 _ (updα_same _ _ _))
  exact run_v ho (by simp [execOp, ho]; rfl) (by simp [Instr.alloc, hτ.run_zero hty, run_newVar])
theorem box_sound (s : Sim B S0 w0 α T H a w) (hα : α nh = none) (hn : getH H nh = none) {o : Oper} {e : TypeId} {x : Operand} (ho : o.op = .box e x) (hx : (evalA T x).flatOk = true) :
    Stepped P B S0 w0 α T a w nh o (.op nh 0) (applyU H [(nh, some (.box false e (evalA T x).flat))]) := by
  have hr := (s.eval x).flat hx
  refine stepped_value (u := .pointer (some ⟨w.heap.size, 0, none⟩)) ?_ (new_box s hα hn (e := e) hr) fr_new (.op nh 0 _ (updα_same _ _ _))
  exact run_v ho (by simp [execOp, ho]; rfl) (by simp [Instr.box, run_newVar])
theorem build_sound (hτ : Fits P τ) (s : Sim B S0 w0 α T H a w) {o : Oper} {t : TypeId} {ps : Array (Nat × Operand)} (ho : o.op = .build t ps) {y : AV} (h : buildA τ T t ps = some y) :
    Stepped P B S0 w0 α T a w nh o y H := by
  obtain ⟨u, h1, h2⟩ := build_rep hτ s h
  exact stepped_pure s (run_v ho (by simp [execOp, ho]) h1) h2
theorem repA_rep {E : Env} {z : List AV} {us : List Value} (h : RepL E z us) : ∀ n, ∃ vs, RepL E (repA z n) vs ∧ vs = (List.replicate n us).flatten
  | 0 => ⟨[], .nil, rfl⟩
  | n + 1 => by
    obtain ⟨vs, h1, h2⟩ := repA_rep h n
    exact ⟨us ++ vs, h.append h1, by simp [h2, List.replicate_succ]⟩
theorem madeCells_eq (z : Array Value) (n : Nat) (hz : 0 < z.size) : ((Array.range (n * z.size)).map (z[· % z.size]!)).toList = (List.replicate n z.toList).flatten := by
  induction n with
  | zero => simp
  | succ n ih =>
    rw [List.replicate_succ', List.flatten_append, ← ih]
    apply List.ext_getElem?
    intro i
    by_cases h1 : i < n * z.size
    · rw [List.getElem?_append_left (by simpa using h1)]
      have h2 : i < (n + 1) * z.size := by rw [Nat.add_mul]; omega
      simp [h1, h2]
    · have hi : ∃ j, i = n * z.size + j := ⟨i - n * z.size, by omega⟩
      obtain ⟨j, rfl⟩ := hi
      rw [List.getElem?_append_right (by simp)]
      simp only [Array.length_toList, Array.size_map, Array.size_range, Nat.add_sub_cancel_left]
      by_cases hj : j < z.size
      · have h2 : n * z.size + j < (n + 1) * z.size := by rw [Nat.add_mul]; omega
        have h3 : (n * z.size + j) % z.size = j := by rw [Nat.mul_comm, Nat.mul_add_mod, Nat.mod_eq_of_lt hj]
        simp [h2, h3, hj]
      · have h2 : ¬ n * z.size + j < (n + 1) * z.size := by rw [Nat.add_mul]; omega
        simp [h2]
        omega
end Go.Flow
namespace Go.Flow
open Go Go.RowKit
variable {P : Program} {τ : Tab} {B : Nat} {S0 : Nat → Prop} {w0 : World} {α : Nat → Option Value} {T : List AV} {H : Heap} {a : Act} {w : World} {nh : Nat}
theorem fillA_length {place : Nat → Option (Nat × Nat)} : ∀ {ps : List (Nat × AV)} {cs cs' : List AV}, fillA place cs ps = some cs' → cs'.length = cs.length
  | [], _, _, h => by simp only [fillA] at h; cases h; rfl
  | (i, y) :: ps, cs, cs', h => by
    unfold fillA at h
    split at h
    · cases h
    · split at h
      · rename_i hcond
        simp only [Bool.and_eq_true, beq_iff_eq, Nat.ble_eq] at hcond
        rw [fillA_length h, over_length hcond.2]
      · cases h
theorem new_row (s : Sim B S0 w0 α T H a w) (hα : α nh = none) (hn : getH H nh = none) {e : TypeId} {sz n : Nat} {es : List AV} {cells : Array Value} {us : List Value} {c : Nat} (hr : RepL (envOf B S0 α H w) (flats es) us)
    (hz : ∀ x ∈ es, x.flat.length = sz) (hsz : 0 < sz) (hn' : es.length = n) (hu : cells.toList.take (n * sz) = us) (hc : cells.size = c * sz) (hnc : n ≤ c) (hm : c ≤ maxLen) :
    Sim B S0 w0 (updα α nh (.slice (some ⟨w.heap.size, 0, none⟩) n c)) T (setAt H nh (some (.row false e sz es))) a (w.alloc (.cells cells e)) := by
  refine s.new hα hn rfl ?_
  subst hn'
  refine ⟨_, us, updα_same _ _ _, ⟨?_, .inr ⟨w.heap.size, c, cells, rfl, s.base, heap_alloc_new w _, hnc, hm, hc, hu⟩⟩, hr.mono (Le_new hα hn rfl), hz, hsz⟩
  rw [hr.length, flats_length hz]
theorem repA_length (z : List AV) : ∀ n, (repA z n).length = n * z.length
  | 0 => by simp [repA]
  | n + 1 => by simp [repA, repA_length z n, Nat.add_mul]; omega
theorem buildSlice_sound (hτ : Fits P τ) (s : Sim B S0 w0 α T H a w) (hα : α nh = none) (hn : getH H nh = none) {o : Oper} {t : TypeId} {len : Nat} {ps : Array (Nat × Operand)} (ho : o.op = .buildSlice t len ps)
    {elem : TypeId} {sz : Nat} {es : List AV} (h : buildSliceA τ T t len ps = some (elem, sz, es)) : Stepped P B S0 w0 α T a w nh o (.own nh) (applyU H [(nh, some (.row false elem sz es))]) := by
  obtain ⟨hp1, hp2⟩ := partsA_rep s ps
  unfold buildSliceA at h
  split at h
  rotate_left
  · cases h
  rename_i ty hty
  split at h
  rotate_left
  · cases h
  rename_i elem' hd
  split at h
  rotate_left
  · cases h
  rename_i ety hety
  split at h
  rotate_left
  · cases h
  rename_i hcond
  simp only [Bool.and_eq_true, Bool.or_eq_true, beq_iff_eq, Nat.ble_eq] at hcond
  obtain ⟨⟨⟨hbig, h1⟩, hzs⟩, hrow⟩ := hcond
  split at h
  rotate_left
  · cases h
  rename_i cs hcs
  split at h
  rotate_left
  · cases h
  rename_i hones
  cases h
  have hzl : (zeroA ety).length = ety.size := by simp [zeroA, hzs]
  obtain ⟨vs, hv1, hv2⟩ := repA_rep (zeroA_rep (envOf B S0 α H w) ety) len
  obtain ⟨us', hf, hr⟩ := fill_rep hv1 hp1 hp2 hcs
  have hcl : cs.length = len * ety.size := by rw [fillA_length hcs, repA_length, hzl]
  have hul : us'.length = len * ety.size := by rw [hr.length, hcl]
  have hvs : vs.toArray = (Array.range (len * ety.size)).map (ety.zero.cells[· % ety.zero.cells.size]!) := by
    apply Array.ext'
    rw [hv2, ← hzs, madeCells_eq _ _ (by omega)]
  obtain ⟨c1, c2⟩ := chunk_flat (isRow ety.desc) ety.size len cs (by omega) (by
    by_cases hi : isRow ety.desc = true
    · exact .inl hi
    · refine .inr ⟨hrow.resolve_left hi, ?_⟩
      simp only [Bool.or_eq_true] at hones
      exact hones.resolve_left hi)
  have hund := hτ.run_und hty
  rw [hd] at hund
  have hlen : len ≤ maxLen := by
    have : len * 1 ≤ len * ety.size := Nat.mul_le_mul_left _ h1
    simp only [maxLen]
    omega
  have sim := new_row (e := elem) (sz := ety.size) (n := len) (c := len) (cells := us'.toArray) (us := us') (es := chunkA (isRow ety.desc) ety.size len cs) s hα hn (by rw [c1, List.take_of_length_le (by omega)]; exact hr) c2 h1 (chunk_len _ _ _ _)
    (by simp only; rw [List.take_of_length_le (by omega)]) (by simpa using hul) (Nat.le_refl _) hlen
  refine stepped_value (u := .slice (some ⟨w.heap.size, 0, none⟩) len len) ?_ sim fr_new (.own nh _ _ _ (updα_same _ _ _))
  refine run_v ho (by simp [execOp, ho]; rfl) ?_
  have hb : ¬ len * ety.size > 2 ^ 24 := by omega
  rw [hvs] at hf
  have hzr := hτ.run_zero hety w
  have hm0 : ∀ f : Nat → Value, (Array.range 0).map f = #[] := fun f => Array.eq_empty_of_size_eq_zero (by simp)
  by_cases h0 : len * ety.size = 0
  · rw [h0, hm0] at hf
    simp only [Instr.buildSlice, Sem.run_bind, hund, Result.andThen_ok, hτ.run_size hety, h0, if_true, hm0]
    rw [hf]
    rfl
  · simp only [Instr.buildSlice, Sem.run_bind, hund, Result.andThen_ok, hτ.run_size hety, hb, h0, if_false, hzr, Sem.run_pure]
    rw [hf]
    rfl
theorem run_bounds (isSlice : Bool) (len cap : Nat) (lo hi : Option Value) (l h : Int) (hlo : (lo = none ∧ l = 0) ∨ ∃ k, lo = some (.int k l)) (hhi : (hi = none ∧ h = len) ∨ ∃ k, hi = some (.int k h)) (h0 : 0 ≤ l) (h1 : l ≤ h) (h2 : h ≤ cap)
    (w : World) : (Instr.sliceBounds isSlice len cap lo hi none).run P w = .ok (l.toNat, h.toNat, cap) w := by
  have e1 : 0 ≤ h ∧ h ≤ (cap : Int) := ⟨by omega, h2⟩
  have e2 : 0 ≤ l ∧ l ≤ ((h.toNat : Nat) : Int) := ⟨h0, by omega⟩
  have e3 : l ≤ max h 0 := by omega
  rcases hlo with ⟨rfl, rfl⟩ | ⟨k, rfl⟩ <;> rcases hhi with ⟨rfl, rfl⟩ | ⟨k', rfl⟩ <;> simp [Instr.sliceBounds, Instr.sliceBound, asIntOf, e1, e2.1, e3] <;> (try omega)
theorem bounds_eval (s : Sim B S0 w0 α T H a w) {lo hi : Option Operand} {n l h : Int} (hb : boundsA T lo hi n = some (l, h)) :
    ((lo.map a.eval = none ∧ l = 0) ∨ ∃ k, lo.map a.eval = some (.int k l)) ∧ ((hi.map a.eval = none ∧ h = n) ∨ ∃ k, hi.map a.eval = some (.int k h)) := by
  unfold boundsA at hb
  split at hb
  · rename_i l' h' hl hh
    cases hb
    constructor
    · cases lo with
      | none => simp at hl; exact .inl ⟨rfl, hl.symm⟩
      | some x =>
        have hx := s.eval x
        simp only at hl
        split at hl
        · rename_i k q he
          cases hl
          rw [he] at hx
          exact .inr ⟨k, by simp [hx.inv_v]⟩
        · cases hl
    · cases hi with
      | none => simp at hh; exact .inl ⟨rfl, hh.symm⟩
      | some x =>
        have hx := s.eval x
        simp only at hh
        split at hh
        · rename_i k q he
          cases hh
          rw [he] at hx
          exact .inr ⟨k, by simp [hx.inv_v]⟩
        · cases hh
  · cases hb
end Go.Flow
namespace Go.Flow
open Go Go.RowKit
variable {P : Program} {τ : Tab} {B : Nat} {S0 : Nat → Prop} {w0 : World} {α : Nat → Option Value} {T : List AV} {H : Heap} {a : Act} {w : World} {nh : Nat}
theorem flats_take {sz : Nat} : ∀ {es : List AV} (k : Nat), (∀ e ∈ es, e.flat.length = sz) → flats (es.take k) = (flats es).take (k * sz)
  | [], k, _ => by simp [flats]
  | e :: es, 0, _ => by simp [flats]
  | e :: es, k + 1, h => by
    have he := h e (by simp)
    have e1 : (k + 1) * sz = e.flat.length + k * sz := by rw [he, Nat.add_mul]; omega
    rw [e1]
    simp only [List.take_succ_cons, flats, List.take_length_add_append]
    rw [flats_take k fun x hx => h x (List.mem_cons_of_mem _ hx)]
theorem flats_drop {sz : Nat} : ∀ {es : List AV} (k : Nat), (∀ e ∈ es, e.flat.length = sz) → flats (es.drop k) = (flats es).drop (k * sz)
  | [], k, _ => by simp [flats]
  | e :: es, 0, _ => by simp [flats]
  | e :: es, k + 1, h => by
    have he := h e (by simp)
    have e1 : (k + 1) * sz = e.flat.length + k * sz := by rw [he, Nat.add_mul]; omega
    rw [e1]
    simp only [List.drop_succ_cons, flats, List.drop_length_add_append]
    exact flats_drop k fun x hx => h x (List.mem_cons_of_mem _ hx)
theorem add_add (ad : Addr) (i j : Nat) : (ad.add i).add j = ad.add (i + j) := by
  unfold Addr.add
  by_cases h1 : i = 0 <;> by_cases h2 : j = 0 <;> simp [h1, h2, Nat.add_assoc]
theorem rep_cut {E : Env} {sz : Nat} {es : List AV} {us : List Value} {ad : Addr} {l h : Int} {c : Nat} (hs : E.S ad.block) (hr : RepL E (flats es) us) (hz : ∀ e ∈ es, e.flat.length = sz)
    (hw : ∀ (j : Nat) (u : Value), us[j]? = some u → E.w.cell? (ad.add j) = some u) (h0 : 0 ≤ l) (h1 : l ≤ h) (h2 : h ≤ es.length) (hc : es.length ≤ c) :
    Rep E (.lst sz (cutL es l h)) (.slice (some (if c = l.toNat then ad else ad.add (l.toNat * sz))) (h.toNat - l.toNat) (c - l.toNat)) := by
  have hlen : (cutL es l h).length = h.toNat - l.toNat := by simp [cutL]; omega
  have hz1 : ∀ e ∈ es.take h.toNat, e.flat.length = sz := fun e he => hz e (List.mem_of_mem_take he)
  by_cases he : l = h
  · have hnil : cutL es l h = [] := List.eq_nil_of_length_eq_zero (by rw [hlen, he]; omega)
    rw [hnil, he, Nat.sub_self]
    exact .lst0 _ _ _
  · rw [if_neg (by omega)]
    have hfl : flats (cutL es l h) = ((flats es).take (h.toNat * sz)).drop (l.toNat * sz) := by
      unfold cutL
      rw [flats_drop _ hz1, flats_take _ hz]
    refine .lst sz _ _ _ _ ((us.take (h.toNat * sz)).drop (l.toNat * sz)) hlen (by omega) (by rw [add_block]; exact hs) (fun e he => hz1 e (List.mem_of_mem_drop he)) ?_ fun j u hj => ?_
    · rw [hfl]
      exact (hr.take _).drop _
    · rw [add_add]
      rw [List.getElem?_drop, List.getElem?_take] at hj
      split at hj
      · exact hw _ u hj
      · cases hj
theorem frozen_stab (s : Sim B S0 w0 α T H a w) {k : Nat} {o : AObj} {v : Value} {b : Nat} (ho : getH H k = some o) (hf : o.shut = true) (hv : α k = some v) (hb : blk v = some b) : Stab B S0 α H w b := by
  obtain ⟨u, hu, hl⟩ := s.alpha ho
  have : v = u := by injection hv.symm.trans hu
  subst this
  have hbl := hl b hb
  refine ⟨hbl.2, fun h => absurd h (by omega), fun h o' v' h1 h2 h3 => ?_⟩
  by_cases hk : h = k
  · subst hk
    rw [ho] at h1
    cases h1
    rw [hf] at h2
    cases h2
  · exact s.inj k h o o' v v' b ho h1 (Ne.symm hk) hv h3 hb
theorem slice_sound (hτ : Fits P τ) (s : Sim B S0 w0 α T H a w) {o : Oper} {t : TypeId} {x : Operand} {lo hi : Option Operand} (ho : o.op = .slice t x lo hi none) {orc orc' : List Orc} {v : AV} {upd : Upd} {cs : List Prop}
    (h : sliceA τ T H t (evalA T x) lo hi orc = .ok v upd orc' cs) (hc : ∀ c ∈ cs, c) : Stepped P B S0 w0 α T a w nh o v (applyU H upd) := by
  have hx := s.eval x
  unfold sliceA at h
  split at h
  · cases h
  rename_i ty hty
  have hund := hτ.run_und hty
  split at h
  ·
    rename_i st hd he
    rw [hd] at hund
    rw [he] at hx
    have hxv := hx.inv_v
    split at h
    · rename_i l q hb
      cases h
      obtain ⟨b1, b2⟩ := bounds_eval s hb
      obtain ⟨h0, h1, h2⟩ := hc _ (List.mem_singleton.2 rfl)
      refine stepped_pure s (run_v ho (by simp [execOp, ho]; rfl) ?_) (.v _)
      have hbd := run_bounds (P := P) false st.size st.size _ _ l q b1 b2 h0 h1 h2 w
      simp only [Instr.sliceAt, Instr.slice, Sem.run_bind, hund, Result.andThen_ok, hxv]
      simp [hbd]
    · cases h
  ·
    rename_i elem sz es hd he
    rw [hd] at hund
    rw [he] at hx
    obtain ⟨ad, c, hxv, hcase⟩ := hx.inv_lst
    split at h
    · rename_i ety l q hety hb
      split at h
      rotate_left
      · cases h
      rename_i hsz
      have hsz' : ety.size = sz := by simpa using hsz
      cases h
      obtain ⟨b1, b2⟩ := bounds_eval s hb
      obtain ⟨h0, h1, h2⟩ := hc _ (List.mem_singleton.2 rfl)
      have hle : es.length ≤ c := by
        rcases hcase with rfl | ⟨hle, _⟩
        · simp
        · exact hle
      have hbd := run_bounds (P := P) true es.length c _ _ l q b1 b2 h0 h1 (by omega) w
      have hrun : (Instr.slice t (a.eval x) (lo.map a.eval) (hi.map a.eval) none).run P w = .ok (.slice (if c = l.toNat then ad else ad.map (·.add (l.toNat * sz))) (q.toNat - l.toNat) (c - l.toNat)) w := by
        simp only [Instr.slice, Sem.run_bind, hund, Result.andThen_ok, hxv, hbd, hτ.run_size hety, hsz', Sem.run_pure]
      refine stepped_pure s (run_v ho (by simp [execOp, ho]; rfl) (u := .slice (if c = l.toNat then ad else ad.map (·.add (l.toNat * sz))) (q.toNat - l.toNat) (c - l.toNat)) ?_) ?_
      · simp only [Instr.sliceAt, Sem.run_bind, hund, Result.andThen_ok]
        exact hrun
      · rcases hcase with rfl | ⟨hle, ad', us, rfl, hs, hr, hz, hw⟩
        · have hl0 : l = 0 := by simp at h2; omega
          have hq0 : q = 0 := by simp at h2; omega
          subst hl0
          subst hq0
          have : cutL [] 0 0 = [] := rfl
          rw [this]
          exact .lst0 _ _ _
        · have := rep_cut (c := c) hs hr hz hw h0 h1 h2 hle
          have e1 : (if c = l.toNat then some ad' else (some ad').map (·.add (l.toNat * sz))) = some (if c = l.toNat then ad' else ad'.add (l.toNat * sz)) := by split <;> rfl
          rw [e1]
          exact this
    · cases h
  ·
    rename_i elem k hd he
    rw [hd] at hund
    rw [he] at hx
    obtain ⟨ad, n, c, hα, hxv⟩ := hx.inv_own
    split at h
    rotate_left
    · cases h
    rename_i fr e sz es ho'
    obtain ⟨v0, xs, h1', h2', h3', h4', h5'⟩ := s.objs _ _ ho'
    have hv0 : v0 = .slice ad n c := by
      have := h1'.symm.trans hα
      cases this
      rfl
    subst hv0
    split at h
    rotate_left
    · cases h
    rename_i ety l q hety hb
    split at h
    rotate_left
    · cases h
    rename_i hsz
    have hsz' : ety.size = sz := by simpa using hsz
    cases h
    obtain ⟨b1, b2⟩ := bounds_eval s hb
    obtain ⟨h0, h1, h2⟩ := hc _ (List.mem_singleton.2 rfl)
    have hn : n = es.length ∧ es.length ≤ c := by
      rcases h2'.2 with ⟨e1, e2⟩ | ⟨g, cap, cur, e1, _, _, e2, _⟩
      · cases e1
        omega
      · cases e1
        exact ⟨rfl, e2⟩
    obtain ⟨rfl, hle⟩ := hn
    have hbd := run_bounds (P := P) true es.length c _ _ l q b1 b2 h0 h1 (by omega) w
    have hfz := s.freeze ho'
    have hrun : (Instr.slice t (a.eval x) (lo.map a.eval) (hi.map a.eval) none).run P w = .ok (.slice (if c = l.toNat then ad else ad.map (·.add (l.toNat * sz))) (q.toNat - l.toNat) (c - l.toNat)) w := by
      simp only [Instr.slice, Sem.run_bind, hund, Result.andThen_ok, hxv, hbd, hτ.run_size hety, hsz', Sem.run_pure]
    refine stepped_value (u := .slice (if c = l.toNat then ad else ad.map (·.add (l.toNat * sz))) (q.toNat - l.toNat) (c - l.toNat)) (run_v ho (by simp [execOp, ho]; rfl) ?_) hfz (fun _ _ => rfl) ?_
    · simp only [Instr.sliceAt, Sem.run_bind, hund, Result.andThen_ok]
      exact hrun
    · have ho2 : getH (setAt H k (some (AObj.row fr e sz es).freeze)) k = some (AObj.row true e sz es) := getH_setAt_same _ _ _
      obtain ⟨v1, xs1, g1, g2, g3, g4, _⟩ := hfz.objs _ _ ho2
      have hv1 : v1 = .slice ad es.length c := by
        have := g1.symm.trans hα
        cases this
        rfl
      subst hv1
      rcases g2.2 with ⟨e1, e2⟩ | ⟨g, cap, cur, e1, hbg, hgg, e2, _⟩
      · have hes : es = [] := List.eq_nil_of_length_eq_zero e2
        subst hes
        cases e1
        have hl0 : l = 0 := by simp at h2; omega
        have hq0 : q = 0 := by simp at h2; omega
        subst hl0
        subst hq0
        have : cutL [] 0 0 = [] := rfl
        rw [this]
        exact .lst0 _ _ _
      · cases e1
        have hst := frozen_stab hfz ho2 rfl g1 rfl
        have := rep_cut (c := c) (E := envOf B S0 α (setAt H k (some (AObj.row fr e sz es).freeze)) w) hst g3 g4 (g2.cells (g := g) rfl) h0 h1 h2 hle
        have e1 : (if c = l.toNat then some (⟨g, 0, none⟩ : Addr) else (some (⟨g, 0, none⟩ : Addr)).map (·.add (l.toNat * sz))) = some (if c = l.toNat then ⟨g, 0, none⟩ else (⟨g, 0, none⟩ : Addr).add (l.toNat * sz)) := by split <;> rfl
        rw [e1]
        exact this
  ·
    rename_i n elem k off hd he
    rw [hd] at hund
    rw [he] at hx
    obtain ⟨b, hα, hxv⟩ := hx.inv_op
    split at h
    rotate_left
    · cases h
    rename_i fr e bs ho'
    split at h
    rotate_left
    · cases h
    rename_i ety l q hety hb
    split at h
    rotate_left
    · cases h
    rename_i hcond
    simp only [Bool.and_eq_true, Bool.or_eq_true, beq_iff_eq, Nat.ble_eq] at hcond
    obtain ⟨⟨hz1, hfit⟩, hrow⟩ := hcond
    cases h
    obtain ⟨b1, b2⟩ := bounds_eval s hb
    obtain ⟨h0, h1, h2⟩ := hc _ (List.mem_singleton.2 rfl)
    have hbd := run_bounds (P := P) false n n _ _ l q b1 b2 h0 h1 h2 w
    have hfz := s.freeze ho'
    refine stepped_value (u := .slice (some (if n = l.toNat then ⟨b, off, none⟩ else (⟨b, off, none⟩ : Addr).add (l.toNat * ety.size))) (q.toNat - l.toNat) (n - l.toNat)) (run_v ho (by simp [execOp, ho]; rfl) ?_) hfz (fun _ _ => rfl) ?_
    · simp only [Instr.sliceAt, Sem.run_bind, hund, Result.andThen_ok, hxv, Instr.sureAddr, Sem.run_pure, hbd, hτ.run_size hety]
    · have ho2 : getH (setAt H k (some (AObj.box fr e bs).freeze)) k = some (AObj.box true e bs) := getH_setAt_same _ _ _
      obtain ⟨b', us, g1, g2, g3, g4⟩ := hfz.objs _ _ ho2
      have hbb : b = b' := by
        have := hα.symm.trans g1
        cases this
        rfl
      subst hbb
      have hst := frozen_stab hfz ho2 rfl g1 rfl
      have hall : isRow ety.desc = true ∨ (ety.size = 1 ∧ (bs.drop off).all AV.one = true) := hrow.imp id fun ⟨e1, e2⟩ => ⟨e1, by
        rw [List.all_eq_true] at e2 ⊢
        exact fun x hx => e2 x (List.mem_of_mem_drop hx)⟩
      obtain ⟨c1, c2⟩ := chunk_flat (isRow ety.desc) ety.size n (bs.drop off) (by simp; omega) hall
      have hcl := chunk_len (isRow ety.desc) ety.size n (bs.drop off)
      have hadd : ∀ i j : Nat, (⟨b, i, none⟩ : Addr).add j = ⟨b, i + j, none⟩ := fun i j => by unfold Addr.add; split <;> simp_all
      exact rep_cut (c := n) (E := envOf B S0 α (setAt H k (some (AObj.box fr e bs).freeze)) w) (us := (us.drop off).take (n * ety.size)) hst (by rw [c1]; exact (g4.drop off).take _) c2
        (fun j u hj => by
          have := take_drop_get us off _ j u hj
          rw [hadd, cell_of_row _ b (off + j) us.toArray e (0, 0) g3]
          simpa using this) h0 h1 (by rw [hcl]; exact h2) (by rw [hcl]; exact Nat.le_refl _)
  · cases h
theorem rep_lp_drop {E : Env} {cs : List AV} {us : List Value} {ad : Addr} (hs : E.S ad.block) (hr : RepL E cs us) (hw : ∀ (j : Nat) (u : Value), us[j]? = some u → E.w.cell? (ad.add j) = some u) (k : Nat) :
    Rep E (.lp (cs.drop k)) (.pointer (some (ad.add k))) := by
  refine .lp _ _ (us.drop k) (by rw [add_block]; exact hs) (hr.drop k) fun j u hj => ?_
  rw [add_add]
  exact hw _ u (by simpa using hj)
theorem fieldAddr_sound (hτ : Fits P τ) (s : Sim B S0 w0 α T H a w) {o : Oper} {st : TypeId} {x : Operand} {k : Nat} (ho : o.op = .fieldAddr st x k) {y : AV} (h : fieldAddrA τ st (evalA T x) k = some y) :
    Stepped P B S0 w0 α T a w nh o y H := by
  have hx := s.eval x
  unfold fieldAddrA at h
  split at h
  rotate_left
  · cases h
  rename_i ty hty
  have hund := hτ.run_und hty
  split at h
  rotate_left
  · cases h
  rename_i fields hd
  rw [hd] at hund
  split at h
  rotate_left
  · cases h
  rename_i f hf
  split at h
  rotate_left
  · cases h
  rename_i fty hfty
  split at h
  · cases h
  rename_i hnz
  have hnz' : ¬ fty.size = 0 := by simpa using hnz
  have key : ∀ {ad : Addr}, a.eval x = .pointer (some ad) → Rep (envOf B S0 α H w) y (.pointer (some (ad.add f.offset))) → Stepped P B S0 w0 α T a w nh o y H := fun {ad} he hr => by
    refine stepped_pure s (run_v ho (by simp [execOp, ho]; rfl) (u := .pointer (some (ad.add f.offset))) ?_) hr
    simp only [Instr.fieldAt, Sem.run_bind, hund, Result.andThen_ok, hf, he, Instr.sureAddr, Sem.run_pure, fieldPlace, hτ.run_size hfty]
    simp [hnz']
  have hadd : ∀ b i j : Nat, (⟨b, i, none⟩ : Addr).add j = ⟨b, i + j, none⟩ := fun b i j => by unfold Addr.add; split <;> simp_all
  split at h
  · rename_i q off he
    cases h
    rw [he] at hx
    obtain ⟨b, hα, hxv⟩ := hx.inv_op
    refine key hxv ?_
    rw [hadd]
    exact .op _ _ _ hα
  · rename_i q sz i off he
    cases h
    rw [he] at hx
    obtain ⟨b, n, c, hα, hxv⟩ := hx.inv_rp
    refine key hxv ?_
    rw [hadd, Nat.add_assoc]
    exact .rp _ _ _ _ _ _ _ hα
  · rename_i cs he
    cases h
    rw [he] at hx
    obtain ⟨ad, us, hxv, hs, hr, hw⟩ := hx.inv_lp
    exact key hxv (rep_lp_drop hs hr hw _)
  · cases h
theorem run_part (hτ : Fits P τ) {t : TypeId} {ty : ATy} (ht : τ t = some ty) {E : Env} {cs : List AV} {us : List Value} (hr : RepL E cs us) {off : Nat} {y : AV} (hy : takeAt (isRow ty.desc) ty.size off cs = some y) :
    ∃ u, (part t us.toArray off).run P E.w = .ok u E.w ∧ Rep E y u := by
  unfold takeAt at hy
  simp only [part, Sem.run_bind, hτ.run_agg ht, Result.andThen_ok]
  cases hd : isRow ty.desc with
  | true =>
    simp only [hd, if_true] at hy
    split at hy
    · cases hy
      refine ⟨.agg ((us.drop off).take ty.size).toArray, ?_, .agg _ _ ((hr.drop off).take ty.size)⟩
      simp only [hτ.run_size ht, Sem.run_bind, Result.andThen_ok, if_true, Sem.run_pure]
      congr 2
      apply Array.ext'
      simp
    · cases hy
  | false =>
    simp only [hd, Bool.false_eq_true, if_false] at hy
    obtain ⟨u, hu, hru⟩ := hr.get hy
    refine ⟨u, ?_, hru⟩
    have : us.toArray[off]? = some u := by simpa using hu
    simp [this]
theorem field_sound (hτ : Fits P τ) (s : Sim B S0 w0 α T H a w) {o : Oper} {st : TypeId} {x : Operand} {k : Nat} (ho : o.op = .field st x k) {y : AV} (h : fieldA τ st (evalA T x) k = some y) :
    Stepped P B S0 w0 α T a w nh o y H := by
  have hx := s.eval x
  unfold fieldA at h
  split at h
  rotate_left
  · cases h
  rename_i ty hty
  have hund := hτ.run_und hty
  split at h
  rotate_left
  · cases h
  rename_i fields hd
  rw [hd] at hund
  split at h
  rotate_left
  · cases h
  rename_i f cs hf he
  split at h
  rotate_left
  · cases h
  rename_i fty hfty
  rw [he] at hx
  obtain ⟨us, hxv, hr⟩ := hx.inv_agg
  obtain ⟨u, hp, hru⟩ := run_part hτ hfty hr h
  refine stepped_pure s (run_v ho (by simp [execOp, ho]; rfl) ?_) hru
  simp only [Instr.field, Sem.run_bind, hund, Result.andThen_ok, hf, hxv, asAgg, Sem.run_pure]
  exact hp
theorem indexAddr_sound (hτ : Fits P τ) (s : Sim B S0 w0 α T H a w) {o : Oper} {t : TypeId} {x i : Operand} (ho : o.op = .indexAddr t x i) {orc orc' : List Orc} {v : AV} {upd : Upd} {cs : List Prop}
    (h : indexAddrA τ H t (evalA T x) (evalA T i) orc = .ok v upd orc' cs) (hc : ∀ c ∈ cs, c) : Stepped P B S0 w0 α T a w nh o v (applyU H upd) := by
  have hx := s.eval x
  have hi := s.eval i
  unfold indexAddrA at h
  split at h
  rotate_left
  · cases h
  rename_i ty k n hty hie
  have hund := hτ.run_und hty
  rw [hie] at hi
  have hiv := hi.inv_v
  have hadd : ∀ b i j : Nat, (⟨b, i, none⟩ : Addr).add j = ⟨b, i + j, none⟩ := fun b i j => by unfold Addr.add; split <;> simp_all
  split at h
  · rename_i len elem hd
    rw [hd] at hund
    split at h
    rotate_left
    · cases h
    rename_i ety hety
    have key : ∀ {ad : Addr}, a.eval x = .pointer (some ad) → (0 ≤ n ∧ n < len) → Rep (envOf B S0 α H w) v (.pointer (some (ad.add (n.toNat * ety.size)))) → Stepped P B S0 w0 α T a w nh o v H := fun {ad} he hb hr => by
      refine stepped_pure s (run_v ho (by simp [execOp, ho]; rfl) (u := .pointer (some (ad.add (n.toNat * ety.size)))) ?_) hr
      simp only [Instr.indexAt, Sem.run_bind, hiv, asIntOf, Sem.run_pure, Result.andThen_ok, hund, he, Instr.sureAddr]
      simp [hb.1, hb.2, hτ.run_size hety]
    split at h
    · rename_i q off he
      cases h
      rw [he] at hx
      obtain ⟨b, hα, hxv⟩ := hx.inv_op
      refine key hxv (hc _ (List.mem_singleton.2 rfl)) ?_
      rw [hadd]
      exact .op _ _ _ hα
    · rename_i q sz j off he
      cases h
      rw [he] at hx
      obtain ⟨b, n, c, hα, hxv⟩ := hx.inv_rp
      refine key hxv (hc _ (List.mem_singleton.2 rfl)) ?_
      rw [hadd, Nat.add_assoc]
      exact .rp _ _ _ _ _ _ _ hα
    · rename_i bs he
      cases h
      rw [he] at hx
      obtain ⟨ad, us, hxv, hs, hr, hw⟩ := hx.inv_lp
      exact key hxv (hc _ (List.mem_singleton.2 rfl)) (rep_lp_drop hs hr hw _)
    · cases h
  · rename_i elem hd
    rw [hd] at hund
    split at h
    rotate_left
    · cases h
    rename_i ety hety
    have key : ∀ {ad : Addr} {len c : Nat}, a.eval x = .slice (some ad) len c → (0 ≤ n ∧ n < len) → Rep (envOf B S0 α H w) v (.pointer (some (ad.add (n.toNat * ety.size)))) → Stepped P B S0 w0 α T a w nh o v H := fun {ad len c} he hb hr => by
      refine stepped_pure s (run_v ho (by simp [execOp, ho]; rfl) (u := .pointer (some (ad.add (n.toNat * ety.size)))) ?_) hr
      simp only [Instr.indexAt, Sem.run_bind, hiv, asIntOf, Sem.run_pure, Result.andThen_ok, hund, he]
      simp [hb.1, hb.2, hτ.run_size hety]
    have hx := plainOf_rep hx
    split at h
    · rename_i sz es he
      rw [he] at hx
      obtain ⟨ad, c, hxv, hcase⟩ := hx.inv_lst
      split at h
      rotate_left
      · cases h
      rename_i hsz
      have hsz' : ety.size = sz := by simpa using hsz
      split at h
      rotate_left
      · cases h
      rename_i e orc1
      cases h
      obtain ⟨h0, hel⟩ := hc _ (List.mem_singleton.2 rfl)
      have hlt : n.toNat < es.length := (List.getElem?_eq_some_iff.1 hel).1
      rcases hcase with rfl | ⟨hle, ad', us, rfl, hs, hr, hz, hw⟩
      · simp at hel
      · refine key hxv ⟨h0, by omega⟩ ?_
        obtain ⟨pre, post, hfl, hpl⟩ := flats_at hz hel
        rw [hfl, List.append_assoc] at hr
        obtain ⟨us0, us1, rfl, r0, r1⟩ := hr.split
        obtain ⟨us2, us3, rfl, r2, r3⟩ := r1.split
        have hl0 : us0.length = n.toNat * ety.size := by rw [r0.length, hpl, hsz']
        refine .lp _ _ us2 (by rw [add_block]; exact hs) r2 fun j u hj => ?_
        rw [add_add]
        apply hw
        rw [List.getElem?_append_right (by omega), hl0, Nat.add_sub_cancel_left, List.getElem?_append_left (List.getElem?_eq_some_iff.1 hj).1]
        exact hj
    · rename_i q he
      rw [he] at hx
      obtain ⟨ad, m, c, hα, hxv⟩ := hx.inv_own
      split at h
      rotate_left
      · cases h
      rename_i fr e sz es ho'
      split at h
      rotate_left
      · cases h
      rename_i hsz
      have hsz' : ety.size = sz := by simpa using hsz
      cases h
      obtain ⟨h0, hlt⟩ := hc _ (List.mem_singleton.2 rfl)
      obtain ⟨v0, xs, h1', h2', h3', h4', h5'⟩ := s.objs _ _ ho'
      have hv0 : v0 = .slice ad m c := by
        have := h1'.symm.trans hα
        cases this
        rfl
      subst hv0
      rcases h2'.2 with ⟨e1, e2⟩ | ⟨g, cap, cur, e1, _, _, e2, _⟩
      · omega
      · cases e1
        refine key hxv ⟨h0, hlt⟩ ?_
        rw [hadd, hsz', Nat.zero_add]
        have := Rep.rp (E := envOf B S0 α H w) q sz n.toNat 0 g es.length c hα
        simpa using this
    · cases h
  · cases h
theorem index_sound (hτ : Fits P τ) (s : Sim B S0 w0 α T H a w) {o : Oper} {t : TypeId} {x i : Operand} (ho : o.op = .index t x i) {orc orc' : List Orc} {v : AV} {upd : Upd} {cs : List Prop}
    (h : indexA τ t (evalA T x) (evalA T i) orc = .ok v upd orc' cs) (hc : ∀ c ∈ cs, c) : Stepped P B S0 w0 α T a w nh o v (applyU H upd) := by
  have hx := s.eval x
  have hi := s.eval i
  unfold indexA at h
  split at h
  rotate_left
  · cases h
  rename_i ty k n hty hie
  have hund := hτ.run_und hty
  rw [hie] at hi
  have hiv := hi.inv_v
  split at h
  · rename_i len elem bs hd he
    rw [hd] at hund
    rw [he] at hx
    obtain ⟨us, hxv, hr⟩ := hx.inv_agg
    split at h
    rotate_left
    · cases h
    rename_i ety hety
    split at h
    rotate_left
    · cases h
    rename_i y hy
    cases h
    obtain ⟨h0, h1⟩ := hc _ (List.mem_singleton.2 rfl)
    obtain ⟨u, hp, hru⟩ := run_part hτ hety hr hy
    refine stepped_pure s (run_v ho (by simp [execOp, ho]; rfl) (u := u) ?_) hru
    simp only [Instr.index, Sem.run_bind, hiv, asIntOf, Sem.run_pure, Result.andThen_ok, hund, hxv]
    simp only [h0, h1, and_self, if_true, Sem.run_bind, hτ.run_size hety, Result.andThen_ok]
    exact hp
  · rename_i st hd he
    rw [hd] at hund
    rw [he] at hx
    have hxv := hx.inv_v
    cases h
    obtain ⟨h0, h1⟩ := hc _ (List.mem_singleton.2 rfl)
    have hlt : n.toNat < st.size := by omega
    refine stepped_pure s (run_v ho (by simp [execOp, ho]; rfl) (u := .int .u8 ((st.data.toList.getD n.toNat 0).toNat)) ?_) (.v _)
    have hg : st[n.toNat]? = some st[n.toNat] := getElem?_pos st n.toNat hlt
    have hg2 : st.data.toList.getD n.toNat 0 = st[n.toNat] := by
      have hlt' : n.toNat < st.data.toList.length := by simpa using hlt
      rw [List.getD_eq_getElem?_getD, List.getElem?_eq_getElem hlt']
      rfl
    simp only [Instr.index, Sem.run_bind, hiv, asIntOf, Sem.run_pure, Result.andThen_ok, hund, hxv, h0, if_true, hg]
    rw [hg2]
  · cases h
theorem make_sound (hτ : Fits P τ) (s : Sim B S0 w0 α T H a w) (hα : α nh = none) (hn : getH H nh = none) {o : Oper} {t : TypeId} {x y : Operand} (ho : o.op = .makeSlice t x y) {orc orc' : List Orc} {v : AV} {upd : Upd} {cs : List Prop}
    (h : makeA τ nh t (evalA T x) (evalA T y) orc = .ok v upd orc' cs) (hc : ∀ c ∈ cs, c) : Stepped P B S0 w0 α T a w nh o v (applyU H upd) := by
  have hx := s.eval x
  have hy := s.eval y
  unfold makeA at h
  split at h
  rotate_left
  · cases h
  rename_i ty k l k' m hty he1 he2
  rw [he1] at hx
  rw [he2] at hy
  have hxv := hx.inv_v
  have hyv := hy.inv_v
  split at h
  rotate_left
  · cases h
  rename_i elem hd
  split at h
  rotate_left
  · cases h
  rename_i ety hety
  split at h
  rotate_left
  · cases h
  rename_i hcond
  simp only [Bool.and_eq_true, Bool.or_eq_true, beq_iff_eq, Nat.ble_eq] at hcond
  obtain ⟨⟨⟨h1, hzs⟩, hrow⟩, hones⟩ := hcond
  cases h
  obtain ⟨h0, hlm, h63, hby⟩ := hc _ (List.mem_singleton.2 rfl)
  obtain ⟨it, i1, i2, i3, i4⟩ := hτ.info hety
  have hu := hτ.und hty
  rw [hd] at hu
  have hrun := run_make (P := P) w t elem it ety.zero hu i1 i4 k k' l m h0 hlm (by rw [i3, Int.mul_comm]; exact hby) h63
  rw [i2] at hrun
  have hzl : (zeroA ety).length = ety.size := by simp [zeroA, hzs]
  have hel : (if isRow ety.desc = true then AV.agg (zeroA ety) else (zeroA ety).headD .any).flat = zeroA ety := by
    by_cases hi : isRow ety.desc = true
    · simp [hi, AV.flat]
    · have hs1 : ety.size = 1 := hrow.resolve_left hi
      rw [hs1] at hzl
      obtain ⟨z, hz⟩ := List.length_eq_one_iff.1 hzl
      rw [hz] at hones
      simp only [hi, hz, if_false, List.headD_cons, Bool.false_eq_true]
      simp at hones
      cases z <;> first | rfl | (simp [AV.one] at hones)
  have hfl : ∀ n, flats (List.replicate n (if isRow ety.desc = true then AV.agg (zeroA ety) else (zeroA ety).headD .any)) = repA (zeroA ety) n := fun n => by
    induction n with
    | zero => rfl
    | succ n ih => rw [List.replicate_succ, flats, hel, ih, repA]
  obtain ⟨us, hr1, hr2⟩ := repA_rep (zeroA_rep (envOf B S0 α H w) ety) l.toNat
  have htake : (madeCells ety.zero.cells (m.toNat * ety.size)).toList.take (l.toNat * ety.size) = us := by
    have e1 := madeCells_eq ety.zero.cells m.toNat (by omega)
    rw [hzs] at e1
    unfold madeCells
    rw [hzs, e1, hr2]
    obtain ⟨d, hdm⟩ : ∃ d, m.toNat = l.toNat + d := ⟨m.toNat - l.toNat, by omega⟩
    rw [hdm, ← List.replicate_append_replicate, List.flatten_append]
    apply List.take_left'
    simp [hzs]
  have sim := new_row (e := elem) (sz := ety.size) (n := l.toNat) (c := m.toNat) (cells := madeCells ety.zero.cells (m.toNat * ety.size)) (us := us)
    (es := List.replicate l.toNat (if isRow ety.desc = true then AV.agg (zeroA ety) else (zeroA ety).headD .any)) s hα hn (by rw [hfl]; exact hr1)
    (fun e he => by rw [List.eq_of_mem_replicate he, hel, hzl]) h1 (by simp) htake (by rw [size_madeCells]) (by omega) (by simp only [maxLen]; omega)
  refine stepped_value (u := .slice (some ⟨w.heap.size, 0, none⟩) l.toNat m.toNat) (run_v ho (by simp [execOp, ho]; rfl) ?_) sim fr_new (.own nh _ _ _ (updα_same _ _ _))
  rw [hxv, hyv]
  exact hrun
end Go.Flow
namespace Go.Flow
open Go Go.RowKit
variable {P : Program} {τ : Tab} {B : Nat} {S0 : Nat → Prop} {w0 : World} {α : Nat → Option Value} {T : List AV} {H : Heap} {a : Act} {w : World} {nh : Nat}
theorem RepL.each {E E' : Env} {f : AV → Prop} (hf : ∀ x u, f x → Rep E x u → Rep E' x u) : ∀ {xs : List AV} {us : List Value}, (∀ x ∈ xs, f x) → RepL E xs us → RepL E' xs us
  | [], us, _, hr => by cases hr; exact .nil
  | x :: xs, us, h, hr => by
    cases hr with
    | cons _ u _ us hx hxs => exact .cons x u xs us (hf x u (h x (by simp)) hx) (RepL.each hf (fun y hy => h y (List.mem_cons_of_mem _ hy)) hxs)
theorem mem_flats : ∀ {es : List AV} {c : AV}, c ∈ flats es → ∃ e ∈ es, c ∈ e.flat
  | e :: es, c, h => by
    simp only [flats, List.mem_append] at h
    rcases h with h | h
    · exact ⟨e, by simp, h⟩
    · obtain ⟨e', he, hc⟩ := mem_flats h
      exact ⟨e', List.mem_cons_of_mem _ he, hc⟩
theorem hf_flat {n : Nat} {e c : AV} (he : hf n e = true) (hc : c ∈ e.flat) : ∃ m, m ≤ n ∧ hf m c = true := by
  cases n with
  | zero => simp [hf] at he
  | succ n =>
    by_cases ha : ∃ cs, e = .agg cs
    · obtain ⟨cs, rfl⟩ := ha
      simp only [hf, List.all_eq_true] at he
      exact ⟨n, by omega, he c hc⟩
    · have : e.flat = [e] := by cases e <;> first | rfl | exact absurd ⟨_, rfl⟩ ha
      rw [this] at hc
      simp at hc
      subst hc
      exact ⟨n + 1, Nat.le_refl _, he⟩
theorem hf_rep {E : Env} {S' : Nat → Prop} (hS : ∀ b, E.S b → S' b) : ∀ (n : Nat), ∀ m, m ≤ n → ∀ (x : AV) (u : Value), hf m x = true → Rep E x u → Rep ⟨fun _ => none, S', E.w⟩ x u := by
  intro n
  induction n with
  | zero =>
    intro m hm x u hx
    obtain rfl : m = 0 := by omega
    simp [hf] at hx
  | succ n ih =>
    intro m hm x u hx hr
    cases m with
    | zero => simp [hf] at hx
    | succ m =>
    have step : ∀ {cs : List AV} {us : List Value}, cs.all (hf m) = true → RepL E cs us → RepL ⟨fun _ => none, S', E.w⟩ cs us := fun {cs us} hc hl =>
      hl.each (f := fun x => hf m x = true) (fun x u h => ih m (by omega) x u h) (List.all_eq_true.1 hc)
    cases hr with
    | v => exact .v _
    | any => exact .any _
    | lst0 sz a c => exact .lst0 sz a c
    | lst sz es ad n' c us hn hc hs hz hl hw =>
      refine .lst sz es ad n' c us hn hc (hS _ hs) hz ?_ hw
      simp only [hf, List.all_eq_true] at hx
      refine hl.each (f := fun x => ∃ k, k ≤ m ∧ hf k x = true) (fun x u ⟨k, hk, h⟩ => ih k (by omega) x u h) fun c hc => ?_
      obtain ⟨e, he, hce⟩ := mem_flats hc
      exact hf_flat (hx e he) hce
    | ls us v hv => exact (Rep.ls us u hv).ls_env (E' := ⟨fun _ => none, S', E.w⟩) hS rfl
    | ps sz es v hv => exact (Rep.ps sz es u hv).ps_env (E' := ⟨fun _ => none, S', E.w⟩) hS rfl
    | lp cs ad us hs hl hw => exact .lp cs ad us (hS _ hs) (step (by simpa [hf] using hx) hl) hw
    | own => simp [hf] at hx
    | rp => simp [hf] at hx
    | op => simp [hf] at hx
    | mp => simp [hf] at hx
    | mv es b arr clock hs hb hm => exact .mv es b arr clock (hS _ hs) hb hm
    | mx arr clock b hs hb => exact .mx arr clock b (hS _ hs) hb
    | fn f cap us hl => exact .fn f cap us (step (by simpa [hf] using hx) hl)
    | agg cs us hl => exact .agg cs us (step (by simpa [hf] using hx) hl)
    | tup cs us hl => exact .tup cs us (step (by simpa [hf] using hx) hl)
theorem lookL_cons {f : AV → Option AV} {x : AV} {xs ys : List AV} (h : lookL f (x :: xs) = some ys) : ∃ y zs, f x = some y ∧ lookL f xs = some zs ∧ ys = y :: zs := by
  simp only [lookL] at h
  split at h
  · rename_i y zs h1 h2
    cases h
    exact ⟨y, zs, h1, h2, rfl⟩
  · cases h
theorem look_plain {n : Nat} {x y : AV} (h : look H n x = some y) (hx : ∀ cs, x ≠ .agg cs) : y.flat = [y] ∧ x.flat = [x] := by
  cases n with
  | zero => simp [look] at h
  | succ n =>
    cases x <;> simp only [look] at h <;> (try (exact absurd rfl (hx _))) <;> (repeat' split at h) <;> (first | (cases h; exact ⟨rfl, rfl⟩) | cases h)
def Sees (α : Nat → Option Value) (H : Heap) (S' : Nat → Prop) (hs : List Nat) : Prop :=
  ∀ h o, h ∈ hs → getH H h = some o → ∀ v b, α h = some v → blk v = some b → S' b
theorem look_rep (s : Sim B S0 w0 α T H a w) {S' : Nat → Prop} (hS : ∀ b, Stab B S0 α H w b → S' b) : ∀ (n : Nat) (x y : AV) (u : Value), look H n x = some y → Sees α H S' (handles H n x) →
    Rep (envOf B S0 α H w) x u → Rep ⟨fun _ => none, S', w⟩ y u := by
  intro n
  induction n with
  | zero => intro x y u h; simp [look] at h
  | succ n ih =>
    intro x y u h hh hr
    have lists : ∀ {xs ys : List AV} {us : List Value}, lookL (look H n) xs = some ys → Sees α H S' (xs.flatMap (handles H n)) → RepL (envOf B S0 α H w) xs us → RepL ⟨fun _ => none, S', w⟩ ys us := by
      intro xs
      induction xs with
      | nil =>
        intro ys us h1 _ h3
        simp only [lookL] at h1
        cases h1
        cases h3
        exact .nil
      | cons x xs ihl =>
        intro ys us h1 h2 h3
        obtain ⟨y, zs, g1, g2, rfl⟩ := lookL_cons h1
        cases h3 with
        | cons _ u _ us hx hxs =>
          exact .cons _ _ _ _ (ih x y u g1 (fun h o hm => h2 h o (by simp [hm])) hx) (ihl g2 (fun h o hm => h2 h o (by
            simp only [List.flatMap_cons, List.mem_append]
            exact .inr hm)) hxs)
    cases x with
    | v x => simp only [look] at h; cases h; cases hr; exact .v _
    | any => simp only [look] at h; cases h; exact .any _
    | lst sz es =>
      simp only [look] at h
      split at h
      · rename_i hall
        cases h
        exact hf_rep hS (n + 1) (n + 1) (Nat.le_refl _) _ u (by simpa [hf] using hall) hr
      · cases h
    | ls us => simp only [look] at h; cases h; exact Rep.ls_env (E := envOf B S0 α H w) (E' := ⟨fun _ => none, S', w⟩) hS rfl hr
    | ps sz es => simp only [look] at h; cases h; exact Rep.ps_env (E := envOf B S0 α H w) (E' := ⟨fun _ => none, S', w⟩) hS rfl hr
    | lp cs =>
      simp only [look] at h
      split at h
      · rename_i hall
        cases h
        exact hf_rep hS (n + 1) (n + 1) (Nat.le_refl _) _ u (by simpa [hf] using hall) hr
      · cases h
    | own k =>
      simp only [look] at h
      split at h
      rotate_left
      · rename_i fr e us ho
        cases h
        simp only [handles, ho] at hh
        obtain ⟨ad, m, c, hα, rfl⟩ := hr.inv_own
        obtain ⟨v0, h1, h2⟩ := s.objs _ _ ho
        have hv0 : v0 = .slice ad m c := by
          have := h1.symm.trans hα
          cases this
          rfl
        subst hv0
        refine .ls _ _ ?_
        rcases h2.2 with ⟨e1, e2⟩ | ⟨g, cap, cur, e1, hbg, hgg, hnc, _⟩
        · cases e1
          have hys0 : us = [] := List.eq_nil_of_length_eq_zero e2
          subst hys0
          exact .lst0 _ _ _
        · cases e1
          exact .lst _ _ _ _ _ us (by simp) hnc (hh k _ (by simp) ho _ _ h1 rfl) (fun e he => by obtain ⟨x, _, rfl⟩ := List.mem_map.1 he; rfl) (by rw [flats_v]; exact repL_plain _ us) (h2.cells (g := g) rfl)
      · cases h
      rename_i fr e sz es ho
      split at h
      rotate_left
      · cases h
      rename_i ys hys
      cases h
      simp only [handles, ho] at hh
      obtain ⟨ad, m, c, hα, rfl⟩ := hr.inv_own
      obtain ⟨v0, xs, h1, h2, h3, h4, h5⟩ := s.objs _ _ ho
      have hv0 : v0 = .slice ad m c := by
        have := h1.symm.trans hα
        cases this
        rfl
      subst hv0
      have elems : ∀ {es ys : List AV} {us : List Value}, lookL (look H n) es = some ys → Sees α H S' (es.flatMap (handles H n)) → (∀ x ∈ es, x.flat.length = sz) → RepL (envOf B S0 α H w) (flats es) us →
          RepL ⟨fun _ => none, S', w⟩ (flats ys) us ∧ (∀ y ∈ ys, y.flat.length = sz) ∧ ys.length = es.length := by
        intro es
        induction es with
        | nil =>
          intro ys us h1 _ _ h3
          simp only [lookL] at h1
          cases h1
          cases h3
          exact ⟨.nil, by simp, rfl⟩
        | cons x xs ihl =>
          intro ys us h1 h2 hz h3
          obtain ⟨y, zs, g1, g2, rfl⟩ := lookL_cons h1
          simp only [flats] at h3
          obtain ⟨us1, us2, rfl, r1, r2⟩ := h3.split
          obtain ⟨i1, i2, i3⟩ := ihl g2 (fun h o hm => h2 h o (by
            simp only [List.flatMap_cons, List.mem_append]
            exact .inr hm)) (fun z hz' => hz z (List.mem_cons_of_mem _ hz')) r2
          have hx2 : Sees α H S' (handles H n x) := fun h o hm => h2 h o (by simp [hm])
          have hone : RepL ⟨fun _ => none, S', w⟩ y.flat us1 := by
            by_cases ha : ∃ cs, x = .agg cs
            · obtain ⟨cs, rfl⟩ := ha
              have := ih (.agg cs) y (.agg us1.toArray) g1 hx2 (.agg _ _ r1)
              cases n with
              | zero => simp [look] at g1
              | succ n =>
                simp only [look] at g1
                split at g1
                · cases g1
                  obtain ⟨vs, e1, e2⟩ := this.inv_agg
                  have : us1 = vs := by simpa using e1
                  subst this
                  exact e2
                · cases g1
            · obtain ⟨e1, e2⟩ := look_plain g1 (fun cs hc => ha ⟨cs, hc⟩)
              rw [e2] at r1
              rw [e1]
              cases r1 with
              | cons _ u1 _ us1 hx hxs =>
                cases hxs
                exact .cons _ _ _ _ (ih x y u1 g1 hx2 hx) .nil
          refine ⟨hone.append i1, fun z hz' => ?_, by simp [i3]⟩
          rcases List.mem_cons.1 hz' with rfl | hz'
          · have q1 := hone.length
            have q2 := r1.length
            rw [← q1, q2]
            exact hz x (by simp)
          · exact i2 z hz'
      obtain ⟨q1, q2, q3⟩ := elems hys (fun h o hm => hh h o (by simp [hm])) h4 h3
      rcases h2.2 with ⟨e1, e2⟩ | ⟨g, cap, cur, e1, hbg, hgg, hnc, _⟩
      · cases e1
        have hys0 : ys = [] := List.eq_nil_of_length_eq_zero (by rw [q3]; exact e2)
        subst hys0
        exact .lst0 _ _ _
      · cases e1
        exact .lst _ _ _ _ _ xs q3 hnc (hh k _ (by simp) ho _ _ h1 rfl) q2 q1 (h2.cells (g := g) rfl)
    | op k off =>
      simp only [look] at h
      split at h
      rotate_left
      · cases h
      rename_i fr e cs ho
      split at h
      rotate_left
      · cases h
      rename_i ys hys
      cases h
      simp only [handles, ho] at hh
      obtain ⟨b, hα, rfl⟩ := hr.inv_op
      obtain ⟨b', us, h1, h2, h3, h4⟩ := s.objs _ _ ho
      have hbb : b = b' := by
        have := hα.symm.trans h1
        cases this
        rfl
      subst hbb
      have hadd : ∀ i j : Nat, (⟨b, i, none⟩ : Addr).add j = ⟨b, i + j, none⟩ := fun i j => by unfold Addr.add; split <;> simp_all
      refine .lp _ _ (us.drop off) (hh k _ (by simp) ho _ _ h1 rfl) (lists hys (fun h o hm => hh h o ?_) (h4.drop off)) fun j u hj => ?_
      · simp only [List.mem_cons, List.mem_flatMap] at hm ⊢
        obtain ⟨x, hx, hm⟩ := hm
        exact .inr ⟨x, List.mem_of_mem_drop hx, hm⟩
      · show w.cell? _ = _
        rw [hadd, cell_of_row _ b (off + j) us.toArray e (0, 0) h3]
        simpa using hj
    | rp => simp [look] at h
    | mp k =>
      simp only [look] at h
      split at h
      rotate_left
      · cases h
      rename_i fr es ho
      cases h
      simp only [handles] at hh
      obtain ⟨r, hα, rfl⟩ := hr.inv_mp
      obtain ⟨b, arr, clock, h1, h2, h3, h4⟩ := s.objs _ _ ho
      have hbb : r = some b := by
        have := hα.symm.trans h1
        cases this
        rfl
      subst hbb
      exact .mv _ b arr clock (hh k _ (by simp) ho _ _ h1 rfl) h3 h4
    | mv es =>
      simp only [look] at h
      cases h
      obtain ⟨b, arr, clock, rfl, h1, h2, h3⟩ := hr.inv_mv
      exact .mv _ b arr clock (hS _ h1) h2 h3
    | mx arr clock =>
      simp only [look] at h
      cases h
      obtain ⟨b, rfl, h1, h2⟩ := hr.inv_mx
      exact .mx _ _ b (hS _ h1) h2
    | fn f cap =>
      simp only [look] at h
      split at h
      rotate_left
      · cases h
      rename_i ys hys
      cases h
      obtain ⟨us, rfl, hl⟩ := hr.inv_fn
      exact .fn _ _ _ (lists hys (by simpa [handles] using hh) hl)
    | agg cs =>
      simp only [look] at h
      split at h
      rotate_left
      · cases h
      rename_i ys hys
      cases h
      obtain ⟨us, rfl, hl⟩ := hr.inv_agg
      exact .agg _ _ (lists hys (by simpa [handles] using hh) hl)
    | tup cs =>
      simp only [look] at h
      split at h
      rotate_left
      · cases h
      rename_i ys hys
      cases h
      obtain ⟨us, rfl, hl⟩ := hr.inv_tup
      exact .tup _ _ (lists hys (by simpa [handles] using hh) hl)
theorem lookL_rep (s : Sim B S0 w0 α T H a w) {S' : Nat → Prop} (hS : ∀ b, Stab B S0 α H w b → S' b) (n : Nat) : ∀ {xs ys : List AV} {us : List Value}, lookL (look H n) xs = some ys → Sees α H S' (xs.flatMap (handles H n)) →
    RepL (envOf B S0 α H w) xs us → RepL ⟨fun _ => none, S', w⟩ ys us
  | [], ys, us, h1, _, h3 => by
    simp only [lookL] at h1
    cases h1
    cases h3
    exact .nil
  | x :: xs, ys, us, h1, h2, h3 => by
    obtain ⟨y, zs, g1, g2, rfl⟩ := lookL_cons h1
    cases h3 with
    | cons _ u _ us hx hxs =>
      exact .cons _ _ _ _ (look_rep s hS n x y u g1 (fun h o hm => h2 h o (by simp [hm])) hx) (lookL_rep s hS n g2 (fun h o hm => h2 h o (by
        simp only [List.flatMap_cons, List.mem_append]
        exact .inr hm)) hxs)
theorem nomem_rep {E E' : Env} : ∀ (n : Nat) (x : AV) (u : Value), mem n x = false → Rep E x u → Rep E' x u := by
  intro n
  induction n with
  | zero => intro x u h; simp [mem] at h
  | succ n ih =>
    intro x u hx hr
    have step : ∀ {cs : List AV} {us : List Value}, cs.any (mem n) = false → RepL E cs us → RepL E' cs us := fun {cs us} hc hl =>
      hl.each (f := fun x => mem n x = false) (fun x u h => ih x u h) (fun x hx => by
        have := List.any_eq_false.1 hc x hx
        simpa using this)
    cases hr with
    | v => exact .v _
    | any => exact .any _
    | fn f cap us hl => exact .fn f cap us (step (by simpa [mem] using hx) hl)
    | agg cs us hl => exact .agg cs us (step (by simpa [mem] using hx) hl)
    | tup cs us hl => exact .tup cs us (step (by simpa [mem] using hx) hl)
    | _ => simp [mem] at hx
theorem applyU_append : ∀ (H : Heap) (u v : Upd), applyU H (u ++ v) = applyU (applyU H u) v
  | _, [], _ => rfl
  | H, (k, o) :: u, v => by simp only [List.cons_append, applyU]; exact applyU_append _ u v
theorem freezeAll_sim : ∀ (hs : List Nat) {H : Heap}, Sim B S0 w0 α T H a w → Sim B S0 w0 α T (applyU H (freezeAll H hs)) a w
  | [], _, s => s
  | h :: hs, H, s => by
    unfold freezeAll
    split
    · rename_i o ho
      exact freezeAll_sim hs (s.freeze ho)
    · exact freezeAll_sim hs s
theorem freezeAll_get : ∀ (hs : List Nat) {H : Heap} {h : Nat} {o : AObj}, getH H h = some o → ∃ o', getH (applyU H (freezeAll H hs)) h = some o' ∧ (o.shut = true → o'.shut = true) ∧ (h ∈ hs → o.isAux = false → o'.shut = true)
  | [], H, h, o, ho => ⟨o, ho, id, by simp⟩
  | k :: hs, H, h, o, ho => by
    unfold freezeAll
    split
    · rename_i ok hk
      by_cases e : h = k
      · subst e
        rw [hk] at ho
        cases ho
        have hfr : o.isAux = false → o.freeze.shut = true := by cases o <;> first | (intro _; rfl) | (intro h; cases h)
        have hfs : o.shut = true → o.freeze.shut = true := by cases o <;> first | (intro _; rfl) | exact id
        obtain ⟨o', h1, h2, _⟩ := freezeAll_get hs (H := setAt H h (some o.freeze)) (h := h) (o := o.freeze) (getH_setAt_same _ _ _)
        exact ⟨o', h1, fun hh => h2 (hfs hh), fun _ hh => h2 (hfr hh)⟩
      · obtain ⟨o', h1, h2, h3⟩ := freezeAll_get hs (H := setAt H k (some ok.freeze)) (h := h) (o := o) (by rw [getH_setAt_other _ _ _ _ e]; exact ho)
        exact ⟨o', h1, h2, fun hm => h3 ((List.mem_cons.1 hm).resolve_left e)⟩
    · rename_i hk
      obtain ⟨o', h1, h2, h3⟩ := freezeAll_get hs ho
      refine ⟨o', h1, h2, fun hm => ?_⟩
      rcases List.mem_cons.1 hm with e | hm
      · subst e
        rw [hk] at ho
        cases ho
      · exact h3 hm
theorem noAux_get {H : Heap} : ∀ {hs : List Nat}, noAux H hs = true → ∀ {h : Nat} {o : AObj}, h ∈ hs → getH H h = some o → o.isAux = false
  | k :: hs, hn, h, o, hm, ho => by
    simp only [noAux, Bool.and_eq_true] at hn
    rcases List.mem_cons.1 hm with rfl | hm
    · have := hn.1
      rw [ho] at this
      simpa using this
    · exact noAux_get hn.2 hm ho
theorem stab_mono_freeze (hs : List Nat) : ∀ {H : Heap} {b : Nat}, Stab B S0 α H w b → Stab B S0 α (applyU H (freezeAll H hs)) w b := by
  induction hs with
  | nil => intro H b h; exact h
  | cons k hs ih =>
    intro H b h
    unfold freezeAll
    split
    · rename_i o ho
      refine ih ⟨h.1, h.2.1, fun q o' v h1 h2 h3 => ?_⟩
      by_cases e : q = k
      · subst e
        rw [getH_setAt_same] at h1
        cases h1
        exact h.2.2 q o v ho (by revert h2; cases o <;> first | exact id | (intro h; cases h)) h3
      · rw [getH_setAt_other _ _ _ _ e] at h1
        exact h.2.2 q o' v h1 h2 h3
    · exact ih h
theorem run_callFunc {f : FuncId} (hb : Body P f) (args : Array Value) (w : World) : (callFunc f args).run P w = .ok (.enter f args) w := by
  obtain ⟨fn, c, h1, h2, h3⟩ := hb
  have h4 : ¬ fn.name = "runtime.NumGoroutine" := by simpa using h3
  simp [callFunc, h1, h2, h4]
theorem run_call_value {f : FuncId} (hb : Body P f) {o : Oper} {fo : Operand} {args : Array Operand} {ts : Array TypeId} {cap : Array Value} (ho : o.op = .call ⟨.value fo, args, ts⟩) (hf : a.eval fo = .func (.func f) #[] cap) :
    (execOp a.eval o).run P w = .ok (.enter f (args.map a.eval ++ cap)) w := by
  simp [execOp, ho, resolve, hf, Deferred.ofValue, invoke, run_callFunc hb]
theorem call_sound (s : Sim B S0 w0 α T H a w) (hα : α nh = none) {o : Oper} {fo : Operand} {args : Array Operand} {ts : Array TypeId} (ho : o.op = .call ⟨.value fo, args, ts⟩) {f : FuncId} {cap : List AV}
    (hfo : evalA T fo = .fn f cap) {orc orc' : List Orc} {v : AV} {upd : Upd} {cs : List Prop} (h : callA P nh H f (args.toList.map (evalA T) ++ cap) orc = .ok v upd orc' cs) (hc : ∀ c ∈ cs, c) :
    Stepped P B S0 w0 α T a w nh o v (applyU H upd) := by
  have hx := s.eval fo
  rw [hfo] at hx
  obtain ⟨cus, hfv, hcap⟩ := hx.inv_fn
  have hargs : RepL (envOf B S0 α H w) (args.toList.map (evalA T) ++ cap) (args.toList.map a.eval ++ cus) := (s.evalL args.toList).append hcap
  have harr : args.map a.eval ++ cus.toArray = (args.toList.map a.eval ++ cus).toArray := by
    apply Array.ext'
    simp
  generalize args.toList.map (evalA T) ++ cap = xs at *
  generalize args.toList.map a.eval ++ cus = us at *
  unfold callA at h
  split at h
  rotate_left
  · cases h
  rename_i ys hys
  have seesAll : Sees α H (fun b => b < w.heap.size) (xs.flatMap (handles H 9)) := fun h o _ h2 v b h3 h4 => by
    obtain ⟨u, hu, hl⟩ := s.alpha h2
    rw [h3] at hu
    cases hu
    exact (hl b h4).2
  have seesFrozen : noAux H (xs.flatMap (handles H 9)) = true → Sees α H (Stab B S0 α (applyU H (freezeAll H (xs.flatMap (handles H 9)).eraseDups)) w) (xs.flatMap (handles H 9)) := fun hna h o h1 h2 v b h3 h4 => by
    obtain ⟨o', g1, _, g3⟩ := freezeAll_get (xs.flatMap (handles H 9)).eraseDups h2
    exact frozen_stab (freezeAll_sim _ s) g1 (g3 (List.mem_eraseDups.2 h1) (noAux_get hna h1 h2)) h3 h4
  have stabs : ∀ {H' : Heap} {w' : World}, Sim B S0 w0 α T H' a w → Below w.heap.size w w' → ∀ b, (b < w'.heap.size ∧ (b < w.heap.size → Stab B S0 α H' w b)) → Stab B S0 α H' w' b := fun {H' w'} s' hb b hbs => by
    by_cases hlt : b < w.heap.size
    · exact (Le_of_below hb).S b (hbs.2 hlt)
    · refine ⟨hbs.1, fun h => absurd h (by have := s'.base; omega), fun k o v h1 _ h3 h4 => ?_⟩
      obtain ⟨u, hu, hl⟩ := s'.alpha h1
      rw [h3] at hu
      cases hu
      exact hlt (hl b h4).2
  split at h
  ·
    rename_i r orc1
    split at h
    rotate_left
    · cases h
    rename_i hhf
    simp only [Bool.and_eq_true] at hhf
    obtain ⟨hhf, hna⟩ := hhf
    cases h
    obtain ⟨hbody, hcalls⟩ := hc _ (List.mem_singleton.2 rfl)
    intro K Q hK
    unfold Oper.wp
    rw [run_call_value hbody ho hfv, harr]
    cases hm : mem 9 v with
    | false =>
      simp only [hm, Bool.false_eq_true, if_false, applyU] at hK ⊢
      refine (hcalls w (fun b => b < w.heap.size) us (s.grd.later s.below s.base) (fun _ h => h) (lookL_rep s (fun b hb => hb.1) 9 hys seesAll hargs)).mono ?_
      rintro e w' ⟨u, rfl, hb, hr⟩
      exact hK α w' u (s.step hb) (fun _ _ => rfl) (nomem_rep 9 v u hm hr)
    | true =>
      simp only [hm, if_true] at hK ⊢
      have s' := freezeAll_sim (xs.flatMap (handles H 9)).eraseDups s
      refine (hcalls w (Stab B S0 α (applyU H (freezeAll H (xs.flatMap (handles H 9)).eraseDups)) w) us (s.grd.later s.below s.base) (fun _ h => h.1) (lookL_rep s (fun b hb => stab_mono_freeze _ hb) 9 hys (seesFrozen hna) hargs)).mono ?_
      rintro e w' ⟨u, rfl, hb, hr⟩
      have hle : Env.Le ⟨fun _ => none, fun b => b < w'.heap.size ∧ (b < w.heap.size → Stab B S0 α (applyU H (freezeAll H (xs.flatMap (handles H 9)).eraseDups)) w b), w'⟩
          (envOf B S0 α (applyU H (freezeAll H (xs.flatMap (handles H 9)).eraseDups)) w') := ⟨(fun _ _ h => by cases h), (fun b hbs => stabs s' hb b hbs), (fun _ _ => rfl)⟩
      exact hK α w' u (s'.step hb) (fun _ _ => rfl) (Rep.mono hle hr)
  ·
    rename_i e sz es orc1
    split at h
    rotate_left
    · cases h
    rename_i hcond
    simp only [Bool.and_eq_true, Nat.ble_eq] at hcond
    obtain ⟨⟨hhf, hsz⟩, hna⟩ := hcond
    cases h
    obtain ⟨hbody, hcalls⟩ := hc _ (by
      exact List.mem_cons_self)
    have hz : ∀ x ∈ es, x.flat.length = sz := hc _ (List.mem_cons_of_mem _ List.mem_cons_self)
    intro K Q hK
    unfold Oper.wp
    rw [run_call_value hbody ho hfv, harr]
    rw [applyU_append] at hK
    have own_ge : ∀ {v : Value} {xs : List Value} {w' : World}, w'.ownsRow w.heap.size e sz v es.length xs → ∀ b, blk v = some b → w.heap.size ≤ b := fun {v xs w'} ho b hb => by
      rcases ho.2 with ⟨rfl, _⟩ | ⟨g, cap, cur, rfl, hg, _⟩
      · simp [blk] at hb
      · cases hb
        exact hg
    have own_mono : ∀ {v : Value} {xs : List Value} {w' : World}, w'.ownsRow w.heap.size e sz v es.length xs → w'.ownsRow B e sz v es.length xs := fun {v xs w'} ho => by
      refine ⟨ho.1, ?_⟩
      rcases ho.2 with h | ⟨g, cap, cur, h1, hg, h2⟩
      · exact .inl h
      · exact .inr ⟨g, cap, cur, h1, Nat.le_trans s.base hg, h2⟩
    cases hm : es.any (mem 9) with
    | false =>
      simp only [hm, Bool.false_eq_true, if_false, applyU] at hK
      refine (hcalls w (fun b => b < w.heap.size) us (s.grd.later s.below s.base) (fun _ h => h) (lookL_rep s (fun b hb => hb.1) 9 hys seesAll hargs)).mono ?_
      rintro en w' ⟨u, xs', rfl, hb, hown, hr⟩
      have hno : ∀ x ∈ es, mem 9 x = false := fun x hx => by
        have := List.any_eq_false.1 hm x hx
        simpa using this
      have hform : ∃ ad n c, u = .slice ad n c := by
        rcases hown.2 with ⟨rfl, _⟩ | ⟨g, cap, cur, rfl, _⟩ <;> exact ⟨_, _, _, rfl⟩
      refine hK (updα α nh u) w' u (s.adopt hα hb (own_ge hown) fun _ => ⟨u, xs', updα_same _ _ _, own_mono hown, ?_, hz, hsz⟩) fr_new ?_
      · refine hr.each (f := fun x => ∃ k, mem k x = false) (fun x u ⟨k, h⟩ hx => nomem_rep k x u h hx) fun c hc => ?_
        obtain ⟨x, hx, hcx⟩ := mem_flats hc
        have h9 := hno x hx
        by_cases ha : ∃ cs, x = .agg cs
        · obtain ⟨cs, rfl⟩ := ha
          have h8 : cs.any (mem 8) = false := h9
          have := List.any_eq_false.1 h8 c hcx
          exact ⟨8, by simpa using this⟩
        · have : x.flat = [x] := by cases x <;> first | rfl | exact absurd ⟨_, rfl⟩ ha
          rw [this] at hcx
          simp at hcx
          subst hcx
          exact ⟨9, h9⟩
      · obtain ⟨ad, n, c, rfl⟩ := hform
        exact .own nh _ _ _ (updα_same _ _ _)
    | true =>
      simp only [hm, if_true, applyU] at hK
      have s' := freezeAll_sim (xs.flatMap (handles H 9)).eraseDups s
      refine (hcalls w (Stab B S0 α (applyU H (freezeAll H (xs.flatMap (handles H 9)).eraseDups)) w) us (s.grd.later s.below s.base) (fun _ h => h.1) (lookL_rep s (fun b hb => stab_mono_freeze _ hb) 9 hys (seesFrozen hna) hargs)).mono ?_
      rintro en w' ⟨u, xs', rfl, hb, hown, hr⟩
      have hform : ∃ ad n c, u = .slice ad n c := by
        rcases hown.2 with ⟨rfl, _⟩ | ⟨g, cap, cur, rfl, _⟩ <;> exact ⟨_, _, _, rfl⟩
      refine hK (updα α nh u) w' u (s'.adopt hα hb (own_ge hown) fun _ => ⟨u, xs', updα_same _ _ _, own_mono hown, ?_, hz, hsz⟩) fr_new ?_
      · have hle : Env.Le ⟨fun _ => none, fun b => b < w'.heap.size ∧ (b < w.heap.size → Stab B S0 α (applyU H (freezeAll H (xs.flatMap (handles H 9)).eraseDups)) w b) ∧ blk u ≠ some b, w'⟩
            (envOf B S0 (updα α nh u) (setAt (applyU H (freezeAll H (xs.flatMap (handles H 9)).eraseDups)) nh (some (.row false e sz es))) w') := ?_
        · exact RepL.mono hle hr
        refine ⟨(fun _ _ h => by cases h), fun b hbs => ?_, (fun _ _ => rfl)⟩
        have hst := stabs s' hb b ⟨hbs.1, hbs.2.1⟩
        refine ⟨hst.1, hst.2.1, fun q o v h1 h2 h3 => ?_⟩
        by_cases e : q = nh
        · subst e
          rw [updα_same] at h3
          cases h3
          exact hbs.2.2
        · rw [getH_setAt_other _ _ _ _ e] at h1
          rw [updα_other _ _ e] at h3
          exact hst.2.2 q o v h1 h2 h3
      · obtain ⟨ad, n, c, rfl⟩ := hform
        exact .own nh _ _ _ (updα_same _ _ _)
  · cases h
end Go.Flow
namespace Go.Flow
open Go Go.RowKit
variable {P : Program} {τ : Tab} {B : Nat} {S0 : Nat → Prop} {w0 : World} {α : Nat → Option Value} {T : List AV} {H : Heap} {a : Act} {w : World} {nh : Nat}
theorem run_append_of_nil (base : Nat) (t ty e : TypeId) (i : TypeInfo) (size : Nat) (ht : P.underlying t = some (.slice e)) (hi : P.info? e = some i)
    (v : Value) (n : Nat) (xs : List Value) (hown : w.ownsRow base e size v n xs) (c : Nat) : (Builtin.append_ #[t, t] ty #[v, .slice none 0 c]).run P w = .ok v w := by
  rcases hown.2 with ⟨rfl, rfl⟩ | ⟨g, cap, cur, rfl, _, _, hnc, _⟩
  · simp [Builtin.append_, run_underlying ht, sizeOf, typeInfo, hi, Builtin.lenOf, Builtin.firstCells]
  · simp [Builtin.append_, run_underlying ht, sizeOf, typeInfo, hi, Builtin.lenOf, Builtin.firstCells, hnc, storeCells]
theorem blk_own (v : Value) (h : ∃ a n c, v = .slice a n c) : blk v = v.ownBlock := by
  obtain ⟨a, n, c, rfl⟩ := h
  cases a <;> rfl
theorem owns_slice {base : Nat} {e : TypeId} {size n : Nat} {v : Value} {xs : List Value} (h : w.ownsRow base e size v n xs) : ∃ a n c, v = .slice a n c := by
  rcases h.2 with ⟨rfl, _⟩ | ⟨g, cap, cur, rfl, _⟩ <;> exact ⟨_, _, _, rfl⟩
theorem run_append_any (base : Nat) (t ty e : TypeId) (i : TypeInfo) (z : Value) (size bytes : Nat) (ht : P.underlying t = some (.slice e)) (hi : P.info? e = some i) (hz : i.zero = some z)
    (hsize : i.size = size) (hby : i.bytes = bytes) (hzs : z.cells.size = size) (hsz : 0 < size) (v : Value) (n : Nat) (xs : List Value) (hown : w.ownsRow base e size v n xs)
    (A : Option Addr) (m c : Nat) (news : List Value) (hl : news.length = m * size) (hr : m = 0 ∨ ∃ ad, A = some ad ∧ ∀ (j : Nat) (u : Value), news[j]? = some u → w.cell? (ad.add j) = some u) (h1 : ∀ u ∈ news, u.oneCell' = true)
    (h63 : n + m ≤ maxLen) (hbytes : (n + m) * bytes ≤ 140737488355328) (hbase : base ≤ w.heap.size) :
    ∃ v' w', (Builtin.append_ #[t, t] ty #[v, .slice A m c]).run P w = .ok v' w' ∧ w'.ownsRow base e size v' (n + m) (xs ++ news) ∧ w.grownBy w' (blk v) ∧ (blk v' = blk v ∨ blk v' = some w.heap.size) := by
  have hnews : m = 0 → news = [] := fun h => by subst h; exact List.eq_nil_of_length_eq_zero (by simpa using hl)
  rw [blk_own v (owns_slice hown)]
  cases A with
  | none =>
    have hm : m = 0 := by
      rcases hr with h | ⟨ad, h, _⟩
      · exact h
      · cases h
    have hn := hnews hm
    subst hm
    subst hn
    exact ⟨v, w, run_append_of_nil base t ty e i size ht hi v n xs hown c, by simpa using hown, ⟨rfl, rfl, rfl, Nat.le_refl _, fun _ _ _ => rfl⟩, .inl (blk_own v (owns_slice hown))⟩
  | some ad =>
    have hcells : ∀ (j : Nat) (u : Value), news[j]? = some u → w.cell? (ad.add j) = some u := by
      rcases hr with h | ⟨ad', h, hc⟩
      · rw [hnews h]
        intro j u hu
        simp at hu
      · cases h
        exact hc
    obtain ⟨v', w', hrun, h2, h3, _, h5⟩ := run_append_own_at (P := P) w base t ty e i z size bytes ht hi hz hsize hby hzs hsz v n xs hown ad m c news hl hcells h1 h63 hbytes hbase
    refine ⟨v', w', hrun, h2, h3, ?_⟩
    rw [blk_own v' (owns_slice h2)]
    exact h5
theorem source_rep (s : Sim B S0 w0 α T H a w) {y : AV} {u : Value} (hy : Rep (envOf B S0 α H w) y u) {size sz : Nat} {news : List AV} (h : (if isNil y then some (size, []) else elemsA H y) = some (sz, news)) (hsz : sz = size) :
    ∃ A c us, u = .slice A news.length c ∧ RepL (envOf B S0 α H w) (flats news) us ∧ us.length = news.length * sz ∧ (∀ x ∈ news, x.flat.length = sz) ∧
      (news.length = 0 ∨ ∃ ad, A = some ad ∧ ∀ (j : Nat) (u : Value), us[j]? = some u → w.cell? (ad.add j) = some u) := by
  split at h
  · rename_i hn
    cases h
    unfold isNil at hn
    split at hn
    · exact ⟨none, 0, [], hy.inv_v, .nil, by simp, by simp, .inl rfl⟩
    · cases hn
  · unfold elemsA at h
    have hy := plainOf_rep hy
    split at h
    · rename_i sz' es he
      cases h
      rw [he] at hy
      obtain ⟨A, c, rfl, hcase⟩ := hy.inv_lst
      rcases hcase with rfl | ⟨hle, ad, us, rfl, hs, hr, hz, hw⟩
      · exact ⟨A, c, [], rfl, .nil, by simp, by simp, .inl rfl⟩
      · exact ⟨some ad, c, us, rfl, hr, by rw [hr.length, flats_length hz], hz, .inr ⟨ad, rfl, hw⟩⟩
    · rename_i k he
      rw [he] at hy
      split at h
      · rename_i fr e sz' es ho
        cases h
        obtain ⟨ad, m, c, hα, rfl⟩ := hy.inv_own
        obtain ⟨v0, xs, h1, h2, h3, h4, h5⟩ := s.objs _ _ ho
        have hv0 : v0 = .slice ad m c := by
          have := h1.symm.trans hα
          cases this
          rfl
        subst hv0
        rcases h2.2 with ⟨e1, e2⟩ | ⟨g, cap, cur, e1, hbg, hgg, hnc, _⟩
        · have hes : news = [] := List.eq_nil_of_length_eq_zero e2
          subst hes
          cases e1
          cases h3
          exact ⟨none, 0, [], rfl, .nil, by simp, by simp, .inl rfl⟩
        · cases e1
          exact ⟨_, _, xs, rfl, h3, h2.1, h4, .inr ⟨_, rfl, h2.cells (g := g) rfl⟩⟩
      · cases h
    · cases h
theorem append_sound (hτ : Fits P τ) (s : Sim B S0 w0 α T H a w) (hα : α nh = none) {o : Oper} {x y : Operand} {args : Array Operand} {ts : Array TypeId} {t : TypeId} (ho : o.op = .call ⟨.builtin .append, args, ts⟩)
    (hargs : args.toList = [x, y]) (hts : ts.toList = [t, t]) {orc orc' : List Orc} {v : AV} {upd : Upd} {cs : List Prop}
    (h : appendA τ nh H t (evalA T x) (evalA T y) orc = .ok v upd orc' cs) (hc : ∀ c ∈ cs, c) : Stepped P B S0 w0 α T a w nh o v (applyU H upd) := by
  have hx := s.eval x
  have hy := s.eval y
  have ha : args = #[x, y] := by apply Array.ext'; simpa using hargs
  have ht' : ts = #[t, t] := by apply Array.ext'; simpa using hts
  subst ha
  subst ht'
  unfold appendA at h
  split at h
  rotate_left
  · cases h
  rename_i ty hty
  have hu := hτ.und hty
  split at h
  rotate_left
  · cases h
  rename_i elem hd
  rw [hd] at hu
  split at h
  rotate_left
  · cases h
  rename_i ety hety
  obtain ⟨it, i1, i2, i3, i4⟩ := hτ.info hety
  split at h
  rotate_left
  · cases h
  rename_i hcond
  simp only [Bool.and_eq_true, beq_iff_eq, Nat.ble_eq] at hcond
  obtain ⟨hs1, hzs⟩ := hcond
  split at h
  rotate_left
  · cases h
  rename_i sz news hsrc
  split at h
  rotate_left
  · cases h
  rename_i hcond2
  simp only [Bool.and_eq_true, beq_iff_eq] at hcond2
  obtain ⟨hsz, hones⟩ := hcond2
  obtain ⟨A, c, us, hyv, hr, hul, hnz, hcells⟩ := source_rep s hy hsrc hsz
  have hrun : ∀ {v1 : Value} {v' : Value} {w' : World}, a.eval x = v1 → (Builtin.append_ #[t, t] o.type #[v1, .slice A news.length c]).run P w = .ok v' w' → (execOp a.eval o).run P w = .ok (.value v') w' := fun {v1 v' w'} e1 e2 => by
    simp [execOp, ho, resolve, invoke, builtin, e1, hyv, e2]
  subst hsz
  split at h
  ·
    rename_i hn
    cases h
    have hxv : a.eval x = .slice none 0 0 := by
      unfold isNil at hn
      split at hn
      · rename_i he
        rw [he] at hx
        exact hx.inv_v
      · cases hn
    obtain ⟨hm, hby⟩ := hc _ (List.mem_singleton.2 rfl)
    obtain ⟨v', w', e1, e2, e3, e4⟩ := run_append_any (P := P) (w := w) B t o.type elem it ety.zero ety.size ety.bytes hu i1 i4 i2 i3 hzs hs1 (.slice none 0 0) 0 [] (World.ownsRow_nil w B elem ety.size) A news.length c us hul hcells
      (hr.ones hones) (by omega) (by rw [Nat.zero_add]; exact hby) s.base
    simp only [Nat.zero_add, List.nil_append] at e2
    have hb : Below w.heap.size w w' := ⟨e3.os, e3.tape, e3.output, e3.size, fun k hk => e3.block k hk (by simp [blk])⟩
    have hge : ∀ b, blk v' = some b → w.heap.size ≤ b := fun b hb' => by
      rcases e4 with e | e
      · rw [e] at hb'
        simp [blk] at hb'
      · rw [e] at hb'
        cases hb'
        exact Nat.le_refl _
    obtain ⟨ad, n, c', rfl⟩ := owns_slice e2
    refine stepped_value (hrun hxv e1) (s.adopt hα hb hge fun hle => ⟨_, us, updα_same _ _ _, e2, hr.mono hle, hnz, hs1⟩) fr_new (.own nh _ _ _ (updα_same _ _ _))
  · split at h
    rotate_left
    · cases h
    rename_i k he
    rw [he] at hx
    obtain ⟨ad, m, c1, hαk, hxv⟩ := hx.inv_own
    split at h
    rotate_left
    · cases h
    rename_i e sz' es hobj
    split at h
    rotate_left
    · cases h
    rename_i hcond3
    simp only [Bool.and_eq_true, beq_iff_eq] at hcond3
    obtain ⟨rfl, rfl⟩ := hcond3
    cases h
    obtain ⟨v0, xs, h1, h2, h3, h4, h5⟩ := s.objs _ _ hobj
    have hv0 : v0 = .slice ad m c1 := by
      have := h1.symm.trans hαk
      cases this
      rfl
    subst hv0
    obtain ⟨hm, hby⟩ := hc _ (List.mem_singleton.2 rfl)
    obtain ⟨v', w', e1, e2, e3, e4⟩ := run_append_any (P := P) (w := w) B t o.type e it ety.zero ety.size ety.bytes hu i1 i4 i2 i3 hzs hs1 _ _ xs h2 A news.length c us hul hcells (hr.ones hones) hm hby s.base
    obtain ⟨ad', n, c', rfl⟩ := owns_slice e2
    have hsim := s.grow (nh := nh) (o' := .row false e ety.size (es ++ news)) hobj rfl h1 hα e3 e4 fun hle => ⟨_, xs ++ us, updα_same _ _ _, by rw [List.length_append]; exact e2, by rw [flats_append]; exact (h3.mono hle).append (hr.mono hle), fun x hx => by
      rcases List.mem_append.1 hx with hx | hx
      · exact h4 x hx
      · exact hnz x hx, hs1⟩
    exact stepped_value (hrun hxv e1) hsim fr_new (.own nh _ _ _ (updα_same _ _ _))
theorem eqGuard_int (op : BinOp) (t : TypeId) (x y : Operand) (k k' : IntKind) (m n : Int) (w : World) : (eqGuard op t x y (.int k m) (.int k' n)).run P w = .ok () w := by
  unfold eqGuard
  cases op <;> rfl
theorem eqGuard_string (op : BinOp) (t : TypeId) (x y : Operand) (m n : ByteArray) (w : World) : (eqGuard op t x y (.string m) (.string n)).run P w = .ok () w := by
  unfold eqGuard
  cases op <;> rfl
theorem bin_sound (s : Sim B S0 w0 α T H a w) {o : Oper} {op : BinOp} {t t' : TypeId} {x y : Operand} (ho : o.op = .binOp op t x y t') {v : AV} {cs : List Prop} (h : binA op (evalA T x) (evalA T y) = some (v, cs)) (hc : ∀ c ∈ cs, c) :
    Stepped P B S0 w0 α T a w nh o v H := by
  have hx := s.eval x
  have hy := s.eval y
  unfold binA at h
  split at h
  · rename_i k m k' n e1 e2
    rw [e1] at hx
    rw [e2] at hy
    have hxv := hx.inv_v
    have hyv := hy.inv_v
    split at h
    rotate_left
    · cases h
    rename_i hk
    subst hk
    have fin : ∀ {u : Value}, v = .v u → (binOp op t (.int k m) (.int k n)).run P w = .ok u w → Stepped P B S0 w0 α T a w nh o v H := fun {u} hv hr => by
      subst hv
      refine stepped_pure s (run_v ho (by simp only [execOp, ho]; rfl) (u := u) ?_) (.v _)
      simp only [hxv, hyv, Sem.run_bind, eqGuard_int, Result.andThen_ok]
      exact hr
    split at h <;> cases h
    · exact fin rfl (by have h0 := hc _ (List.mem_singleton.2 rfl); simp [binOp, Op.intArith, h0])
    · exact fin rfl (by have h0 := hc _ (List.mem_singleton.2 rfl); simp [binOp, Op.intArith, h0])
    · exact fin rfl (by have h0 := hc _ (List.mem_singleton.2 rfl); simp [binOp, Op.intArith, h0])
    · exact fin rfl (by
        have h0 : n ≠ 0 := hc _ List.mem_cons_self
        have h1 : k.wrap (m.tdiv n) = m.tdiv n := hc _ (List.mem_cons_of_mem _ List.mem_cons_self)
        simp [binOp, Op.intDiv, h0, h1])
    · exact fin rfl (by
        have h0 : n ≠ 0 := hc _ (List.mem_singleton.2 rfl)
        simp [binOp, Op.intDiv, h0])
    all_goals exact fin rfl (by simp [binOp, Op.intCmp])
  · rename_i m n e1 e2
    rw [e1] at hx
    rw [e2] at hy
    have hxv := hx.inv_v
    have hyv := hy.inv_v
    have fin : ∀ {u : Value}, v = .v u → (binOp op t (.string m) (.string n)).run P w = .ok u w → Stepped P B S0 w0 α T a w nh o v H := fun {u} hv hr => by
      subst hv
      refine stepped_pure s (run_v ho (by simp only [execOp, ho]; rfl) (u := u) ?_) (.v _)
      simp only [hxv, hyv, Sem.run_bind, eqGuard_string, Result.andThen_ok]
      exact hr
    split at h <;> cases h
    · exact fin rfl (by
        have h0 := hc _ (List.mem_singleton.2 rfl)
        have h1 : ¬ (IntKind.i64.max < ((m.size + n.size : Nat) : Int)) := by omega
        have h2 : ¬ (((m.size + n.size : Nat) : Int) > IntKind.i64.max) := h1
        simp only [binOp, Op.stringOp, h2, if_false]
        rfl)
    · exact fin rfl (by simp [binOp, Op.stringOp])
    · exact fin rfl (by simp [binOp, Op.stringOp])
  · cases h
theorem opB_sound (hτ : Fits P τ) (s : Sim B S0 w0 α T H a w) (hα : α nh = none) (hn : getH H nh = none) {o : Oper} {orc orc' : List Orc} {v : AV} {upd : Upd} {cs : List Prop}
    (h : opB P τ nh T H o orc = .ok v upd orc' cs) (hc : ∀ c ∈ cs, c) : Stepped P B S0 w0 α T a w nh o v (applyU H upd) := by
  unfold opB at h
  split at h
  · rename_i x ho
    cases h
    exact stepped_pure s (by simp [execOp, ho]) (s.eval x)
  · rename_i x ho
    cases h
    exact stepped_pure s (by simp [execOp, ho]) (s.eval x)
  · rename_i c x y ho
    have hcv := s.eval c
    split at h
    · rename_i cb orc1 he
      cases h
      rw [he] at hcv
      have hcb : cb = true := hc _ (List.mem_singleton.2 rfl)
      subst hcb
      exact stepped_pure s (by simp [execOp, ho, hcv.inv_v, asBool]) (s.eval x)
    · rename_i cb orc1 he
      cases h
      rw [he] at hcv
      have hcb : cb = false := hc _ (List.mem_singleton.2 rfl)
      subst hcb
      exact stepped_pure s (by simp [execOp, ho, hcv.inv_v, asBool]) (s.eval y)
    · cases h
  · rename_i e ho
    split at h
    · rename_i ty hty
      cases h
      exact alloc_sound hτ s hα hn ho hty
    · cases h
  · rename_i e x ho
    split at h
    · rename_i hfl
      cases h
      exact box_sound s hα hn ho hfl
    · cases h
  · rename_i t ps ho
    split at h
    · rename_i y hy
      cases h
      exact build_sound hτ s ho hy
    · cases h
  · rename_i t len ps ho
    split at h
    · rename_i elem sz es hy
      cases h
      exact buildSlice_sound hτ s hα hn ho hy
    · cases h
  · rename_i t x ho
    exact load_sound hτ s ho h hc
  · rename_i t x y ho
    exact store_sound hτ s ho h hc
  · rename_i x ho
    have hx := s.eval x
    split at h
    · rename_i k off he
      cases h
      rw [he] at hx
      obtain ⟨b, hb, hv⟩ := hx.inv_op
      exact stepped_pure s (by simp [execOp, ho, hv]; rfl) (by exact .op _ _ _ hb)
    · rename_i bs he
      cases h
      rw [he] at hx
      obtain ⟨ad, us, hv, _⟩ := hx.inv_lp
      rw [hv] at hx
      exact stepped_pure s (by simp [execOp, ho, hv]) hx
    · rename_i k sz i off he
      cases h
      rw [he] at hx
      obtain ⟨b, n, c, hb, hv⟩ := hx.inv_rp
      exact stepped_pure s (by simp [execOp, ho, hv]; rfl) (by exact .rp _ _ _ _ _ _ _ hb)
    · rename_i f cap he
      cases h
      rw [he] at hx
      obtain ⟨us, hv, hl⟩ := hx.inv_fn
      exact stepped_pure s (by simp [execOp, ho, hv]; rfl) (by exact .fn _ _ _ hl)
    · cases h
  · rename_i op t x y t' ho
    split at h
    · rename_i v1 cs1 he
      cases h
      exact bin_sound s ho he hc
    · cases h
  · rename_i op t x ho
    have hx := s.eval x
    split at h
    · rename_i c he
      cases h
      rw [he] at hx
      exact stepped_pure s (run_v ho (by simp [execOp, ho]; rfl) (by simp [hx.inv_v, Op.unary])) (.v _)
    · rename_i k n he
      cases h
      rw [he] at hx
      have h0 := hc _ (List.mem_singleton.2 rfl)
      exact stepped_pure s (run_v ho (by simp [execOp, ho]; rfl) (u := .int k (-n)) (by simp only [hx.inv_v, Op.unary, Op.intArith, h0]; rfl)) (.v _)
    · cases h
  · rename_i sr d x ho
    have hx := s.eval x
    split at h
    · rename_i ts td hts htd
      have u1 := hτ.run_und hts
      have u2 := hτ.run_und htd
      split at h
      · rename_i k q n hd he
        cases h
        rw [he] at hx
        rw [hd] at u2
        have h0 := hc _ (List.mem_singleton.2 rfl)
        exact stepped_pure s (run_v ho (by simp [execOp, ho]; rfl) (u := .int k n) (by
          simp only [convert, Sem.run_bind, u1, u2, Result.andThen_ok, hx.inv_v]
          simp [Conv.intToInt, h0])) (.v _)
      · rename_i st hd he
        cases h
        rw [he] at hx
        rw [hd] at u2
        exact stepped_pure s (run_v ho (by simp [execOp, ho]; rfl) (u := .string st) (by
          simp only [convert, Sem.run_bind, u1, u2, Result.andThen_ok, hx.inv_v]
          rfl)) (.v _)
      · cases h
    · cases h
  · rename_i f first cap ho
    split at h
    · rename_i hf
      cases h
      have hf' : first = #[] := by simpa using hf
      subst hf'
      refine stepped_pure s (u := .func (.func f) #[] (cap.toList.map a.eval).toArray) ?_ (.fn _ _ _ (s.evalL cap.toList))
      have : cap.map a.eval = (cap.toList.map a.eval).toArray := by apply Array.ext'; simp
      simp [execOp, ho, Instr.makeFunc, this]
    · cases h
  · rename_i t l c ho
    exact make_sound hτ s hα hn ho h hc
  · rename_i t x lo hi ho
    exact slice_sound hτ s ho h hc
  · rename_i st x k ho
    split at h
    · rename_i y hy
      cases h
      exact fieldAddr_sound hτ s ho hy
    · cases h
  · rename_i st x k ho
    split at h
    · rename_i y hy
      cases h
      exact field_sound hτ s ho hy
    · cases h
  · rename_i t x i ho
    exact indexAddr_sound hτ s ho h hc
  · rename_i t x i ho
    exact index_sound hτ s ho h hc
  · rename_i x i ho
    have hx := s.eval x
    split at h
    · rename_i vs he
      rw [he] at hx
      obtain ⟨us, hv, hl⟩ := hx.inv_tup
      split at h
      · rename_i y hy
        cases h
        obtain ⟨u, hu, hr⟩ := hl.get hy
        have hu' : us.toArray[i]? = some u := by simpa using hu
        exact stepped_pure s (run_v ho (by simp [execOp, ho]; rfl) (u := u) (by simp [Instr.extract, hv, hu'])) hr
      · cases h
    · cases h
  · rename_i fo args ts ho
    split at h
    · rename_i f cap he
      exact call_sound s hα ho he h hc
    · cases h
  · rename_i args ts ho
    split at h
    · rename_i x t hargs hts
      have hx := s.eval x
      have ha : args = #[x] := by apply Array.ext'; simpa using hargs
      have ht' : ts = #[t] := by apply Array.ext'; simpa using hts
      subst ha
      subst ht'
      split at h
      rotate_left
      · cases h
      rename_i ty hty
      have hund := hτ.run_und hty
      split at h
      rotate_left
      · cases h
      rename_i n hl
      cases h
      refine stepped_pure s (u := .int .i64 n) ?_ (.v _)
      have hrun : (Builtin.len_ #[t] o.type #[a.eval x]).run P w = .ok (.int .i64 n) w := by
        unfold lenA at hl
        split at hl
        · rename_i hd
          rw [hd] at hund
          split at hl
          · rename_i st he
            cases hl
            rw [he] at hx
            simp [Builtin.len_, hund, hx.inv_v, goInt]
          · cases hl
        · rename_i m e hd
          rw [hd] at hund
          cases hl
          simp [Builtin.len_, hund, goInt]
        · rename_i kt et hd
          rw [hd] at hund
          split at hl
          · rename_i hh he
            split at hl
            · rename_i fr es hobj
              cases hl
              obtain ⟨b, arr, clock, hα', _, hb, hM⟩ := s.objs hh _ hobj
              rw [he] at hx
              have hxv : a.eval x = .map (some b) := by
                obtain ⟨r', hu, hv⟩ := hx.inv_mp
                rw [hα'] at hu
                cases hu
                exact hv
              have hlen := hM.1.length_eq
              simp [Builtin.len_, hund, hxv, getObj, Sem.run, hb, goInt, Result.andThen] at hlen ⊢
              omega
            · cases hl
          · rename_i es he
            cases hl
            rw [he] at hx
            obtain ⟨b, arr, clock, hxv, _, hb, hM⟩ := hx.inv_mv
            have hb : w.heap[b]? = some (.map arr clock) := hb
            have hlen := hM.1.length_eq
            simp [Builtin.len_, hund, hxv, getObj, Sem.run, hb, goInt, Result.andThen] at hlen ⊢
            omega
          · cases hl
        · rename_i e hd
          rw [hd] at hund
          have key : ∀ {ad : Option Addr} {m c : Nat}, a.eval x = .slice ad m c → n = (m : Int) → (Builtin.len_ #[t] o.type #[a.eval x]).run P w = .ok (.int .i64 n) w := fun {ad m c} e1 e2 => by
            simp [Builtin.len_, hund, e1, e2, goInt]
          split at hl
          · rename_i ad m c he
            cases hl
            rw [he] at hx
            exact key hx.inv_v rfl
          · split at hl
            · rename_i sz es hel
              cases hl
              unfold elemsA at hel
              have hx := plainOf_rep hx
              split at hel
              · rename_i sz' es' he
                cases hel
                rw [he] at hx
                obtain ⟨A, c, hv, _⟩ := hx.inv_lst
                exact key hv rfl
              · rename_i k he
                rw [he] at hx
                obtain ⟨ad, m, c, hα, hv⟩ := hx.inv_own
                split at hel
                · rename_i fr e' sz' es' hobj
                  cases hel
                  obtain ⟨v0, xs, h1, h2, h3, h4, h5⟩ := s.objs _ _ hobj
                  have hv0 : v0 = .slice ad m c := by
                    have := h1.symm.trans hα
                    cases this
                    rfl
                  subst hv0
                  refine key hv ?_
                  rcases h2.2 with ⟨e1, e2⟩ | ⟨g, cap, cur, e1, _⟩
                  · cases e1
                    rw [e2]
                  · cases e1
                    rfl
                · cases hel
              · cases hel
            · cases hl
        · cases hl
      simp only [execOp, ho, resolve, invoke, builtin, Sem.run_bind, Sem.run_pure, Result.andThen_ok, List.map_toArray, List.map_cons, List.map_nil]
      rw [hrun]
      rfl
    · cases h
  · rename_i args ts ho
    split at h
    · rename_i x y t t' hargs hts
      split at h
      · rename_i ht
        have ht' : t = t' := by simpa using ht
        subst ht'
        exact append_sound hτ s hα ho hargs hts h hc
      · cases h
    · cases h
  · rename_i args ts ho
    split at h
    · rename_i x y hargs
      have ha : args = #[x, y] := by apply Array.ext'; simpa using hargs
      subst ha
      have hx := s.eval x
      have hy := s.eval y
      split at h
      · rename_i k m k' n e1 e2
        cases h
        rw [e1] at hx
        rw [e2] at hy
        refine stepped_pure s (u := .int k (if n < m then n else m)) ?_ (.v _)
        simp [execOp, ho, resolve, invoke, builtin, Builtin.min_, hx.inv_v, hy.inv_v, Builtin.min2]
      · cases h
    · cases h
  · rename_i args ts ho
    split at h
    · rename_i x y hargs
      have ha : args = #[x, y] := by apply Array.ext'; simpa using hargs
      subst ha
      have hx := s.eval x
      have hy := s.eval y
      split at h
      · rename_i k m k' n e1 e2
        cases h
        rw [e1] at hx
        rw [e2] at hy
        refine stepped_pure s (u := .int k (if n > m then n else m)) ?_ (.v _)
        simp [execOp, ho, resolve, invoke, builtin, Builtin.max_, hx.inv_v, hy.inv_v, Builtin.max2]
      · cases h
    · cases h
  · cases h
theorem op_sound (hτ : Fits P τ) (s : Sim B S0 w0 α T H a w) (hα : α nh = none) (hn : getH H nh = none) {o : Oper} {orc orc' : List Orc} {v : AV} {upd : Upd} {cs : List Prop}
    (h : opA P τ nh T H o orc = .ok v upd orc' cs) (hc : ∀ c ∈ cs, c) : Stepped P B S0 w0 α T a w nh o v (applyU H upd) := by
  unfold opA at h
  split at h
  · split at h
    · cases h
      obtain ⟨u, h1, h2⟩ := (hc _ (List.mem_singleton.2 rfl)) (envOf B S0 α H w) a.eval (fun x _ => s.eval x)
      exact stepped_pure s h1 h2
    · exact opB_sound hτ s hα hn h hc
  · exact opB_sound hτ s hα hn h hc
end Go.Flow
namespace Go.Flow
open Go Go.RowKit
open Go.ChangeMaps (setBlock heap_setBlock_same heap_setBlock_other)
variable {P : Program} {τ : Tab} {B : Nat} {S0 : Nat → Prop} {w0 : World} {α : Nat → Option Value} {a : Act} {w : World}
inductive IRes where
  | ok (v : AV) (H : Heap) (orc : List Orc) (cs : List Prop)
  | bad (why : String) (info : List AV)
def plainVs : List AV → Option (List Value)
  | [] => some []
  | .v x :: xs => match plainVs xs with
    | some us => some (x :: us)
    | none => none
  | _ :: _ => none
def plainV : AV → Option Value
  | .v x => some x
  | .agg cs => match plainVs cs with
    | some us => some (.agg us.toArray)
    | none => none
  | _ => none
def Found (es : List (Value × Value)) (k : Value) : Option Value → Prop
  | some v => (k, v) ∈ es
  | none => ∀ p ∈ es, p.1 ≠ k
def KeyFit (P : Program) (kt : TypeId) (es : List (Value × Value)) (k : Value) : Prop :=
  Maps.Keyed P kt ∧ (∃ l, keyOf P kt k = some l) ∧ ∀ p ∈ es, ∃ l, keyOf P kt p.1 = some l
def putM (es : List (Value × Value)) (k v : Value) : Option Value → List (Value × Value)
  | some _ => es
  | none => (k, v) :: es
def noMem : AV → Bool
  | .v _ => true
  | .any => true
  | .own _ => true
  | .op _ _ => true
  | .mp _ => true
  | _ => false
def auxO : Option AObj → Option AObj
  | some (.aux x) => some (.aux x)
  | _ => none
def auxOnly (H : Heap) : Heap := H.map auxO
def Last (P : Program) (f : FuncId) (ys : List AV) (H : Heap) (r : Value) : Prop :=
  Body P f ∧ ∀ (B : Nat) (S0 : Nat → Prop) (w0 : World) (α : Nat → Option Value) (a : Act) (w : World), Sim B S0 w0 α ys H a w → Calls P f a.tmps w fun e w' => e = .returned r ∧ Below B w w' ∧ B ≤ w'.heap.size ∧
    ∀ h x b, getH H h = some (.aux x) → α h = some (.chan (some b)) → w'.heap[b]? = w.heap[b]?
def isU8 : Value → Bool
  | .int .u8 0 => true
  | _ => false
theorem isU8_eq {v : Value} (h : isU8 v = true) : v = .int .u8 0 := by
  unfold isU8 at h
  split at h
  · rfl
  · cases h
theorem run_append_str (w : World) (base : Nat) (t u ty e : TypeId) (i : TypeInfo) (ht : P.underlying t = some (.slice e)) (hu : P.underlying u = some .string) (hi : P.info? e = some i) (hz : i.zero = some (.int .u8 0))
    (hsize : i.size = 1) (hby : i.bytes = 1) (v : Value) (n : Nat) (xs : List Value) (hown : w.ownsRow base e 1 v n xs) (s : ByteArray) (hbytes : n + s.size ≤ 140737488355328) (hbase : base ≤ w.heap.size) :
    ∃ v' w', (Builtin.append_ #[t, u] ty #[v, .string s]).run P w = .ok v' w' ∧ w'.ownsRow base e 1 v' (n + s.size) (xs ++ Lib.strCells s) ∧ w.grownBy w' (blk v) ∧ (blk v' = blk v ∨ blk v' = some w.heap.size) := by
  obtain ⟨v', w', h1, h2, h3, h4⟩ := Lib.run_append_own_string (P := P) (w := w) base t u ty e i ht hu hi hz hsize hby v n xs hown s (by simp only [maxLen]; omega) hbytes hbase
  refine ⟨v', w', h1, h2, by rw [blk_own v (owns_slice hown)]; exact h3, ?_⟩
  have hxl : xs.length = n := by simpa using hown.1
  rcases hown.2 with ⟨rfl, rfl⟩ | ⟨g, cap, cur, rfl, hbg, hg, hnc, hcm, hcs, htake⟩
  · by_cases hm : s.size = 0
    · left; rw [h4.2 ⟨rfl, hm⟩]
    · right
      have hr := run_append_nil_string (P := P) w t u ty e i (.int .u8 0) ht hu hi hz s (by omega) (by omega) (by rw [hby]; omega)
      rw [hr] at h1
      cases h1
      rfl
  · by_cases hroom : n + s.size ≤ cap
    · left
      have hcs' : cur.size = cap := by simpa using hcs
      have hr := Lib.run_append_room_string (P := P) (w := w) t u ty e i ht hu hi hsize g n cap cur hg s hroom (by omega)
      rw [hr] at h1
      cases h1
      rfl
    · right
      have holds : ∀ j u, xs[j]? = some u → w.cell? ((⟨g, 0, none⟩ : Addr).add j) = some u := hown.cells (g := g) rfl
      have hr := Lib.run_append_grow_string (P := P) (w := w) t u ty e i (.int .u8 0) ht hu hi hz ⟨g, 0, none⟩ n cap xs (by rw [hsize]; simpa using hxl) holds s (by omega) (by omega) (by rw [hby]; exact growslice_fits (by omega) (by omega))
      rw [hr] at h1
      cases h1
      rfl
def isMp : AV → Bool
  | .mp _ => true
  | .mv _ => true
  | _ => false
def mapOf (H : Heap) : AV → Option (List (Value × Value))
  | .mp h => match getH H h with
    | some (.map _ es) => some es
    | _ => none
  | .mv es => some es
  | _ => none
theorem mapOf_rep {T : List AV} {H : Heap} (s : Sim B S0 w0 α T H a w) {x : AV} {u : Value} {es : List (Value × Value)} (h : mapOf H x = some es) (hr : Rep (envOf B S0 α H w) x u) :
    ∃ b arr clock, u = .map (some b) ∧ w.heap[b]? = some (.map arr clock) ∧ MapIs es arr clock := by
  unfold mapOf at h
  split at h
  · rename_i k
    split at h
    · rename_i fr es' ho
      cases h
      obtain ⟨b, arr, clock, hα, _, hb, hM⟩ := s.objs k _ ho
      obtain ⟨r, hu, hv⟩ := hr.inv_mp
      rw [hα] at hu
      cases hu
      exact ⟨b, arr, clock, hv, hb, hM⟩
    · cases h
  · cases h
    obtain ⟨b, arr, clock, h1, _, h2, h3⟩ := hr.inv_mv
    exact ⟨b, arr, clock, h1, h2, h3⟩
  · cases h
def opM (P : Program) (τ : Tab) (T : List AV) (H : Heap) (o : Op) (orc : List Orc) : Option IRes :=
  match o with
  | .makeMap _ none => some (.ok (.mp H.length) (H ++ [some (.map false [])]) orc [])
  | .lookup t m k ok => match evalA T m, plainV (evalA T k) with
    | x, some kv => if isMp x then some (match τ t, mapOf H x with
      | some ty, some es => match ty.desc with
        | .map kt et => match τ et, orc with
          | some ety, .m r :: orc => .ok (if ok then .tup [constA (r.getD ety.zero), .v (.bool r.isSome)] else constA (r.getD ety.zero)) H orc [Found es kv r, KeyFit P kt es kv]
          | _, _ => .bad "map?" (.v kv :: es.map fun p => .tup [.v p.1, .v p.2])
        | _ => .bad "lookup: type" []
      | _, _ => .bad "lookup: object" []) else some (.bad "lookup" [x, evalA T k])
    | x, _ => some (.bad "lookup" [x, evalA T k])
  | .mapUpdate t m k x => match evalA T m, plainV (evalA T k), plainV (evalA T x) with
    | .mp h, some kv, some xv => some (match τ t, getH H h with
      | some ty, some (.map false es) => match ty.desc with
        | .map kt _ => match orc with
          | .m r :: orc => .ok (.v undef) (setAt H h (some (.map false (putM es kv xv r)))) orc [Found es kv (r.map fun _ => xv), KeyFit P kt es kv]
          | _ => .bad "map?" (.v kv :: es.map fun p => .tup [.v p.1, .v p.2])
        | _ => .bad "mapUpdate: type" []
      | _, _ => .bad "mapUpdate: object" [])
    | x, _, _ => some (.bad "mapUpdate" [x, evalA T k])
  | .call ⟨.builtin .append, args, ts⟩ => match args.toList, ts.toList with
    | [x, y], [t, u] => match τ t, τ u, evalA T y with
      | some ty, some uy, .v (.string st) => match ty.desc, uy.desc with
        | .slice elem, .string => match τ elem with
          | some ety => if (ety.size == 1) && (ety.bytes == 1) && isU8 ety.zero then
              some (if isNil (evalA T x) then .ok (.own H.length) (H ++ [some (.vrow false elem (Lib.strCells st))]) orc [st.size ≤ 140737488355328]
                else match evalA T x with
                  | .own k => match (match getH H k with
                      | some (.vrow false e us) => some (e, us)
                      | some (.row false e 1 es) => (plainVs es).map fun us => (e, us)
                      | _ => none) with
                    | some (e, us) => if e == elem then .ok (.own H.length) (setAt H k none ++ [some (.vrow false elem (us ++ Lib.strCells st))]) orc [us.length + st.size ≤ 140737488355328] else .bad "append: type" []
                    | none => .bad "append: object" []
                  | z => .bad "append: to" [z])
            else none
          | none => none
        | _, _ => none
      | _, _, _ => none
    | _, _ => none
  | .call ⟨.value fo, args, _⟩ => match orc with
    | .l r :: orc => some (match evalA T fo with
      | .fn f [] => if T.all noMem then .ok (.v r) (auxOnly H) orc [Last P f (args.toList.map (evalA T)) H r] else .bad "last" T
      | x => .bad "last" [x])
    | _ => none
  | _ => none
theorem auxOnly_length (H : Heap) : (auxOnly H).length = H.length := by simp [auxOnly]
theorem auxO_some {x : Option AObj} {o : AObj} : auxO x = some o ↔ ∃ y, o = .aux y ∧ x = some o := by
  constructor
  · intro h
    unfold auxO at h
    split at h
    · cases h; exact ⟨_, rfl, rfl⟩
    · cases h
  · rintro ⟨y, rfl, rfl⟩
    rfl
theorem auxOnly_get (H : Heap) (k : Nat) (o : AObj) : getH (auxOnly H) k = some o ↔ ∃ x, o = .aux x ∧ getH H k = some o := by
  have e : getH (auxOnly H) k = auxO (getH H k) := by
    unfold getH auxOnly
    rw [List.getElem?_map]
    cases H[k]? <;> rfl
  rw [e]
  exact auxO_some
theorem auxOnly_sub {H : Heap} {k : Nat} {o : AObj} (h : getH (auxOnly H) k = some o) : getH H k = some o := by
  obtain ⟨_, _, h⟩ := (auxOnly_get H k o).1 h
  exact h
theorem noMem_rep {E E' : Env} (h : ∀ k v, E.α k = some v → E'.α k = some v) {x : AV} {u : Value} (hx : noMem x = true) (hr : Rep E x u) : Rep E' x u := by
  cases hr with
  | v x => exact .v _
  | any x => exact .any _
  | own k a n c hu => exact .own _ _ _ _ (h _ _ hu)
  | op k off b hu => exact .op _ _ _ (h _ _ hu)
  | mp k r hu => exact .mp _ _ (h _ _ hu)
  | _ => cases hx
theorem noMem_repL {E E' : Env} (h : ∀ k v, E.α k = some v → E'.α k = some v) : ∀ {xs : List AV} {us : List Value}, xs.all noMem = true → RepL E xs us → RepL E' xs us
  | _, _, _, .nil => .nil
  | _, _, hx, .cons _ _ _ _ h1 h2 => by
    simp only [List.all_cons, Bool.and_eq_true] at hx
    exact .cons _ _ _ _ (noMem_rep h hx.1 h1) (noMem_repL h hx.2 h2)
theorem opM_length {T : List AV} {H H' : Heap} {o : Op} {orc orc' : List Orc} {v : AV} {cs : List Prop} (h : opM P τ T H o orc = some (.ok v H' orc' cs)) : H.length ≤ H'.length := by
  have hge : ∀ (X : Heap) (k : Nat) (o : Option AObj), X.length ≤ (setAt X k o).length := by
    intro X
    induction X with
    | nil => intro k o; simp
    | cons x xs ih => intro k o; cases k <;> simp [setAt, ih]
  unfold opM at h
  split at h
  · cases h; simp
  · split at h
    · split at h
      rotate_left
      · cases h
      simp only [Option.some.injEq] at h
      split at h
      · split at h
        · split at h
          · cases h; exact Nat.le_refl _
          · cases h
        · cases h
      · cases h
    · cases h
  · split at h
    · simp only [Option.some.injEq] at h
      split at h
      · split at h
        · split at h
          · cases h; exact hge _ _ _
          · cases h
        · cases h
      · cases h
    · cases h
  · split at h
    · split at h
      · split at h
        · split at h
          · split at h
            · simp only [Option.some.injEq] at h
              split at h
              · cases h; simp
              · split at h
                · split at h
                  · split at h
                    · cases h
                      have := hge H
                      simp only [List.length_append, List.length_singleton]
                      exact Nat.le_trans (this _ _) (Nat.le_succ _)
                    · cases h
                  · cases h
                · cases h
            · cases h
          · cases h
        · cases h
      · cases h
    · cases h
  · split at h
    · simp only [Option.some.injEq] at h
      split at h
      · split at h
        · cases h; rw [auxOnly_length]; exact Nat.le_refl _
        · cases h
      · cases h
    · cases h
  · cases h
theorem plainVs_rep {E : Env} : ∀ {xs : List AV} {us vs : List Value}, plainVs xs = some us → RepL E xs vs → vs = us
  | [], us, vs, h, hr => by cases h; cases hr; rfl
  | x :: xs, us, vs, h, hr => by
    cases hr with
    | cons _ v _ vs hx hxs =>
      cases x <;> try (cases h; done)
      rename_i x
      simp only [plainVs] at h
      split at h
      · rename_i us' h'
        cases h
        rw [hx.inv_v, plainVs_rep h' hxs]
      · cases h
theorem plainVs_flats : ∀ {es : List AV} {us : List Value}, plainVs es = some us → flats es = es
  | [], _, _ => rfl
  | z :: zs, us, h => by
    cases z <;> try (cases h; done)
    simp only [plainVs] at h
    split at h
    · rename_i us' h'
      simp only [flats, AV.flat, List.cons_append, List.nil_append, plainVs_flats h']
    · cases h
theorem plainV_rep {E : Env} {x : AV} {u v : Value} (h : plainV x = some u) (hr : Rep E x v) : v = u := by
  cases x <;> try (cases h; done)
  · cases h; exact hr.inv_v
  · simp only [plainV] at h
    split at h
    · rename_i us h'
      cases h
      obtain ⟨vs, rfl, hvs⟩ := hr.inv_agg
      rw [plainVs_rep h' hvs]
    · cases h
theorem MapIs.mem {es : List (Value × Value)} {arr : Array MapEntry} {clock : Nat} (h : MapIs es arr clock) {k v : Value} : (k, v) ∈ es ↔ ∃ e ∈ arr.toList, e.key = k ∧ e.val = v := by
  rw [← h.1.mem_iff, List.mem_map]
  constructor
  · rintro ⟨e, he, heq⟩
    cases heq
    exact ⟨e, he, rfl, rfl⟩
  · rintro ⟨e, he, rfl, rfl⟩
    exact ⟨e, he, rfl⟩
theorem MapIs.keys {es : List (Value × Value)} {arr : Array MapEntry} {clock : Nat} (h : MapIs es arr clock) {Q : Value → Prop} (hq : ∀ p ∈ es, Q p.1) : ∀ e ∈ arr.toList, Q e.key := fun e he =>
  hq (e.key, e.val) (h.mem.2 ⟨e, he, rfl, rfl⟩)
theorem key_eq : ∀ {l : List MapEntry}, (l.map (·.key)).Nodup → ∀ {x y : MapEntry}, x ∈ l → y ∈ l → x.key = y.key → x = y
  | [], _, _, _, hx, _, _ => by simp at hx
  | a :: r, hp, x, y, hx, hy, h => by
    rw [List.map_cons, List.nodup_cons] at hp
    rcases List.mem_cons.1 hx with ex | hx'
    · rcases List.mem_cons.1 hy with ey | hy'
      · rw [ex, ey]
      · exact absurd (List.mem_map.2 ⟨y, hy', by rw [← h, ex]⟩) hp.1
    · rcases List.mem_cons.1 hy with ey | hy'
      · exact absurd (List.mem_map.2 ⟨x, hx', by rw [h, ey]⟩) hp.1
      · exact key_eq hp.2 hx' hy' h
theorem MapIs.find {es : List (Value × Value)} {arr : Array MapEntry} {clock : Nat} (h : MapIs es arr clock) {kt : TypeId} {k : Value} {r : Option Value} (hF : Found es k r) (hK : KeyFit P kt es k) (w : World) :
    (r = none ∧ (Instr.findKey kt k arr.toList).run P w = .ok none w) ∨ ∃ v j e, r = some v ∧ (Instr.findKey kt k arr.toList).run P w = .ok (some (j, v)) w ∧ arr.toList[j]? = some e ∧ e.key = k ∧ e.val = v := by
  obtain ⟨K, ⟨l, hl⟩, hes⟩ := hK
  rcases K.find w hl arr.toList (h.keys (Q := fun k => ∃ l, keyOf P kt k = some l) hes) with ⟨h1, h2⟩ | ⟨j, e, h1, h2, h3⟩
  · left
    refine ⟨?_, h1⟩
    cases r with
    | none => rfl
    | some v =>
      obtain ⟨e, he, hk, _⟩ := h.mem.1 hF
      exact absurd hk (h2 e he)
  · right
    have hm : e ∈ arr.toList := List.mem_of_getElem? h2
    cases r with
    | none => exact absurd h3 (hF (e.key, e.val) (h.mem.2 ⟨e, hm, rfl, rfl⟩))
    | some v =>
      obtain ⟨e', he', hk, hv⟩ := h.mem.1 hF
      have := key_eq h.2.2.2 hm he' (h3.trans hk.symm)
      subst this
      subst hv
      exact ⟨_, j, e, rfl, h1, h2, h3, rfl⟩
theorem opM_sound (hτ : Fits P τ) {T : List AV} {H : Heap} (s : Sim B S0 w0 α T H a w) (hf : α H.length = none) {o : Oper} {orc orc' : List Orc} {v : AV} {H' : Heap} {cs : List Prop} (h : opM P τ T H o.op orc = some (.ok v H' orc' cs)) (hc : ∀ c ∈ cs, c) :
    Stepped P B S0 w0 α T a w H.length o v H' := by
  have hnone : getH H H.length = none := by simp [getH]
  have hend : ∀ (X : Heap) (x : Option AObj), setAt X X.length x = X ++ [x] := by
    intro X x
    induction X with
    | nil => rfl
    | cons y ys ih => simp only [List.length_cons, setAt, List.cons_append, ih]
  unfold opM at h
  split at h
  · rename_i t ho
    cases h
    have hsim := s.new (nh := H.length) (o := .map false []) (v := .map (some w.heap.size)) (ob := .map #[] 0) hf hnone rfl
      ⟨w.heap.size, #[], 0, updα_same _ _ _, s.base, (MapKept.heap_alloc w _).1, ⟨by simp, by simp, by simp, by simp⟩⟩
    have hfr := fr_new (α := α) (nh := H.length) (X := H) (o := some (.map false [])) (v := .map (some w.heap.size))
    rw [hend] at hsim hfr
    refine stepped_value (u := .map (some w.heap.size)) (run_v ho (by simp [execOp, ho]; rfl) ?_) hsim hfr (.mp _ _ (updα_same _ _ _))
    simp [Instr.makeMap, Result.andThen]
  · rename_i t m k ok ho
    split at h
    rotate_left
    · cases h
    rename_i kv he2
    split at h
    rotate_left
    · cases h
    simp only [Option.some.injEq] at h
    split at h
    rotate_left
    · cases h
    rename_i ty es hty hmap
    split at h
    rotate_left
    · cases h
    rename_i kt et hd
    split at h
    rotate_left
    · cases h
    rename_i ety r orc1 hety
    cases h
    have hF := hc _ (List.mem_cons_self ..)
    have hK := hc _ (List.mem_cons_of_mem _ (List.mem_singleton.2 rfl))
    obtain ⟨b, arr, clock, hmv, hb, hM⟩ := mapOf_rep s hmap (s.eval m)
    have hkv := plainV_rep he2 (s.eval k)
    have hund := hτ.run_und hty w
    rw [hd] at hund
    obtain ⟨l, hl⟩ := hK.2.1
    have hrun : (Instr.lookup t (a.eval m) (a.eval k) ok).run P w = .ok (if ok then .tuple #[r.getD ety.zero, .bool r.isSome] else r.getD ety.zero) w := by
      rw [hmv, hkv]
      rcases hM.find hF hK w with ⟨rfl, h1⟩ | ⟨v', j, e, rfl, h1, _⟩
      · cases ok <;> simp [Instr.lookup, hund, MapKept.run_getObj_map hb, hK.1.check w _ hl, h1, hτ.run_zero hety, Result.andThen]
      · cases ok <;> simp [Instr.lookup, hund, MapKept.run_getObj_map hb, hK.1.check w _ hl, h1, Result.andThen]
    refine stepped_value (run_v ho (by simp [execOp, ho] <;> rfl) hrun) s (fun _ _ => rfl) ?_
    cases ok with
    | true => exact .tup _ [_, _] (.cons _ _ _ _ (rep_const _ _) (.cons _ _ _ _ (.v _) .nil))
    | false => exact rep_const _ _
  · rename_i t m k x ho
    split at h
    rotate_left
    · cases h
    rename_i hh kv xv he1 he2 he3
    simp only [Option.some.injEq] at h
    split at h
    rotate_left
    · cases h
    rename_i ty es hty hobj
    split at h
    rotate_left
    · cases h
    rename_i kt et hd
    split at h
    rotate_left
    · cases h
    rename_i r orc1
    cases h
    have hF := hc _ (List.mem_cons_self ..)
    have hK := hc _ (List.mem_cons_of_mem _ (List.mem_singleton.2 rfl))
    obtain ⟨b, arr, clock, hα, hB, hb, hM⟩ := s.objs hh _ hobj
    have hm := s.eval m
    rw [he1] at hm
    have hmv : a.eval m = .map (some b) := by
      obtain ⟨r', hu, hv⟩ := hm.inv_mp
      rw [hα] at hu
      cases hu
      exact hv
    have hkv := plainV_rep he2 (s.eval k)
    have hxv := plainV_rep he3 (s.eval x)
    have hund := hτ.run_und hty w
    rw [hd] at hund
    obtain ⟨l, hl⟩ := hK.2.1
    have hgr : ∀ ob : Obj, w.grownBy (setBlock w b ob) (some b) := fun ob => ⟨rfl, rfl, rfl, by simp [setBlock], fun i _ hi => heap_setBlock_other hb _ (fun e => hi (by rw [e]))⟩
    have fin : ∀ {arr' : Array MapEntry} {clock' : Nat} {es' : List (Value × Value)}, (Instr.mapUpdate t (a.eval m) (a.eval k) (a.eval x)).run P w = .ok () (setBlock w b (.map arr' clock')) → MapIs es' arr' clock' →
        Stepped P B S0 w0 α T a w H.length o (.v undef) (setAt H hh (some (.map false es'))) := fun {arr' clock' es'} hrun hM' => by
      refine stepped_skip (w' := setBlock w b (.map arr' clock')) (α' := α) ?_ (s.upd (row := some b) hobj rfl hα (fun g e => by cases e; rfl) (hgr _) ?_) (fun _ _ => rfl)
      · simp [execOp, ho, hrun, Result.andThen]
      · exact ⟨b, arr', clock', hα, hB, heap_setBlock_same hb _, hM'⟩
    rcases hM.find hF hK w with ⟨hr, h1⟩ | ⟨v', j, e, hr, h1, h2, h3, h4⟩
    · cases r with
      | some v0 => cases hr
      | none =>
        refine fin (arr' := arr.push { key := kv, val := xv, born := clock }) (clock' := clock + 1) ?_ ?_
        · rw [hmv, hkv, hxv]
          simp [Instr.mapUpdate, hund, MapKept.run_getObj_map hb, hK.1.check w _ hl, h1, MapKept.run_setObj_map _ hb, Result.andThen, setBlock]
        · obtain ⟨p1, p2, p3, p4⟩ := hM
          refine ⟨?_, ?_, ?_, ?_⟩
          · simp only [putM, Array.toList_push, List.map_append, List.map_cons, List.map_nil]
            exact (List.perm_append_singleton _ _).trans (p1.cons _)
          · intro e he
            simp only [Array.toList_push, List.mem_append, List.mem_singleton] at he
            rcases he with he | rfl
            · exact Nat.lt_succ_of_lt (p2 e he)
            · exact Nat.lt_succ_self _
          · simp only [Array.toList_push, List.map_append, List.map_cons, List.map_nil]
            refine List.nodup_append.2 ⟨p3, by simp, fun x hx y hy => ?_⟩
            simp only [List.mem_singleton] at hy
            obtain ⟨e, he, rfl⟩ := List.mem_map.1 hx
            have := p2 e he
            omega
          · simp only [Array.toList_push, List.map_append, List.map_cons, List.map_nil]
            refine List.nodup_append.2 ⟨p4, by simp, fun x hx y hy => ?_⟩
            simp only [List.mem_singleton] at hy
            obtain ⟨e, he, rfl⟩ := List.mem_map.1 hx
            subst hy
            exact hF (e.key, e.val) ((MapIs.mem ⟨p1, p2, p3, p4⟩).2 ⟨e, he, rfl, rfl⟩)
    · cases r with
      | none => cases hr
      | some v0 =>
        have hv' : v' = xv := by simpa using hr.symm
        subst hv'
        refine fin (arr' := arr) (clock' := clock) ?_ hM
        have hj : j < arr.size := by
          have := (List.getElem?_eq_some_iff.1 h2).1
          simpa using this
        have he : arr[j]? = some e := by
          rw [← Array.getElem?_toList]; exact h2
        have hmod : (arr.modify j fun e0 => { e0 with key := kv, val := v' }) = arr := by
          apply Array.ext'
          rw [Array.toList_modify]
          apply List.ext_getElem?
          intro i
          rw [List.getElem?_modify]
          by_cases hij : j = i
          · subst hij
            rw [h2]
            cases e
            simp at h3 h4
            simp [h3, h4]
          · simp [hij]
        rw [hmv, hkv, hxv]
        have hstay := hK.1.stays w hl
        simp [Instr.mapUpdate, hund, MapKept.run_getObj_map hb, hK.1.check w _ hl, h1, he, h3, hstay, hmod, MapKept.run_setObj_map _ hb, Result.andThen, setBlock]
  · rename_i args ts ho
    split at h
    rotate_left
    · cases h
    rename_i x y t u hargs hts
    split at h
    rotate_left
    · cases h
    rename_i ty uy st hty huy hy
    split at h
    rotate_left
    · cases h
    rename_i elem hd hdu
    split at h
    rotate_left
    · cases h
    rename_i ety hety
    split at h
    rotate_left
    · cases h
    rename_i hcond
    simp only [Bool.and_eq_true, beq_iff_eq] at hcond
    obtain ⟨⟨hz1, hb1⟩, hz0⟩ := hcond
    have hz0 := isU8_eq hz0
    simp only [Option.some.injEq] at h
    have ha : args = #[x, y] := by apply Array.ext'; simpa using hargs
    have ht' : ts = #[t, u] := by apply Array.ext'; simpa using hts
    subst ha
    subst ht'
    have ht1 := hτ.und hty
    rw [hd] at ht1
    have hu1 := hτ.und huy
    rw [hdu] at hu1
    obtain ⟨it, i1, i2, i3, i4⟩ := hτ.info hety
    rw [hz1] at i2
    rw [hb1] at i3
    rw [hz0] at i4
    have hyv := s.eval y
    rw [hy] at hyv
    have hyv := hyv.inv_v
    have hx := s.eval x
    have hrun : ∀ {v1 : Value} {v' : Value} {w' : World}, a.eval x = v1 → (Builtin.append_ #[t, u] o.type #[v1, .string st]).run P w = .ok v' w' → (execOp a.eval o).run P w = .ok (.value v') w' := fun {v1 v' w'} e1 e2 => by
      simp [execOp, ho, resolve, invoke, builtin, e1, hyv, e2]
    split at h
    · rename_i hn
      cases h
      have hxv : a.eval x = .slice none 0 0 := by
        unfold isNil at hn
        split at hn
        · rename_i he
          rw [he] at hx
          exact hx.inv_v
        · cases hn
      have hm := hc _ (List.mem_singleton.2 rfl)
      obtain ⟨v', w', e1, e2, e3, e4⟩ := run_append_str (P := P) w B t u o.type elem it ht1 hu1 i1 i4 i2 i3 (.slice none 0 0) 0 [] (World.ownsRow_nil w B elem 1) st (by omega) s.base
      simp only [Nat.zero_add, List.nil_append] at e2
      have hb : Below w.heap.size w w' := ⟨e3.os, e3.tape, e3.output, e3.size, fun k hk => e3.block k hk (by simp [blk])⟩
      have hge : ∀ b, blk v' = some b → w.heap.size ≤ b := fun b hb' => by
        rcases e4 with e | e
        · rw [e] at hb'
          simp [blk] at hb'
        · rw [e] at hb'
          cases hb'
          exact Nat.le_refl _
      obtain ⟨ad, n, c', rfl⟩ := owns_slice e2
      have hsim := s.adopt (nh := H.length) (o := .vrow false elem (Lib.strCells st)) hf hb hge fun hle => ⟨_, updα_same _ _ _, by rw [Lib.strCells_length]; exact e2⟩
      have hfr := fr_new (α := α) (nh := H.length) (X := H) (o := some (.vrow false elem (Lib.strCells st))) (v := .slice ad n c')
      rw [hend] at hsim hfr
      exact stepped_value (hrun hxv e1) hsim hfr (.own _ _ _ _ (updα_same _ _ _))
    · split at h
      rotate_left
      · cases h
      rename_i k he
      rw [he] at hx
      obtain ⟨ad, m, c1, hαk, hxv⟩ := hx.inv_own
      split at h
      rotate_left
      · cases h
      rename_i e us hobj
      split at h
      rotate_left
      · cases h
      rename_i hee
      have hee : e = elem := by simpa using hee
      subst hee
      cases h
      have hm := hc _ (List.mem_singleton.2 rfl)
      have hown : ∃ o0, getH H k = some o0 ∧ o0.fr = false ∧ w.ownsRow B e 1 (.slice ad m c1) us.length us := by
        split at hobj
        · rename_i e0 us0 ho0
          cases hobj
          obtain ⟨v0, h1, h2⟩ := s.objs _ _ ho0
          have e1 : (envOf B S0 α H w).α k = α k := rfl
          rw [e1] at h1
          have hαk' : α k = some (.slice ad m c1) := hαk
          rw [hαk'] at h1
          cases h1
          exact ⟨_, ho0, rfl, h2⟩
        · rename_i e0 es0 ho0
          rw [Option.map_eq_some_iff] at hobj
          obtain ⟨us0, hpl, heq⟩ := hobj
          cases heq
          obtain ⟨v0, xs, h1, h2, h3, h4, h5⟩ := s.objs _ _ ho0
          have e1 : (envOf B S0 α H w).α k = α k := rfl
          rw [e1] at h1
          have hαk' : α k = some (.slice ad m c1) := hαk
          rw [hαk'] at h1
          cases h1
          have hfl : flats es0 = es0 := plainVs_flats hpl
          rw [hfl] at h3
          have hxs := plainVs_rep hpl h3
          subst hxs
          have hl : xs.length = es0.length := h3.length
          rw [← hl] at h2
          exact ⟨_, ho0, rfl, h2⟩
        · cases hobj
      obtain ⟨o0, ho0, hfr0, hown⟩ := hown
      obtain ⟨v', w', e1, e2, e3, e4⟩ := run_append_str (P := P) w B t u o.type e it ht1 hu1 i1 i4 i2 i3 _ _ us hown st hm s.base
      obtain ⟨ad', n, c', rfl⟩ := owns_slice e2
      have hsim := s.grow (nh := H.length) (o' := .vrow false e (us ++ Lib.strCells st)) ho0 hfr0 hαk hf e3 e4 fun hle => ⟨_, updα_same _ _ _, by rw [List.length_append, Lib.strCells_length]; exact e2⟩
      have hkl : (setAt H k none).length = H.length := by
        have hlt : k < H.length := by
          unfold getH at ho0
          by_cases hl : k < H.length
          · exact hl
          · rw [List.getElem?_eq_none (by omega)] at ho0; cases ho0
        have : ∀ (X : Heap) (k : Nat) (o : Option AObj), k < X.length → (setAt X k o).length = X.length := by
          intro X
          induction X with
          | nil => intro k o hk; exact absurd hk (by simp)
          | cons z zs ih => intro k o hk; cases k with
            | zero => rfl
            | succ k => simp [setAt, ih k o (by simpa using hk)]
        exact this H k none hlt
      have hfr := fr_new (α := α) (nh := H.length) (X := setAt H k none) (o := some (.vrow false e (us ++ Lib.strCells st))) (v := .slice ad' n c')
      have hend' := hend (setAt H k none) (some (.vrow false e (us ++ Lib.strCells st)))
      rw [hkl] at hend'
      rw [hend'] at hsim hfr
      exact stepped_value (hrun hxv e1) hsim hfr (.own _ _ _ _ (updα_same _ _ _))
  · rename_i fo args ts ho
    split at h
    rotate_left
    · cases h
    rename_i r orc1
    simp only [Option.some.injEq] at h
    split at h
    rotate_left
    · cases h
    rename_i f hfo
    split at h
    rotate_left
    · cases h
    rename_i hT
    cases h
    obtain ⟨hbody, hI⟩ := hc _ (List.mem_singleton.2 rfl)
    have hx := s.eval fo
    rw [hfo] at hx
    obtain ⟨cus, hfv, hcap⟩ := hx.inv_fn
    cases hcap
    have hargs : RepL (envOf B S0 α H w) (args.toList.map (evalA T)) (args.toList.map a.eval) := s.evalL args.toList
    intro K Q hK
    unfold Oper.wp
    rw [run_call_value hbody ho hfv]
    have harr : args.map a.eval ++ ([] : List Value).toArray = (args.toList.map a.eval).toArray := by
      apply Array.ext'
      simp
    rw [harr]
    have s1 := s.reframe (T' := args.toList.map (evalA T)) (a' := { tmps := (args.toList.map a.eval).toArray, defers := [] }) hargs .nil
    refine (hI B S0 w0 _ _ w s1).mono ?_
    rintro e w' ⟨rfl, hb, hsz, haux⟩
    refine hK α w' r ⟨s.below.trans hb, hsz, s.defers.imp fun k D p h1 h2 => ⟨k, p, (auxOnly_get H k _).2 ⟨_, rfl, h1⟩, h2⟩, noMem_repL (E := envOf B S0 α H w) (E' := envOf B S0 α (auxOnly H) w') (fun _ _ h => h) hT s.tmps, fun k o ho => ?_,
      fun k k' o o' v v' b h1 h2 hne a1 a2 b1 => s.inj k k' o o' v v' b (auxOnly_sub h1) (auxOnly_sub h2) hne a1 a2 b1, s.grd⟩ (fun _ _ => rfl) (.v _)
    obtain ⟨x, rfl, ho'⟩ := (auxOnly_get H k _).1 ho
    obtain ⟨b, h1, h2, h3, h4⟩ := s.objs k _ ho'
    exact ⟨b, h1, h2, (haux k x b ho' h1).trans h3, h4⟩
  · cases h
end Go.Flow
namespace Go.Flow
open Go Go.RowKit
inductive Want where
  | run (orc : List Orc) (cs : List Prop)
  | skip (orc : List Orc) (cs : List Prop)
  | bad (why : String) (info : List AV)
def wantA (T : List AV) (ops : Array Oper) (g : Option (Nat × Bool)) (orc : List Orc) : Want :=
  match g with
  | none => .run orc []
  | some (j, want) => match (ops[j]?).bind (·.dst) with
    | some d => match (T[d]?).getD (.v undef) with
      | .v (.bool x) => match orc with
        | .b y :: orc => if y == want then .run orc [x = y] else .skip orc [x = y]
        | _ => .bad "guard?" [.v (.bool x)]
      | .v (.tuple _) => .skip orc []
      | v => .bad "guard" [v]
    | none => .bad "guard: slot" []
def putA (T : List AV) (d : Option Tmp) (v : AV) : List AV :=
  match d with
  | some d => T.set d v
  | none => T
inductive RRes where
  | ok (T : List AV) (H : Heap) (orc : List Orc) (cs : List Prop) (foot : List (List Nat × List Nat))
  | bad (pos : String) (why : String) (info : List AV)
def isField : Op → Bool
  | .fieldAddr _ _ _ => true
  | .move _ => true
  | .assign _ => true
  | _ => false
def isStore : Op → Bool
  | .store _ _ _ => true
  | _ => false
def idxRow (T : List AV) : Op → Option Nat
  | .indexAddr _ x _ => match evalA T x with
    | .own h => some h
    | _ => none
  | _ => none
def topH : AV → List Nat
  | .own h => [h]
  | .op h _ => [h]
  | .rp h _ _ _ => [h]
  | .mp h => [h]
  | _ => []
def isCallV : Op → Bool
  | .call ⟨.value _, _, _⟩ => true
  | _ => false
def footA (T : List AV) (H : Heap) (o : Oper) : List Nat := if isField o.op = true then [] else match idxRow T o.op with
  | some h => [2 * h + 1]
  | none => if isCallV o.op = true then ((o.op.operands.toList.map (evalA T)).flatMap (handles H 10)).map (2 * ·) else ((o.op.operands.toList.map (evalA T)).flatMap topH).map (2 * ·)
def keysA (o : Op) (upd : Upd) : List Nat := if isStore o then upd.map fun p => 2 * p.1 else upd.flatMap fun p => [2 * p.1, 2 * p.1 + 1]
def Fresh (α : Nat → Option Value) (H : Heap) : Prop := ∀ k, H.length ≤ k → α k = none
def Same (T : List AV) (H : Heap) (T' : List AV) (H' : Heap) : Prop :=
  ∀ (B : Nat) (S0 : Nat → Prop) (w0 : World) (α : Nat → Option Value) (a : Act) (w : World), Sim B S0 w0 α T H a w → Fresh α H → ∃ α' : Nat → Option Value, Sim B S0 w0 α' T' H' a w ∧ Fresh α' H'
structure Conv where
  T : List AV
  H : Heap
  orc : List Orc
  cs : List Prop
def conv (T : List AV) (H : Heap) : List Orc → Conv
  | .c T' H' :: orc => ⟨T', H', orc, [Same T H T' H']⟩
  | orc => ⟨T, H, orc, []⟩
def Inl (P : Program) (f : FuncId) (ys : List AV) (H H2 : Heap) (r : AV) : Prop :=
  Body P f ∧ getH H2 H.length = none ∧ H.length < H2.length ∧ ∀ (B : Nat) (S0 : Nat → Prop) (w0 : World) (α : Nat → Option Value) (a : Act) (w : World) (us : List Value) (G : List AV),
    Sim B S0 w0 α ys (H ++ [some (.ghost us G)]) a w → (∀ k, H.length < k → α k = none) →
      Calls P f a.tmps w fun e w' => ∃ (v : Value) (α' : Nat → Option Value) (H3 : Heap), e = .returned v ∧ (∀ k, getH H3 k = getH (setAt H2 H.length (some (.ghost us G))) k) ∧
        Sim B S0 w0 α' [r] H3 { tmps := #[v], defers := [] } w' ∧ (∀ k, H2.length ≤ k → α' k = none) ∧
        (∀ h x, getH H h = some (.aux x) → x.live = true → getH H2 h = some (.aux x) ∧ α' h = α h)
def opI (P : Program) (τ : Tab) (T : List AV) (H : Heap) (o : Oper) (orc : List Orc) : IRes :=
  match opM P τ T H o.op orc with
  | some r => r
  | none => match orc, o.op with
  | .i H2 r :: orc, .call ⟨.value fo, args, _⟩ => match evalA T fo with
    | .fn f cap => .ok r H2 orc [Inl P f (args.toList.map (evalA T) ++ cap) H H2 r]
    | v => .bad "inline" [v]
  | _, _ => match opA P τ H.length T H o orc with
    | .ok v upd orc cs => .ok v (applyU H upd) orc cs
    | .bad why info => .bad why info
def opsA (P : Program) (τ : Tab) (ops : Array Oper) : List Oper → List AV → Heap → List Orc → List Prop → RRes
  | [], T, H, orc, cs => .ok T H orc cs []
  | o :: rest, T, H, orc, cs => match conv T H orc with
    | ⟨T, H, orc, c0⟩ => match wantA T ops o.guard orc with
      | .run orc c1 => match opI P τ T H o orc with
        | .ok v H' orc c2 => opsA P τ ops rest (putA T o.dst v) H' orc (cs ++ c0 ++ c1 ++ c2)
        | .bad why info => .bad o.pos why info
      | .skip orc c1 => opsA P τ ops rest (putA T o.dst (.v undef)) H orc (cs ++ c0 ++ c1)
      | .bad why info => .bad o.pos why info
def drawA (P : Program) (τ : Tab) (ops : Array Oper) (base : Nat) : Nat → List Oper → List AV → Heap → List Orc → List Prop → RRes
  | _, [], T, H, orc, cs => .ok T H orc cs []
  | k, o :: rest, T, H, orc, cs => match wantA T ops o.guard orc with
    | .run orc c1 => match opA P τ (base + k) T H o orc with
      | .ok v upd orc c2 => match drawA P τ ops base (k + 1) rest (putA T o.dst v) (applyU H upd) orc (cs ++ c1 ++ c2) with
        | .ok T' H' orc cs fs => .ok T' H' orc cs ((footA T H o, keysA o.op upd) :: fs)
        | r => r
      | .bad why info => .bad o.pos why info
    | .skip orc c1 => match drawA P τ ops base (k + 1) rest (putA T o.dst (.v undef)) H orc (cs ++ c1) with
      | .ok T' H' orc cs fs => .ok T' H' orc cs (([], []) :: fs)
      | r => r
    | .bad why info => .bad o.pos why info
def disj (xs ys : List Nat) : Bool := xs.all fun x => !ys.contains x
def waits (oj : Oper) (i : Nat) : Bool := oj.after.any fun e => Region.binds .any e && e.on == i
def apartA (base : Nat) : Nat → List Oper → List (List Nat × List Nat) → Bool
  | i, _ :: ops, (f, k) :: fs =>
    (((ops.zip fs).all fun (oj, (fj, kj)) => waits oj i || (disj k fj && disj kj f && disj k kj)) &&
    (((ops.zip fs).zipIdx (i + 1)).all fun ((oj, (_, kj)), j) => (waits oj i || !kj.contains (2 * (base + i))) && !k.contains (2 * (base + j)))) && apartA base (i + 1) ops fs
  | _, _, _ => true
def Ex.toExit : Ex → Exit
  | .normal => .normal
  | .exit id => .exit id
  | .ret => .ret
def Goes (P : Program) (c : Code) (T : List AV) (H : Heap) (ex : Ex) (T' : List AV) (H' : Heap) : Prop :=
  ∀ (B : Nat) (S0 : Nat → Prop) (w0 : World) (α : Nat → Option Value) (a : Act) (w : World), Sim B S0 w0 α T H a w → Fresh α H → ∀ Q : Exit → Act → World → Prop,
    (∀ (α' : Nat → Option Value) (a' : Act) (w' : World), Sim B S0 w0 α' T' H' a' w' → Fresh α' H' → Q ex.toExit a' w') → c.wp P Q a w
def keepA (k : Nat) (T : List AV) : List AV := T.take k ++ List.replicate (T.length - k) .any
inductive CRes where
  | ok (ex : Ex) (T : List AV) (H : Heap) (orc : List Orc) (cs : List Prop)
  | bad (pos : String) (why : String) (info : List AV)
def iterC (f : List AV → Heap → List Orc → List Prop → CRes) : Nat → List AV → Heap → List Orc → List Prop → CRes
  | 0, _, _, _, _ => .bad "" "rounds" []
  | n + 1, T, H, orc, cs => match f T H orc cs with
    | .ok .normal T H orc cs => iterC f n T H orc cs
    | r => r
def evC (P : Program) (τ : Tab) : Code → List AV → Heap → List Orc → List Prop → CRes
  | .skip, T, H, orc, cs => .ok .normal T H orc cs
  | .region _ ops false, T, H, orc, cs => match opsA P τ ops ops.toList T H orc cs with
    | .ok T H orc cs _ => .ok .normal T H orc cs
    | .bad p w i => .bad p w i
  | .region _ ops true, T, H, orc, cs =>
    match drawA P τ ops H.length 0 ops.toList T H orc cs with
    | .ok T' H' orc cs fs => if Region.lexB .any ops && apartA H.length 0 ops.toList fs then .ok .normal T' H' orc cs else .bad "" "order" []
    | .bad p w i => .bad p w i
  | .seq x y, T, H, orc, cs => match evC P τ x T H orc cs with
    | .ok .normal T H orc cs => evC P τ y T H orc cs
    | r => r
  | .cond c x y, T, H, orc, cs => match evalA T c, orc with
    | .v (.bool t), .b true :: orc => evC P τ x T H orc (cs ++ [t = true])
    | .v (.bool t), .b false :: orc => evC P τ y T H orc (cs ++ [t = false])
    | v, _ => .bad "" "if?" [v]
  | .block id x, T, H, orc, cs => match evC P τ x T H orc cs with
    | .ok (.exit j) T H orc cs => if j == id then .ok .normal T H orc cs else .ok (.exit j) T H orc cs
    | r => r
  | .exit id, T, H, orc, cs => .ok (.exit id) T H orc cs
  | .ret, T, H, orc, cs => .ok .ret T H orc cs
  | .loop x, T, H, orc, cs => match orc with
    | .s k ex T' H' :: orc => .ok ex T' H' orc (cs ++ [Goes P (.loop x) (keepA k T) H ex T' H'])
    | .u n :: orc => iterC (evC P τ x) n T H orc cs
    | _ => .bad "" "loop?" T
  | .rangeFunc f ps sa x, T, H, orc, cs => match orc with
    | .s k ex T' H' :: orc => .ok ex T' H' orc (cs ++ [Goes P (.rangeFunc f ps sa x) (keepA k T) H ex T' H'])
    | _ => .bad "" "range over a function?" T
  | _, _, _, _, _ => .bad "" "code" []
def resultA (τ : Tab) (T : List AV) (H : Heap) : ResultVar → Option AV
  | .tmp t => some (evalA T (.tmp t))
  | .cell t ty => match loadA τ H ty (evalA T (.tmp t)) [] with
    | .ok y _ _ _ => some y
    | _ => none
def resultsA (τ : Tab) (T : List AV) (H : Heap) : List ResultVar → Option (List AV)
  | [] => some []
  | r :: rs => match resultA τ T H r, resultsA τ T H rs with
    | some y, some ys => some (y :: ys)
    | _, _ => none
def oneOrTup : List AV → AV
  | [x] => x
  | xs => .tup xs
def evF (P : Program) (τ : Tab) (fn : Func) (args : List AV) (orc : List Orc) : Option (AV × List Prop) :=
  match fn.body with
  | some c => match evC P τ c (args ++ List.replicate (fn.ntmps - args.length) (.v undef)) [] orc [] with
    | .ok (.exit _) _ _ _ _ => none
    | .ok _ T H _ cs => match resultsA τ T H fn.results.toList with
      | some ys => match look H 9 (oneOrTup ys) with
        | some r => some (r, cs)
        | none => none
      | none => none
    | _ => none
  | none => none
end Go.Flow
