/- The closed run, first part: words, the machine, cells, building, loading. -/
import Derived.Test.YtnpbnpilhmbpoaaGreatE0
import Derived.Deep.MidRow
import Derived.Great.BuildSlice
import Derived.Laws.MakeOwn
set_option linter.unusedVariables false

/- The closed run, words: values that are alike but for where their blocks lie; a small heap as a tree. -/
namespace Go.Proofs.YtnpbnpilhmbpoaaGreat
open Go.RowKit

/-- Where each block lies, and how much room a row has whose room is not known. -/
abbrev Re := Nat → Option (Nat × Nat)

/-- A value without a place. -/
def plainV : Value → Bool
  | .bool _ | .int .. | .float .. | .complex .. | .string _ | .pointer none | .slice none _ _ | .map none | .chan none | .nilFunc | .nilIface => true
  | _ => false
/-- A room so great is a room not known. -/
def bigCap : Nat := 1152921504606846976

/-- Alike, but for where the blocks lie (and how much room a slice has, where that is not known). -/
inductive VR (ι : Re) : Value → Value → Prop
  | plain {v : Value} : plainV v = true → VR ι v v
  | ptr {b b' g o : Nat} : ι b = some (b', g) → VR ι (.pointer (some ⟨b, o, none⟩)) (.pointer (some ⟨b', o, none⟩))
  | slice {b b' g o n c c' : Nat} : ι b = some (b', g) → (c' = c ∧ c < bigCap ∨ bigCap ≤ c ∧ n ≤ c' ∧ (o = 0 → c' = g)) → VR ι (.slice (some ⟨b, o, none⟩) n c) (.slice (some ⟨b', o, none⟩) n c')
  | map {b b' g : Nat} : ι b = some (b', g) → VR ι (.map (some b)) (.map (some b'))
  | func {fn : Fn} {xs xs' ys ys' : List Value} : xs.length = xs'.length → (∀ (i : Nat) (x x' : Value), xs[i]? = some x → xs'[i]? = some x' → VR ι x x') →
      ys.length = ys'.length → (∀ (i : Nat) (x x' : Value), ys[i]? = some x → ys'[i]? = some x' → VR ι x x') → VR ι (.func fn ⟨xs⟩ ⟨ys⟩) (.func fn ⟨xs'⟩ ⟨ys'⟩)
  | agg {xs xs' : List Value} : xs.length = xs'.length → (∀ (i : Nat) (x x' : Value), xs[i]? = some x → xs'[i]? = some x' → VR ι x x') → VR ι (.agg ⟨xs⟩) (.agg ⟨xs'⟩)
  | tuple {xs xs' : List Value} : xs.length = xs'.length → (∀ (i : Nat) (x x' : Value), xs[i]? = some x → xs'[i]? = some x' → VR ι x x') → VR ι (.tuple ⟨xs⟩) (.tuple ⟨xs'⟩)

def LR (ι : Re) (xs xs' : List Value) : Prop := xs.length = xs'.length ∧ ∀ (i : Nat) (x x' : Value), xs[i]? = some x → xs'[i]? = some x' → VR ι x x'

section LR
variable {ι ι' : Re} {xs xs' ys ys' : List Value}
theorem LR.nil : LR ι [] [] := ⟨rfl, fun i x x' h => by simp at h⟩
theorem LR.cons {x x' : Value} (h : VR ι x x') (k : LR ι xs xs') : LR ι (x :: xs) (x' :: xs') :=
  ⟨by simp [k.1], fun i y y' h1 h2 => by
    cases i with
    | zero => simp at h1 h2; subst h1; subst h2; exact h
    | succ i => simp at h1 h2; exact k.2 i y y' h1 h2⟩
theorem LR.get (h : LR ι xs xs') {i : Nat} {x : Value} (hx : xs[i]? = some x) : ∃ x', xs'[i]? = some x' ∧ VR ι x x' := by
  have hi : i < xs'.length := by
    rw [← h.1]
    rcases Nat.lt_or_ge i xs.length with h1 | h1
    · exact h1
    · rw [List.getElem?_eq_none h1] at hx; cases hx
  exact ⟨xs'[i], List.getElem?_eq_getElem hi, h.2 i x _ hx (List.getElem?_eq_getElem hi)⟩
theorem LR.append (h : LR ι xs xs') (k : LR ι ys ys') : LR ι (xs ++ ys) (xs' ++ ys') := by
  refine ⟨by simp [h.1, k.1], fun i x x' h1 h2 => ?_⟩
  rcases Nat.lt_or_ge i xs.length with hi | hi
  · rw [List.getElem?_append_left hi] at h1
    rw [List.getElem?_append_left (by rw [← h.1]; exact hi)] at h2
    exact h.2 i x x' h1 h2
  · rw [List.getElem?_append_right hi] at h1
    rw [List.getElem?_append_right (by rw [← h.1]; exact hi), ← h.1] at h2
    exact k.2 _ x x' h1 h2
theorem LR.take (h : LR ι xs xs') (n : Nat) : LR ι (xs.take n) (xs'.take n) := by
  refine ⟨by simp [h.1], fun i x x' h1 h2 => ?_⟩
  rw [List.getElem?_take] at h1 h2
  split at h1
  · rename_i hi; rw [if_pos hi] at h2; exact h.2 i x x' h1 h2
  · cases h1
theorem LR.drop (h : LR ι xs xs') (n : Nat) : LR ι (xs.drop n) (xs'.drop n) := by
  refine ⟨by simp [h.1], fun i x x' h1 h2 => ?_⟩
  rw [List.getElem?_drop] at h1 h2
  exact h.2 _ x x' h1 h2
theorem LR.set (h : LR ι xs xs') (i : Nat) {x x' : Value} (hx : VR ι x x') : LR ι (xs.set i x) (xs'.set i x') := by
  refine ⟨by simp [h.1], fun j y y' h1 h2 => ?_⟩
  rw [List.getElem?_set] at h1 h2
  by_cases e : i = j
  · subst e
    rw [if_pos rfl] at h1 h2
    split at h1
    · rename_i hl; rw [if_pos (by rw [← h.1]; exact hl)] at h2; cases h1; cases h2; exact hx
    · cases h1
  · rw [if_neg e] at h1 h2
    exact h.2 j y y' h1 h2
theorem VR.mono {x y : Value} (h : VR ι x y) (hi : ∀ b b', ι b = some b' → ι' b = some b') : VR ι' x y := by
  induction h with
  | plain h => exact .plain h
  | ptr h => exact .ptr (hi _ _ h)
  | slice h hc => exact .slice (hi _ _ h) hc
  | map h => exact .map (hi _ _ h)
  | func h1 _ h3 _ ih1 ih2 => exact .func h1 ih1 h3 ih2
  | agg h1 _ ih => exact .agg h1 ih
  | tuple h1 _ ih => exact .tuple h1 ih
theorem LR.mono (h : LR ι xs xs') (hi : ∀ b b', ι b = some b' → ι' b = some b') : LR ι' xs xs' := ⟨h.1, fun i x x' a b => (h.2 i x x' a b).mono hi⟩
theorem LR.aggV (h : LR ι xs xs') : VR ι (.agg ⟨xs⟩) (.agg ⟨xs'⟩) := .agg h.1 h.2
theorem LR.tupleV (h : LR ι xs xs') : VR ι (.tuple ⟨xs⟩) (.tuple ⟨xs'⟩) := .tuple h.1 h.2
theorem LR.plain : ∀ {xs : List Value}, xs.all plainV = true → LR ι xs xs
  | [], _ => LR.nil
  | x :: xs, h => by simp only [List.all_cons, Bool.and_eq_true] at h; exact .cons (.plain h.1) (LR.plain h.2)
/-- A value that is all data: no place in it. -/
def flatV : Value → Bool
  | .agg ⟨l⟩ => l.all plainV
  | v => plainV v
def dataV : Value → Bool
  | .tuple ⟨l⟩ => l.all flatV
  | v => flatV v
theorem VR.plain_eq {x y : Value} (h : VR ι x y) (hx : plainV x = true) : x = y := by
  cases h <;> first | rfl | (simp [plainV] at hx)
theorem LR.ext (h : xs.length = xs'.length) (k : ∀ (i : Nat) (x x' : Value), xs[i]? = some x → xs'[i]? = some x' → x = x') : xs = xs' := by
  refine List.ext_getElem h fun i h1 h2 => ?_
  exact k i _ _ (List.getElem?_eq_getElem h1) (List.getElem?_eq_getElem h2)
theorem VR.flat_eq {x y : Value} (h : VR ι x y) (hx : flatV x = true) : x = y := by
  cases h with
  | agg h1 h2 =>
    simp only [flatV] at hx
    rw [LR.ext h1 fun i x x' a b => (h2 i x x' a b).plain_eq (List.all_eq_true.1 hx x (List.mem_of_getElem? a))]
  | plain h => rfl
  | _ => simp [flatV, plainV] at hx
theorem VR.data_eq {x y : Value} (h : VR ι x y) (hx : dataV x = true) : x = y := by
  cases h with
  | tuple h1 h2 =>
    simp only [dataV] at hx
    rw [LR.ext h1 fun i x x' a b => (h2 i x x' a b).flat_eq (List.all_eq_true.1 hx x (List.mem_of_getElem? a))]
  | plain h => rfl
  | agg h1 h2 => exact (VR.agg h1 h2).flat_eq (by simpa [dataV] using hx)
  | _ => simp [dataV, flatV, plainV] at hx
theorem VR.flat {v : Value} (h : flatV v = true) : VR ι v v := by
  match v, h with
  | .agg ⟨l⟩, h => exact (LR.plain (by simpa [flatV] using h)).aggV
  | .bool _, _ => exact .plain rfl
  | .int .., _ => exact .plain rfl
  | .float .., _ => exact .plain rfl
  | .complex .., _ => exact .plain rfl
  | .string _, _ => exact .plain rfl
  | .pointer none, _ => exact .plain rfl
  | .slice none _ _, _ => exact .plain rfl
  | .map none, _ => exact .plain rfl
  | .chan none, _ => exact .plain rfl
  | .nilFunc, _ => exact .plain rfl
  | .nilIface, _ => exact .plain rfl
theorem VR.data {v : Value} (h : dataV v = true) : VR ι v v := by
  by_cases e : ∃ l, v = .tuple ⟨l⟩
  · obtain ⟨l, rfl⟩ := e
    simp only [dataV] at h
    refine .tuple rfl fun i x x' h1 h2 => ?_
    rw [h1] at h2
    cases h2
    exact .flat (List.all_eq_true.1 h x (List.mem_of_getElem? h1))
  · refine .flat ?_
    unfold dataV at h
    split at h
    · exact absurd ⟨_, rfl⟩ e
    · exact h
end LR

/-- A map from numbers, as a tree. -/
inductive Tr (α : Type) where
  | nil
  | node (l : Tr α) (v : Option α) (r : Tr α)
def Tr.get {α : Type} : Tr α → Nat → Option α
  | .nil, _ => none
  | .node l v r, n => cond (Nat.beq n 0) v (cond (Nat.beq (n % 2) 1) (l.get (n / 2)) (r.get (n / 2 - 1)))
def Tr.set {α : Type} : Nat → Tr α → Nat → Option α → Tr α
  | 0, t, _, _ => t
  | f + 1, .nil, n, v => cond (Nat.beq n 0) (.node .nil v .nil) (cond (Nat.beq (n % 2) 1) (.node (Tr.set f .nil (n / 2) v) none .nil) (.node .nil none (Tr.set f .nil (n / 2 - 1) v)))
  | f + 1, .node l x r, n, v => cond (Nat.beq n 0) (.node l v r) (cond (Nat.beq (n % 2) 1) (.node (Tr.set f l (n / 2) v) x r) (.node l x (Tr.set f r (n / 2 - 1) v)))

theorem cond_beq {α : Type} (n m : Nat) (a b : α) : cond (Nat.beq n m) a b = if n = m then a else b := by
  by_cases h : n = m
  · subst h; simp
  · have : Nat.beq n m = false := by cases e : Nat.beq n m; rfl; exact absurd (Nat.eq_of_beq_eq_true e) h
    rw [this, if_neg h]; rfl
theorem Tr.get_set {α : Type} : ∀ (f : Nat) (t : Tr α) (n : Nat) (v : Option α) (m : Nat), n + 1 < 2 ^ f → (t.set f n v).get m = if m = n then v else t.get m
  | 0, t, n, v, m, h => by simp at h
  | f + 1, .nil, n, v, m, h => by
    have h2 : 2 ^ (f + 1) = 2 * 2 ^ f := by rw [Nat.pow_succ]; omega
    simp only [Tr.set, cond_beq]
    by_cases e0 : n = 0
    · subst e0
      simp only [if_true, Tr.get, cond_beq]
      by_cases em : m = 0
      · simp [em]
      · simp [em]
    · by_cases e1 : n % 2 = 1
      · simp only [if_neg e0, if_pos e1, Tr.get, cond_beq]
        rw [Tr.get_set f .nil (n / 2) v (m / 2) (by omega)]
        by_cases em : m = 0
        · rw [if_pos em, if_neg (by omega)]
        · rw [if_neg em]
          by_cases em1 : m % 2 = 1
          · rw [if_pos em1]
            by_cases e : m / 2 = n / 2
            · rw [if_pos e, if_pos (by omega)]
            · rw [if_neg e, if_neg (by omega)]; rfl
          · rw [if_neg em1, if_neg (by omega)]
      · simp only [if_neg e0, if_neg e1, Tr.get, cond_beq]
        rw [Tr.get_set f .nil (n / 2 - 1) v (m / 2 - 1) (by omega)]
        by_cases em : m = 0
        · rw [if_pos em, if_neg (by omega)]
        · rw [if_neg em]
          by_cases em1 : m % 2 = 1
          · rw [if_pos em1, if_neg (by omega)]
          · rw [if_neg em1]
            by_cases e : m / 2 - 1 = n / 2 - 1
            · rw [if_pos e, if_pos (by omega)]
            · rw [if_neg e, if_neg (by omega)]; rfl
  | f + 1, .node l x r, n, v, m, h => by
    have h2 : 2 ^ (f + 1) = 2 * 2 ^ f := by rw [Nat.pow_succ]; omega
    simp only [Tr.set, cond_beq]
    by_cases e0 : n = 0
    · subst e0
      simp only [if_true, Tr.get, cond_beq]
      by_cases em : m = 0
      · simp [em]
      · simp [em]
    · by_cases e1 : n % 2 = 1
      · simp only [if_neg e0, if_pos e1, Tr.get, cond_beq]
        rw [Tr.get_set f l (n / 2) v (m / 2) (by omega)]
        by_cases em : m = 0
        · rw [if_pos em, if_neg (by omega), if_pos em]
        · rw [if_neg em, if_neg em]
          by_cases em1 : m % 2 = 1
          · rw [if_pos em1, if_pos em1]
            by_cases e : m / 2 = n / 2
            · rw [if_pos e, if_pos (by omega)]
            · rw [if_neg e, if_neg (by omega)]
          · rw [if_neg em1, if_neg em1, if_neg (by omega)]
      · simp only [if_neg e0, if_neg e1, Tr.get, cond_beq]
        rw [Tr.get_set f r (n / 2 - 1) v (m / 2 - 1) (by omega)]
        by_cases em : m = 0
        · rw [if_pos em, if_neg (by omega), if_pos em]
        · rw [if_neg em, if_neg em]
          by_cases em1 : m % 2 = 1
          · rw [if_pos em1, if_pos em1, if_neg (by omega)]
          · rw [if_neg em1, if_neg em1]
            by_cases e : m / 2 - 1 = n / 2 - 1
            · rw [if_pos e, if_pos (by omega)]
            · rw [if_neg e, if_neg (by omega)]
end Go.Proofs.YtnpbnpilhmbpoaaGreat

/- The closed run, its machine: a small heap that is read, written, grown, with a log of what was touched; what a run does hangs on what it touches alone. -/
namespace Go.Proofs.YtnpbnpilhmbpoaaGreat
open Go.RowKit

inductive Blk where
  | cells (c : List Value) (t : TypeId) (spare : Bool)
  | map (es : List (Int × Value))

structure St where
  heap : Tr Blk
  next : Nat
  base : Nat
  rd : List Nat
  wr : List Nat

def M (α : Type) : Type := St → Option (α × St)
def M.pure {α : Type} (a : α) : M α := fun s => some (a, s)
def M.bind {α β : Type} (m : M α) (f : α → M β) : M β := fun s => match m s with
  | none => none
  | some (a, s') => f a s'
def M.fail {α : Type} : M α := fun _ => none
instance : Monad M where
  pure := M.pure
  bind := M.bind
def lift {α : Type} (o : Option α) : M α := match o with
  | none => M.fail
  | some a => M.pure a

def memN (b : Nat) : List Nat → Bool
  | [] => false
  | c :: l => cond (Nat.beq c b) true (memN b l)
def logTo (base b : Nat) (l : List Nat) : List Nat := cond (Nat.blt b base) (cond (memN b l) l (b :: l)) l
def fuelT : Nat := 40
def mostB : Nat := 1000000000

def getB (b : Nat) : M Blk := fun s => cond (Nat.blt b s.next) (match s.heap.get b with
  | none => none
  | some k => some (k, { s with rd := logTo s.base b s.rd })) none
def setB (b : Nat) (k : Option Blk) : M Unit := fun s => cond (Nat.blt b s.next) (cond (Nat.blt b mostB) (match s.heap.get b with
  | none => none
  | some _ => some ((), { s with heap := s.heap.set fuelT b k, wr := logTo s.base b s.wr })) none) none
def newB (k : Blk) : M Nat := fun s => cond (Nat.blt s.next mostB) (some (s.next, { s with heap := s.heap.set fuelT s.next (some k), next := s.next + 1 })) none

theorem memN_iff (b : Nat) : ∀ l : List Nat, memN b l = true ↔ b ∈ l
  | [] => by simp [memN]
  | c :: l => by
    simp only [memN, cond_beq, List.mem_cons]
    by_cases h : c = b
    · simp [h]
    · rw [if_neg h, memN_iff b l]
      exact ⟨Or.inr, fun h2 => h2.resolve_left (fun e => h e.symm)⟩
theorem cond_blt {α : Type} (n m : Nat) (a b : α) : cond (Nat.blt n m) a b = if n < m then a else b := by
  have hh : (Nat.blt n m = true) = (n + 1 ≤ m) := by unfold Nat.blt; exact Nat.ble_eq
  by_cases h : n < m
  · have : Nat.blt n m = true := by rw [hh]; exact h
    rw [this, if_pos h]; rfl
  · have : Nat.blt n m = false := by
      cases e : Nat.blt n m
      · rfl
      · rw [hh] at e; exact absurd e h
    rw [this, if_neg h]; rfl
theorem mem_logTo (base b c : Nat) (l : List Nat) : c ∈ logTo base b l ↔ c ∈ l ∨ (c = b ∧ b < base) := by
  unfold logTo
  rw [cond_blt]
  by_cases h : b < base
  · rw [if_pos h]
    cases e : memN b l
    · simp only [cond_false, List.mem_cons]
      constructor
      · rintro (rfl | h2)
        · exact Or.inr ⟨rfl, h⟩
        · exact Or.inl h2
      · rintro (h2 | ⟨rfl, _⟩)
        · exact Or.inr h2
        · exact Or.inl rfl
    · simp only [cond_true]
      have := (memN_iff b l).1 e
      constructor
      · exact Or.inl
      · rintro (h2 | ⟨rfl, _⟩)
        · exact h2
        · exact this
  · rw [if_neg h]
    exact ⟨Or.inl, fun h2 => h2.elim id fun h3 => absurd h3.2 h⟩

/-- What a run has touched: what stands in its logs, and all that was made since its base. -/
def Foot (s : St) (b : Nat) : Prop := b ∈ s.rd ∨ b ∈ s.wr ∨ (s.base ≤ b ∧ b < s.next)
/-- Two states that are alike where f holds. -/
structure Alike (f : Nat → Prop) (s t : St) : Prop where
  next : t.next = s.next
  base : t.base = s.base
  rd : t.rd = s.rd
  wr : t.wr = s.wr
  heap : ∀ b, f b → t.heap.get b = s.heap.get b

/-- The logs hold what was there at the base. -/
structure Wf (s : St) : Prop where
  next : s.base ≤ s.next
  rd : ∀ b ∈ s.rd, b < s.base
  wr : ∀ b ∈ s.wr, b < s.base
/-- A run leaves the rest as it is, and hangs on nothing else. -/
structure Local1 {α : Type} (m : M α) (s : St) (a : α) (s' : St) : Prop where
  next : s.next ≤ s'.next
  wf : Wf s'
  base : s'.base = s.base
  rd : ∀ b ∈ s.rd, b ∈ s'.rd
  wr : ∀ b ∈ s.wr, b ∈ s'.wr
  frame : ∀ b, b ∉ s'.wr → ¬ (s.base ≤ b ∧ b < s'.next) → s'.heap.get b = s.heap.get b
  alike : ∀ t, Alike (Foot s') s t → ∃ t', m t = some (a, t') ∧ Alike (Foot s') s' t'
def Local {α : Type} (m : M α) : Prop := ∀ s a s', m s = some (a, s') → Wf s → Local1 m s a s'

theorem Foot.mono {α : Type} {m : M α} {s : St} {a : α} {s' : St} (h : Local1 m s a s') (b : Nat) (hb : Foot s b) : Foot s' b := by
  rcases hb with h1 | h1 | h1
  · exact Or.inl (h.rd b h1)
  · exact Or.inr (Or.inl (h.wr b h1))
  · exact Or.inr (Or.inr ⟨by rw [h.base]; exact h1.1, Nat.lt_of_lt_of_le h1.2 h.next⟩)

theorem Local.pure {α : Type} (a : α) : Local (M.pure a) := fun s b s' h hwf => by
  simp only [M.pure, Option.some.injEq, Prod.mk.injEq] at h
  obtain ⟨rfl, rfl⟩ := h
  exact ⟨Nat.le_refl _, hwf, rfl, fun _ h => h, fun _ h => h, fun _ _ _ => rfl, fun t ht => ⟨t, rfl, ht⟩⟩
theorem Local.fail {α : Type} : Local (M.fail : M α) := fun s b s' h _ => by simp [M.fail] at h
theorem Local.lift {α : Type} (o : Option α) : Local (lift o) := by
  cases o
  · exact Local.fail
  · exact Local.pure _
theorem Local.bind {α β : Type} {m : M α} {f : α → M β} (hm : Local m) (hf : ∀ a, Local (f a)) : Local (M.bind m f) := fun s b s' h hb => by
  unfold M.bind at h
  cases h1 : m s with
  | none => simp [h1] at h
  | some r =>
    obtain ⟨a, s1⟩ := r
    simp only [h1] at h
    have l1 := hm s a s1 h1 hb
    have l2 := hf a s1 b s' h l1.wf
    refine ⟨Nat.le_trans l1.next l2.next, l2.wf, l2.base.trans l1.base, fun b hb => l2.rd b (l1.rd b hb), fun b hb => l2.wr b (l1.wr b hb), fun b h2 h3 => ?_, fun t ht => ?_⟩
    · rw [l2.frame b h2 (fun h4 => h3 ⟨by rw [← l1.base]; exact h4.1, h4.2⟩)]
      exact l1.frame b (fun h4 => h2 (l2.wr b h4)) (fun h4 => h3 ⟨h4.1, Nat.lt_of_lt_of_le h4.2 l2.next⟩)
    · obtain ⟨t1, e1, a1⟩ := l1.alike t ⟨ht.next, ht.base, ht.rd, ht.wr, fun b hb => ht.heap b (Foot.mono l2 b hb)⟩
      have lt := hm t a t1 e1 ⟨by rw [ht.base, ht.next]; exact hb.next, by rw [ht.rd, ht.base]; exact hb.rd, by rw [ht.wr, ht.base]; exact hb.wr⟩
      obtain ⟨t2, e2, a2⟩ := l2.alike t1 ⟨a1.next, a1.base, a1.rd, a1.wr, fun b hb => by
        by_cases hf1 : Foot s1 b
        · exact a1.heap b hf1
        · have n1 : b ∉ s1.wr := fun h => hf1 (Or.inr (Or.inl h))
          have n2 : ¬ (s1.base ≤ b ∧ b < s1.next) := fun h => hf1 (Or.inr (Or.inr h))
          rw [lt.frame b (by rw [a1.wr]; exact n1) (by rw [← lt.base, a1.base, a1.next]; exact n2), l1.frame b n1 (by rw [← l1.base]; exact n2)]
          exact ht.heap b hb⟩
      exact ⟨t2, by unfold M.bind; rw [e1]; exact e2, a2⟩
theorem Local.getB (b : Nat) : Local (getB b) := fun s k s' h hb => by
  unfold Go.Proofs.YtnpbnpilhmbpoaaGreat.getB at h
  rw [cond_blt] at h
  split at h
  · rename_i hbn
    cases hk : s.heap.get b with
    | none => simp [hk] at h
    | some k0 =>
      simp only [hk, Option.some.injEq, Prod.mk.injEq] at h
      obtain ⟨rfl, rfl⟩ := h
      have hwf : Wf { s with rd := logTo s.base b s.rd } := ⟨hb.next, fun c hc => by
        rcases (mem_logTo ..).1 hc with h | ⟨rfl, h⟩
        · exact hb.rd c h
        · exact h, hb.wr⟩
      refine ⟨Nat.le_refl _, hwf, rfl, fun c hc => (mem_logTo ..).2 (Or.inl hc), fun _ h => h, fun _ _ _ => rfl, fun t ht => ?_⟩
      have hfb : Foot { s with rd := logTo s.base b s.rd } b := by
        by_cases e : b < s.base
        · exact Or.inl ((mem_logTo ..).2 (Or.inr ⟨rfl, e⟩))
        · exact Or.inr (Or.inr ⟨by simpa using e, hbn⟩)
      refine ⟨{ t with rd := logTo t.base b t.rd }, ?_, ?_⟩
      · unfold Go.Proofs.YtnpbnpilhmbpoaaGreat.getB
        rw [cond_blt, ht.next, if_pos hbn, ht.heap b hfb, hk]
      · exact ⟨ht.next, ht.base, by simp [ht.base, ht.rd], ht.wr, ht.heap⟩
  · cases h
theorem Local.setB (b : Nat) (k : Option Blk) : Local (setB b k) := fun s u s' h hb => by
  unfold Go.Proofs.YtnpbnpilhmbpoaaGreat.setB at h
  rw [cond_blt, cond_blt] at h
  split at h
  · rename_i hbn
    split at h
    · rename_i hbm
      cases hk : s.heap.get b with
      | none => simp [hk] at h
      | some k0 =>
        simp only [hk, Option.some.injEq, Prod.mk.injEq] at h
        obtain ⟨-, rfl⟩ := h
        have hm : b + 1 < 2 ^ fuelT := Nat.lt_of_le_of_lt hbm (by decide)
        have hfb : Foot { s with heap := s.heap.set fuelT b k, wr := logTo s.base b s.wr } b := by
          by_cases e : b < s.base
          · exact Or.inr (Or.inl ((mem_logTo ..).2 (Or.inr ⟨rfl, e⟩)))
          · exact Or.inr (Or.inr ⟨by simpa using e, hbn⟩)
        have hwf : Wf { s with heap := s.heap.set fuelT b k, wr := logTo s.base b s.wr } := ⟨hb.next, hb.rd, fun c hc => by
          rcases (mem_logTo ..).1 hc with h | ⟨rfl, h⟩
          · exact hb.wr c h
          · exact h⟩
        refine ⟨Nat.le_refl _, hwf, rfl, fun _ h => h, fun c hc => (mem_logTo ..).2 (Or.inl hc), fun c h1 h2 => ?_, fun t ht => ?_⟩
        · show (s.heap.set fuelT b k).get c = _
          rw [Tr.get_set _ _ _ _ _ hm, if_neg]
          rintro rfl
          rcases hfb with h3 | h3 | h3
          · by_cases e : c < s.base
            · exact h1 ((mem_logTo ..).2 (Or.inr ⟨rfl, e⟩))
            · exact h2 ⟨by omega, hbn⟩
          · exact h1 h3
          · exact h2 h3
        · refine ⟨{ t with heap := t.heap.set fuelT b k, wr := logTo t.base b t.wr }, ?_, ⟨ht.next, ht.base, ht.rd, by simp [ht.base, ht.wr], fun c hc => ?_⟩⟩
          · unfold Go.Proofs.YtnpbnpilhmbpoaaGreat.setB
            rw [cond_blt, cond_blt, ht.next, if_pos hbn, if_pos hbm, ht.heap b hfb, hk]
          · show (t.heap.set fuelT b k).get c = (s.heap.set fuelT b k).get c
            rw [Tr.get_set _ _ _ _ _ hm, Tr.get_set _ _ _ _ _ hm, ht.heap c hc]
    · cases h
  · cases h
theorem Local.newB (k : Blk) : Local (newB k) := fun s u s' h hb => by
  unfold Go.Proofs.YtnpbnpilhmbpoaaGreat.newB at h
  rw [cond_blt] at h
  split at h
  · rename_i hbm
    simp only [Option.some.injEq, Prod.mk.injEq] at h
    obtain ⟨rfl, rfl⟩ := h
    have hm : s.next + 1 < 2 ^ fuelT := Nat.lt_of_le_of_lt hbm (by decide)
    refine ⟨Nat.le_succ _, ⟨Nat.le_succ_of_le hb.next, hb.rd, hb.wr⟩, rfl, fun _ h => h, fun _ h => h, fun c h1 h2 => ?_, fun t ht => ?_⟩
    · show (s.heap.set fuelT s.next (some k)).get c = _
      rw [Tr.get_set _ _ _ _ _ hm, if_neg]
      rintro rfl
      exact h2 ⟨hb.next, Nat.lt_succ_self _⟩
    · refine ⟨{ t with heap := t.heap.set fuelT t.next (some k), next := t.next + 1 }, ?_, ⟨by simp [ht.next], ht.base, ht.rd, ht.wr, fun c hc => ?_⟩⟩
      · unfold Go.Proofs.YtnpbnpilhmbpoaaGreat.newB
        rw [cond_blt, ht.next, if_pos hbm]
      · show (t.heap.set fuelT t.next (some k)).get c = (s.heap.set fuelT s.next (some k)).get c
        rw [ht.next, Tr.get_set _ _ _ _ _ hm, Tr.get_set _ _ _ _ _ hm, ht.heap c hc]
  · cases h

/-! A step with a log of its own. -/
def mergeLog (base : Nat) : List Nat → List Nat → List Nat
  | [], acc => acc
  | b :: l, acc => mergeLog base l (logTo base b acc)
theorem mem_mergeLog (base c : Nat) : ∀ (l acc : List Nat), c ∈ mergeLog base l acc ↔ c ∈ acc ∨ (c ∈ l ∧ c < base)
  | [], acc => by simp [mergeLog]
  | b :: l, acc => by
    unfold mergeLog
    rw [mem_mergeLog base c l, mem_logTo, List.mem_cons]
    constructor
    · rintro ((h | ⟨rfl, h⟩) | ⟨h, h2⟩)
      · exact Or.inl h
      · exact Or.inr ⟨Or.inl rfl, h⟩
      · exact Or.inr ⟨Or.inr h, h2⟩
    · rintro (h | ⟨rfl | h, h2⟩)
      · exact Or.inl (Or.inl h)
      · exact Or.inl (Or.inr ⟨rfl, h2⟩)
      · exact Or.inr ⟨h, h2⟩
def St.fresh (s : St) : St := { s with base := s.next, rd := [], wr := [] }
/-- What a step has touched: which blocks it made (from lo on, below hi), which it read, which it wrote. -/
structure Info where
  lo : Nat
  hi : Nat
  rd : List Nat
  wr : List Nat
def withLog {α : Type} (m : M α) : M (α × Info) := fun s => match m s.fresh with
  | none => none
  | some (a, s') => some ((a, ⟨s.next, s'.next, s'.rd, s'.wr⟩), { s' with base := s.base, rd := mergeLog s.base s'.rd s.rd, wr := mergeLog s.base s'.wr s.wr })
theorem Wf.fresh (s : St) : Wf s.fresh := ⟨Nat.le_refl _, (fun b h => by cases h), (fun b h => by cases h)⟩
theorem withLog_some {α : Type} {m : M α} {s s2 : St} {r : α × Info} (h : withLog m s = some (r, s2)) :
    ∃ s1, m s.fresh = some (r.1, s1) ∧ r.2 = ⟨s.next, s1.next, s1.rd, s1.wr⟩ ∧ s2 = { s1 with base := s.base, rd := mergeLog s.base s1.rd s.rd, wr := mergeLog s.base s1.wr s.wr } := by
  unfold withLog at h
  cases h1 : m s.fresh with
  | none => simp [h1] at h
  | some r1 =>
    obtain ⟨a, s1⟩ := r1
    simp only [h1, Option.some.injEq, Prod.mk.injEq] at h
    obtain ⟨rfl, rfl⟩ := h
    exact ⟨s1, rfl, rfl, rfl⟩
theorem Local.withLog {α : Type} {m : M α} (hm : Local m) : Local (withLog m) := fun s r s2 h hb => by
  obtain ⟨s1, h1, h2, rfl⟩ := withLog_some h
  have l := hm _ _ _ h1 (Wf.fresh s)
  have hbase : s1.base = s.next := l.base
  have hnext : s.next ≤ s1.next := l.next
  refine ⟨hnext, ⟨Nat.le_trans hb.next hnext, fun b hb1 => ?_, fun b hb1 => ?_⟩, rfl, fun b h => (mem_mergeLog ..).2 (Or.inl h), fun b h => (mem_mergeLog ..).2 (Or.inl h), fun b h4 h5 => ?_, fun t ht => ?_⟩
  · rcases (mem_mergeLog ..).1 hb1 with h | h
    · exact hb.rd b h
    · exact h.2
  · rcases (mem_mergeLog ..).1 hb1 with h | h
    · exact hb.wr b h
    · exact h.2
  · refine l.frame b (fun h6 => ?_) (fun h6 => h5 ⟨Nat.le_trans hb.next h6.1, h6.2⟩)
    have h7 := l.wf.wr b h6
    rw [hbase] at h7
    rcases Nat.lt_or_ge b s.base with h8 | h8
    · exact h4 ((mem_mergeLog ..).2 (Or.inr ⟨h6, h8⟩))
    · exact h5 ⟨h8, Nat.lt_of_lt_of_le h7 hnext⟩
  · have hf : ∀ b, Foot s1 b → Foot { s1 with base := s.base, rd := mergeLog s.base s1.rd s.rd, wr := mergeLog s.base s1.wr s.wr } b := fun b hb1 => by
      rcases hb1 with h6 | h6 | h6
      · have h7 := l.wf.rd b h6
        rw [hbase] at h7
        rcases Nat.lt_or_ge b s.base with h8 | h8
        · exact Or.inl ((mem_mergeLog ..).2 (Or.inr ⟨h6, h8⟩))
        · exact Or.inr (Or.inr ⟨h8, Nat.lt_of_lt_of_le h7 hnext⟩)
      · have h7 := l.wf.wr b h6
        rw [hbase] at h7
        rcases Nat.lt_or_ge b s.base with h8 | h8
        · exact Or.inr (Or.inl ((mem_mergeLog ..).2 (Or.inr ⟨h6, h8⟩)))
        · exact Or.inr (Or.inr ⟨h8, Nat.lt_of_lt_of_le h7 hnext⟩)
      · rw [hbase] at h6
        exact Or.inr (Or.inr ⟨Nat.le_trans hb.next h6.1, h6.2⟩)
    obtain ⟨t1, e1, a1⟩ := l.alike t.fresh ⟨ht.next, ht.next, rfl, rfl, fun b hb1 => ht.heap b (hf b hb1)⟩
    have lt := hm _ _ _ e1 (Wf.fresh t)
    refine ⟨{ t1 with base := t.base, rd := mergeLog t.base t1.rd t.rd, wr := mergeLog t.base t1.wr t.wr }, ?_, ⟨a1.next, ht.base, by simp only [ht.base, a1.rd, ht.rd], by simp only [ht.base, a1.wr, ht.wr], fun b hb1 => ?_⟩⟩
    · unfold Go.Proofs.YtnpbnpilhmbpoaaGreat.withLog
      rw [e1]
      obtain ⟨r1, r2⟩ := r
      simp only at h2
      simp only [a1.rd, a1.wr, a1.next, ht.next, h2]
    · show t1.heap.get b = s1.heap.get b
      by_cases hfb : Foot s1 b
      · exact a1.heap b hfb
      · have n1 : b ∉ s1.wr := fun h => hfb (Or.inr (Or.inl h))
        have n2 : ¬ (s1.base ≤ b ∧ b < s1.next) := fun h => hfb (Or.inr (Or.inr h))
        rw [lt.frame b (by rw [a1.wr]; exact n1) (by rw [← lt.base, a1.base, a1.next]; exact n2), l.frame b n1 (by rw [← l.base]; exact n2)]
        exact ht.heap b hb1
end Go.Proofs.YtnpbnpilhmbpoaaGreat

/- The closed run: when a small heap tells of a world; what holds behind a write, a new block, a block that is forgotten. -/
namespace Go.Proofs.YtnpbnpilhmbpoaaGreat
open Go.RowKit

/-- A block stands as told. -/
def BR (P : Program) (ι : Re) (g : Nat) : Blk → Option Obj → Prop
  | .cells c t sp, o => ∃ cc : List Value, o = some (.cells ⟨cc⟩ t) ∧ LR ι c (cc.take c.length) ∧ (sp = false → cc.length = c.length) ∧ (sp = true → cc.length = g * P.cellsOf t)
  | .map es, o => ∃ (ms : List MapEntry) (clk : Nat), o = some (.map ⟨ms⟩ clk) ∧ ms.length = es.length ∧ ∀ (i : Nat) (e : Int × Value) (m : MapEntry), es[i]? = some e → ms[i]? = some m → m.key = .int .i64 e.1 ∧ VR ι e.2 m.val

theorem BR.mono {P : Program} {ι ι' : Re} {g : Nat} {k : Blk} {o : Option Obj} (h : BR P ι g k o) (hi : ∀ b b', ι b = some b' → ι' b = some b') : BR P ι' g k o := by
  cases k with
  | cells c t sp => obtain ⟨cc, h1, h2, h3⟩ := h; exact ⟨cc, h1, h2.mono hi, h3⟩
  | map es => obtain ⟨ms, clk, h1, h2, h3⟩ := h; exact ⟨ms, clk, h1, h2, fun i e m a b => ⟨(h3 i e m a b).1, (h3 i e m a b).2.mono hi⟩⟩

structure Rel (P : Program) (w0 : World) (ι : Re) (s : St) (w : World) : Prop where
  x : Ext w0 w
  blk : ∀ b k, s.heap.get b = some k → ∃ b' g, ι b = some (b', g) ∧ w0.heap.size ≤ b' ∧ BR P ι g k w.heap[b']?
  inj : ∀ b c b' g g', s.heap.get b ≠ none → s.heap.get c ≠ none → ι b = some (b', g) → ι c = some (b', g') → b = c
  lt : ∀ b b' g, ι b = some (b', g) → b' < w.heap.size

def Grow (ι ι' : Re) (lo hi : Nat) : Prop := ∀ b, ¬ (lo ≤ b ∧ b < hi) → ι' b = ι b
def Free (ι : Re) (lo hi : Nat) : Prop := ∀ b, lo ≤ b → b < hi → ι b = none
theorem Grow.refl (ι : Re) (lo hi : Nat) : Grow ι ι lo hi := fun _ _ => rfl
theorem Grow.mono {ι ι' : Re} {lo hi : Nat} (h : Grow ι ι' lo hi) (hf : Free ι lo hi) (b : Nat) (b' : Nat × Nat) (hb : ι b = some b') : ι' b = some b' := by
  rw [h b (fun hh => by rw [hf b hh.1 hh.2] at hb; cases hb)]; exact hb
theorem Grow.trans {ι ι1 ι2 : Re} {a b c : Nat} (h : Grow ι ι1 a b) (k : Grow ι1 ι2 b c) (hab : a ≤ b) (hbc : b ≤ c) : Grow ι ι2 a c := fun x hx => by
  rw [k x (fun h => hx ⟨by omega, h.2⟩), h x (fun h => hx ⟨h.1, by omega⟩)]
theorem Free.left {ι : Re} {a b c : Nat} (h : Free ι a c) (hbc : b ≤ c) : Free ι a b := fun x h1 h2 => h x h1 (by omega)
theorem Free.right {ι ι1 : Re} {a b c : Nat} (h : Free ι a c) (k : Grow ι ι1 a b) (hab : a ≤ b) : Free ι1 b c := fun x h1 h2 => by
  rw [k x (fun h => by omega)]; exact h x (by omega) h2

section
variable {P : Program} {w0 w : World} {ι : Re} {s s' : St}
theorem Rel.congr (h : Rel P w0 ι s w) (hs : ∀ b, s'.heap.get b = s.heap.get b) : Rel P w0 ι s' w :=
  ⟨h.x, fun b k hk => h.blk b k (by rw [← hs]; exact hk), fun b c b' g g' h1 h2 => h.inj b c b' g g' (by rw [← hs]; exact h1) (by rw [← hs]; exact h2), h.lt⟩
/-- Of the state the heap alone counts; what it forgets is not told. -/
theorem Rel.less (h : Rel P w0 ι s w) (hs : ∀ b k, s'.heap.get b = some k → s.heap.get b = some k) : Rel P w0 ι s' w := by
  have hn : ∀ b, s'.heap.get b ≠ none → s.heap.get b ≠ none := fun b hb => by
    cases e : s'.heap.get b with
    | none => exact absurd e hb
    | some k => rw [hs b k e]; simp
  exact ⟨h.x, fun b k hk => h.blk b k (hs b k hk), fun b c b' g g' h1 h2 => h.inj b c b' g g' (hn b h1) (hn c h2), h.lt⟩
theorem Rel.drew (h : Rel P w0 ι s w) : Rel P w0 ι s { w with drawn := w.drawn + 1 } := ⟨h.x.drew, h.blk, h.inj, h.lt⟩

/-- Another object in a block's place. -/
def putO (w : World) (b : Nat) (o : Obj) : World := { w with heap := w.heap.setIfInBounds b o }
def softO : Obj → Prop
  | .cells _ _ f => f = (0, 0)
  | .map _ _ => True
  | _ => False
theorem BR.soft {g : Nat} {k : Blk} {o : Obj} (h : BR P ι g k (some o)) : softO o := by
  cases k with
  | cells c t sp => obtain ⟨cc, h1, _⟩ := h; cases h1; rfl
  | map es => obtain ⟨ms, clk, h1, _⟩ := h; cases h1; trivial
theorem softO.frozen {w : World} {a : Addr} {o : Obj} (h : w.heap[a.block]? = some o) (ho : softO o) : w.frozen? a = false := by
  unfold World.frozen?
  rw [h]
  cases o <;> simp [softO] at ho ⊢
  subst ho
  simp
theorem frozen_beyond {w : World} {a : Addr} (h : w.heap.size ≤ a.block) : w.frozen? a = false := by
  unfold World.frozen?
  rw [Array.getElem?_eq_none h]
theorem putO_heap (w : World) (b : Nat) (o : Obj) (c : Nat) : (putO w b o).heap[c]? = if b = c then (if b < w.heap.size then some o else none) else w.heap[c]? := by
  show (w.heap.setIfInBounds b o)[c]? = _
  rw [Array.getElem?_setIfInBounds]
theorem putO_size (w : World) (b : Nat) (o : Obj) : (putO w b o).heap.size = w.heap.size := by simp [putO]
theorem Ext.putO {w0 w : World} (h : Ext w0 w) {b : Nat} {o : Obj} (hb : w0.heap.size ≤ b) (hl : b < w.heap.size) (ho : softO o) : Ext w0 (putO w b o) := by
  refine ⟨h.os, h.tape, h.output, by rw [putO_size]; exact h.size, fun k hk => ?_, fun a => ?_⟩
  · rw [putO_heap, if_neg (by omega)]; exact h.block k hk
  · by_cases e : b = a.block
    · rw [softO.frozen (a := a) (w := Go.Proofs.YtnpbnpilhmbpoaaGreat.putO w b o) (by rw [putO_heap, if_pos e, if_pos hl]) ho, frozen_beyond (by omega)]
    · rw [← h.frozen a]
      unfold World.frozen?
      rw [putO_heap, if_neg e]
theorem Ext.pushO {w0 w : World} (h : Ext w0 w) {o : Obj} (ho : softO o) : Ext w0 (w.alloc o) := by
  refine ⟨h.os, h.tape, h.output, by rw [show (w.alloc o).heap.size = w.heap.size + 1 from Array.size_push ..]; exact Nat.le_succ_of_le h.size, fun k hk => ?_, fun a => ?_⟩
  · show (w.heap.push o)[k]? = _
    rw [Array.getElem?_push, if_neg (by have := h.size; omega)]; exact h.block k hk
  · by_cases e : a.block = w.heap.size
    · rw [softO.frozen (a := a) (w := w.alloc o) (by show (w.heap.push o)[a.block]? = _; rw [Array.getElem?_push, if_pos e]) ho, frozen_beyond (by have := h.size; omega)]
    · rw [← h.frozen a]
      unfold World.frozen?
      have : (w.alloc o).heap[a.block]? = w.heap[a.block]? := by
        show (w.heap.push o)[a.block]? = _
        rw [Array.getElem?_push, if_neg e]
      rw [this]

theorem Rel.put (h : Rel P w0 ι s w) {b : Nat} {k k' : Blk} {b' g : Nat} {o : Obj} (hk : s.heap.get b = some k) (hi : ι b = some (b', g)) (hbr : BR P ι g k' (some o))
    (hs : ∀ c, s'.heap.get c = if c = b then some k' else s.heap.get c) : Rel P w0 ι s' (putO w b' o) := by
  obtain ⟨b2, g2, h1, h2, h3⟩ := h.blk b k hk
  rw [hi] at h1
  simp only [Option.some.injEq, Prod.mk.injEq] at h1
  obtain ⟨rfl, rfl⟩ := h1
  have hl := h.lt _ _ _ hi
  have hnn : ∀ c, s'.heap.get c ≠ none → s.heap.get c ≠ none := fun c hc => by
    rw [hs] at hc
    by_cases e : c = b
    · subst e; rw [hk]; simp
    · rw [if_neg e] at hc; exact hc
  refine ⟨h.x.putO h2 hl hbr.soft, fun c kc hc => ?_, fun c d c' g g' hc hd => h.inj c d c' g g' (hnn c hc) (hnn d hd), fun c c' g hc => by rw [putO_size]; exact h.lt c c' g hc⟩
  rw [hs] at hc
  by_cases e : c = b
  · subst e
    rw [if_pos rfl] at hc
    cases hc
    exact ⟨b', g, hi, h2, by rw [putO_heap, if_pos rfl, if_pos hl]; exact hbr⟩
  · rw [if_neg e] at hc
    obtain ⟨c', gc, q1, q2, q3⟩ := h.blk c kc hc
    refine ⟨c', gc, q1, q2, ?_⟩
    rw [putO_heap, if_neg]
    · exact q3
    · rintro rfl
      exact e (h.inj c b b' gc g (by rw [hc]; simp) (by rw [hk]; simp) q1 hi)
theorem alloc_heap (w : World) (o : Obj) (c : Nat) : (w.alloc o).heap[c]? = if c = w.heap.size then some o else w.heap[c]? := by
  show (w.heap.push o)[c]? = _
  rw [Array.getElem?_push]
theorem alloc_size (w : World) (o : Obj) : (w.alloc o).heap.size = w.heap.size + 1 := Array.size_push ..
/-- The new place of a new block. -/
def Re.add (ι : Re) (b b' g : Nat) : Re := fun c => if c = b then some (b', g) else ι c
theorem Re.add_self (ι : Re) (b b' g : Nat) : ι.add b b' g b = some (b', g) := by simp [Re.add]
theorem Re.add_mono {ι : Re} {b b' g : Nat} (hf : ι b = none) (c : Nat) (c' : Nat × Nat) (hc : ι c = some c') : ι.add b b' g c = some c' := by
  unfold Re.add
  rw [if_neg]
  · exact hc
  · rintro rfl; rw [hf] at hc; cases hc
theorem Re.add_grow (ι : Re) (b b' g : Nat) : Grow ι (ι.add b b' g) b (b + 1) := fun c hc => by
  unfold Re.add
  rw [if_neg (by rintro rfl; exact hc ⟨Nat.le_refl _, Nat.lt_succ_self _⟩)]
theorem Rel.new (h : Rel P w0 ι s w) {b : Nat} {k : Blk} {g : Nat} {o : Obj} (hf : ι b = none) (hbr : BR P ι g k (some o))
    (hs : ∀ c, s'.heap.get c = if c = b then some k else s.heap.get c) : Rel P w0 (ι.add b w.heap.size g) s' (w.alloc o) := by
  have hm := Re.add_mono (b' := w.heap.size) (g := g) hf
  have hold : ∀ c kc, s.heap.get c = some kc → c ≠ b := fun c kc hc e => by
    subst e
    obtain ⟨_, _, q, _⟩ := h.blk c kc hc
    rw [hf] at q; cases q
  refine ⟨h.x.pushO hbr.soft, fun c kc hc => ?_, fun c d c' g1 g2 hc hd hic hid => ?_, fun c c' gc hc => ?_⟩
  · rw [hs] at hc
    by_cases e : c = b
    · subst e
      rw [if_pos rfl] at hc
      cases hc
      exact ⟨w.heap.size, g, Re.add_self .., h.x.size, by rw [alloc_heap, if_pos rfl]; exact hbr.mono hm⟩
    · rw [if_neg e] at hc
      obtain ⟨c', gc, q1, q2, q3⟩ := h.blk c kc hc
      exact ⟨c', gc, hm c _ q1, q2, by rw [alloc_heap, if_neg (by have := h.lt _ _ _ q1; omega)]; exact q3.mono hm⟩
  · unfold Re.add at hic hid
    by_cases e1 : c = b
    · by_cases e2 : d = b
      · rw [e1, e2]
      · rw [if_pos e1] at hic
        rw [if_neg e2] at hid
        simp only [Option.some.injEq, Prod.mk.injEq] at hic
        have := h.lt _ _ _ hid
        omega
    · by_cases e2 : d = b
      · rw [if_pos e2] at hid
        rw [if_neg e1] at hic
        simp only [Option.some.injEq, Prod.mk.injEq] at hid
        have := h.lt _ _ _ hic
        omega
      · rw [if_neg e1] at hic
        rw [if_neg e2] at hid
        rw [hs, if_neg e1] at hc
        rw [hs, if_neg e2] at hd
        exact h.inj c d c' g1 g2 hc hd hic hid
  · rw [alloc_size]
    unfold Re.add at hc
    by_cases e : c = b
    · rw [if_pos e] at hc
      simp only [Option.some.injEq, Prod.mk.injEq] at hc
      omega
    · rw [if_neg e] at hc
      have := h.lt _ _ _ hc
      omega
/-- A block takes another one's name (the other one is forgotten): it lies where that one lay. -/
theorem Rel.rename (h : Rel P w0 ι s w) {b nb : Nat} {k k' : Blk} {b' g : Nat} {o : Obj} (hk : s.heap.get b = some k) (hi : ι b = some (b', g)) (hf : ι nb = none) (hbr : BR P ι g k' (some o))
    (hs : ∀ c, s'.heap.get c = if c = nb then some k' else if c = b then none else s.heap.get c) : Rel P w0 (ι.add nb b' g) s' (putO w b' o) := by
  have hm := Re.add_mono (b' := b') (g := g) hf
  obtain ⟨b2, g2, h1, h2, h3⟩ := h.blk b k hk
  rw [hi] at h1
  simp only [Option.some.injEq, Prod.mk.injEq] at h1
  obtain ⟨rfl, rfl⟩ := h1
  have hl := h.lt _ _ _ hi
  have hnb : nb ≠ b := by rintro rfl; rw [hf] at hi; cases hi
  refine ⟨h.x.putO h2 hl hbr.soft, fun c kc hc => ?_, fun c d c' g1 g2 hc hd hic hid => ?_, fun c c' gc hc => ?_⟩
  · rw [hs] at hc
    by_cases e : c = nb
    · subst e
      rw [if_pos rfl] at hc
      cases hc
      exact ⟨b', g, Re.add_self .., h2, by rw [putO_heap, if_pos rfl, if_pos hl]; exact hbr.mono hm⟩
    · rw [if_neg e] at hc
      by_cases e2 : c = b
      · rw [if_pos e2] at hc; cases hc
      · rw [if_neg e2] at hc
        obtain ⟨c', gc, q1, q2, q3⟩ := h.blk c kc hc
        refine ⟨c', gc, hm c _ q1, q2, ?_⟩
        rw [putO_heap, if_neg]
        · exact q3.mono hm
        · rintro rfl
          exact e2 (h.inj c b b' gc g (by rw [hc]; simp) (by rw [hk]; simp) q1 hi)
  · unfold Re.add at hic hid
    rw [hs] at hc hd
    by_cases e1 : c = nb
    · by_cases e2 : d = nb
      · rw [e1, e2]
      · rw [if_pos e1] at hic
        rw [if_neg e2] at hid hd
        simp only [Option.some.injEq, Prod.mk.injEq] at hic
        obtain ⟨rfl, rfl⟩ := hic
        by_cases e3 : d = b
        · rw [if_pos e3] at hd; exact absurd rfl hd
        · rw [if_neg e3] at hd
          exact absurd (h.inj d b b' g2 g hd (by rw [hk]; simp) hid hi) e3
    · rw [if_neg e1] at hic hc
      by_cases e2 : d = nb
      · rw [if_pos e2] at hid
        simp only [Option.some.injEq, Prod.mk.injEq] at hid
        obtain ⟨rfl, rfl⟩ := hid
        by_cases e3 : c = b
        · rw [if_pos e3] at hc; exact absurd rfl hc
        · rw [if_neg e3] at hc
          exact absurd (h.inj c b b' g1 g hc (by rw [hk]; simp) hic hi) e3
      · rw [if_neg e2] at hid hd
        by_cases e3 : c = b
        · rw [if_pos e3] at hc; exact absurd rfl hc
        · by_cases e4 : d = b
          · rw [if_pos e4] at hd; exact absurd rfl hd
          · rw [if_neg e3] at hc
            rw [if_neg e4] at hd
            exact h.inj c d c' g1 g2 hc hd hic hid
  · rw [putO_size]
    unfold Re.add at hc
    by_cases e : c = nb
    · rw [if_pos e] at hc
      simp only [Option.some.injEq, Prod.mk.injEq] at hc
      obtain ⟨rfl, rfl⟩ := hc
      exact hl
    · rw [if_neg e] at hc
      exact h.lt _ _ _ hc
end

/-! What the machine's own steps say. -/
theorem bind_some {α β : Type} {m : M α} {f : α → M β} {s : St} {b : β} {s2 : St} (h : M.bind m f s = some (b, s2)) : ∃ a s1, m s = some (a, s1) ∧ f a s1 = some (b, s2) := by
  unfold M.bind at h
  cases h1 : m s with
  | none => simp [h1] at h
  | some r => obtain ⟨a, s1⟩ := r; simp only [h1] at h; exact ⟨a, s1, rfl, h⟩
theorem pure_some {α : Type} {a b : α} {s s2 : St} (h : M.pure a s = some (b, s2)) : b = a ∧ s2 = s := by
  simp only [M.pure, Option.some.injEq, Prod.mk.injEq] at h
  exact ⟨h.1.symm, h.2.symm⟩
theorem lift_some {α : Type} {o : Option α} {b : α} {s s2 : St} (h : lift o s = some (b, s2)) : o = some b ∧ s2 = s := by
  cases o with
  | none => simp [lift, M.fail] at h
  | some a => obtain ⟨rfl, rfl⟩ := pure_some h; exact ⟨rfl, rfl⟩
theorem getB_some {b : Nat} {k : Blk} {s s2 : St} (h : getB b s = some (k, s2)) : s.heap.get b = some k ∧ s2.heap = s.heap ∧ s2.next = s.next := by
  unfold getB at h
  rw [cond_blt] at h
  split at h
  · cases hk : s.heap.get b with
    | none => simp [hk] at h
    | some k0 =>
      simp only [hk, Option.some.injEq, Prod.mk.injEq] at h
      obtain ⟨rfl, rfl⟩ := h
      exact ⟨rfl, rfl, rfl⟩
  · cases h
theorem setB_some {b : Nat} {k : Option Blk} {u : Unit} {s s2 : St} (h : setB b k s = some (u, s2)) : (∀ c, s2.heap.get c = if c = b then k else s.heap.get c) ∧ s2.next = s.next := by
  unfold setB at h
  rw [cond_blt, cond_blt] at h
  split at h
  · split at h
    · rename_i hbm
      cases hk : s.heap.get b with
      | none => simp [hk] at h
      | some k0 =>
        simp only [hk, Option.some.injEq, Prod.mk.injEq] at h
        obtain ⟨-, rfl⟩ := h
        exact ⟨fun c => Tr.get_set _ _ _ _ _ (Nat.lt_of_le_of_lt hbm (by decide)), rfl⟩
    · cases h
  · cases h
theorem newB_some {k : Blk} {n : Nat} {s s2 : St} (h : newB k s = some (n, s2)) : n = s.next ∧ (∀ c, s2.heap.get c = if c = n then some k else s.heap.get c) ∧ s2.next = s.next + 1 := by
  unfold newB at h
  rw [cond_blt] at h
  split at h
  · rename_i hbm
    simp only [Option.some.injEq, Prod.mk.injEq] at h
    obtain ⟨rfl, rfl⟩ := h
    exact ⟨rfl, fun c => Tr.get_set _ _ _ _ _ (Nat.lt_of_le_of_lt hbm (by decide)), rfl⟩
  · cases h
end Go.Proofs.YtnpbnpilhmbpoaaGreat

/- The closed run: variables read and written, in the small heap and in the world. -/
namespace Go.Proofs.YtnpbnpilhmbpoaaGreat
open Go.RowKit

/-- A variable of type t at place o of the cells c. -/
def aRead (P : Program) (t : TypeId) (c : List Value) (o : Nat) : Option Value := match P.underlying t with
  | some (.struct _) => cond (Nat.beq ((c.drop o).take (P.cellsOf t)).length (P.cellsOf t)) (some (.agg ⟨(c.drop o).take (P.cellsOf t)⟩)) none
  | some (.array _ _) => cond (Nat.beq ((c.drop o).take (P.cellsOf t)).length (P.cellsOf t)) (some (.agg ⟨(c.drop o).take (P.cellsOf t)⟩)) none
  | some _ => c[o]?
  | none => none

section
variable {P : Program} {w : World} {ι : Re}
theorem info_of_underlying {t : TypeId} {d : TypeDesc} (h : P.underlying t = some d) : (P.info? t).map (·.size) = some (P.cellsOf t) := by
  unfold Program.cellsOf
  cases hi : P.info? t with
  | none => unfold Program.underlying at h; rw [hi] at h; cases h
  | some i => rfl
theorem heap_cell {b : Nat} {cc : List Value} {t : TypeId} (h : w.heap[b]? = some (.cells ⟨cc⟩ t)) (o : Nat) : w.cell? ⟨b, o, none⟩ = cc[o]? := by
  simp [World.cell?, h]
theorem aRead_cases {t : TypeId} {c : List Value} {o : Nat} {v : Value} (h : aRead P t c o = some v) :
    (∃ d, P.underlying t = some d ∧ d.isRow = true ∧ ((c.drop o).take (P.cellsOf t)).length = P.cellsOf t ∧ v = .agg ⟨(c.drop o).take (P.cellsOf t)⟩) ∨
    (∃ d, P.underlying t = some d ∧ d.isRow = false ∧ c[o]? = some v) := by
  unfold aRead at h
  rw [cond_beq] at h
  split at h
  · rename_i f hu
    split at h
    · rename_i hl; cases h; exact Or.inl ⟨_, hu, rfl, hl, rfl⟩
    · cases h
  · rename_i n e hu
    split at h
    · rename_i hl; cases h; exact Or.inl ⟨_, hu, rfl, hl, rfl⟩
    · cases h
  · rename_i d h1 h2 hu
    refine Or.inr ⟨d, hu, ?_, h⟩
    cases d <;> first | rfl | (exfalso; first | exact h1 _ rfl | exact h2 _ _ rfl)
  · cases h
theorem take_get {c : List Value} {n i : Nat} {x : Value} (h : (c.take n)[i]? = some x) : c[i]? = some x := by
  rw [List.getElem?_take] at h
  split at h
  · exact h
  · cases h
theorem LR.dropTake {c cc : List Value} (h : LR ι c cc) (o n : Nat) : LR ι ((c.drop o).take n) ((cc.drop o).take n) := (h.drop o).take n
theorem take_len {c cc : List Value} (h : LR ι c (cc.take c.length)) : c.length ≤ cc.length := by
  have := h.1
  rw [List.length_take] at this
  omega
theorem dropTake_take {cc : List Value} {m o n : Nat} (h : o + n ≤ m) : ((cc.take m).drop o).take n = (cc.drop o).take n := by
  refine List.ext_getElem? fun i => ?_
  rw [List.getElem?_take, List.getElem?_take, List.getElem?_drop, List.getElem?_drop, List.getElem?_take]
  by_cases hi : i < n
  · rw [if_pos hi, if_pos hi, if_pos (by omega)]
  · rw [if_neg hi, if_neg hi]

theorem aRead_load {t t0 : TypeId} {c cc : List Value} {o : Nat} {v : Value} (h : aRead P t c o = some v) (hl : LR ι c (cc.take c.length)) {b : Nat} (hb : w.heap[b]? = some (.cells ⟨cc⟩ t0)) :
    ∃ v', (loadVar t ⟨b, o, none⟩).run P w = .ok v' w ∧ VR ι v v' := by
  rcases aRead_cases h with ⟨d, hu, hd, hlen, rfl⟩ | ⟨d, hu, hd, hv⟩
  · have hlen2 : P.cellsOf t = 0 ∨ o + P.cellsOf t ≤ c.length := by
      rw [List.length_take, List.length_drop] at hlen
      omega
    have hle := take_len hl
    have hr := hl.dropTake o (P.cellsOf t)
    have he : ((cc.take c.length).drop o).take (P.cellsOf t) = (cc.drop o).take (P.cellsOf t) := by
      rcases hlen2 with h0 | h0
      · rw [h0]; simp
      · exact dropTake_take h0
    rw [he] at hr
    have hcl : ((cc.drop o).take (P.cellsOf t)).length = P.cellsOf t := by rw [← hr.1]; exact hlen
    refine ⟨.agg ⟨(cc.drop o).take (P.cellsOf t)⟩, ?_, hr.aggV⟩
    exact run_loadVar_mid (P := P) w b o t _ d (fun j x hx => by
      rw [heap_cell hb]
      have := take_get hx
      rw [List.getElem?_drop] at this
      exact this) hu hd (by rw [hcl]; exact info_of_underlying hu)
  · obtain ⟨v', hv', hr⟩ := hl.get hv
    refine ⟨v', ?_, hr⟩
    have hagg : (isAgg t).run P w = .ok false w := by
      unfold isAgg
      rw [Sem.run_bind, run_underlying hu w]
      cases d <;> simp_all
    have hc : w.cell? ⟨b, o, none⟩ = some v' := by rw [heap_cell hb]; exact take_get hv'
    simp [loadVar, Sem.run_bind, hagg, hc]
theorem aRead_part {t : TypeId} {c cc : List Value} {o : Nat} {v : Value} (h : aRead P t c o = some v) (hl : LR ι c cc) :
    ∃ v', (∀ w, (part t ⟨cc⟩ o).run P w = .ok v' w) ∧ VR ι v v' := by
  rcases aRead_cases h with ⟨d, hu, hd, hlen, rfl⟩ | ⟨d, hu, hd, hv⟩
  · have hr := hl.dropTake o (P.cellsOf t)
    refine ⟨.agg ⟨(cc.drop o).take (P.cellsOf t)⟩, fun w => ?_, hr.aggV⟩
    have hagg : (isAgg t).run P w = .ok true w := by
      unfold isAgg
      rw [Sem.run_bind, run_underlying hu w]
      cases d <;> simp_all
    have hs : (sizeOf t).run P w = .ok (P.cellsOf t) w := by
      have := info_of_underlying hu
      unfold sizeOf typeInfo
      cases hi : P.info? t with
      | none => simp [hi] at this
      | some i => simp [hi] at this; simp [Sem.run_bind, hi, this]
    have he : (⟨cc⟩ : Array Value).extract o (o + P.cellsOf t) = ⟨(cc.drop o).take (P.cellsOf t)⟩ := by
      apply Array.ext'
      simp [Nat.add_sub_cancel_left]
    simp only [part, Sem.run_bind, hagg, Result.andThen_ok, if_true, hs, Sem.run_pure, he]
  · obtain ⟨v', hv', hr⟩ := hl.get hv
    refine ⟨v', fun w => ?_, hr⟩
    have hagg : (isAgg t).run P w = .ok false w := by
      unfold isAgg
      rw [Sem.run_bind, run_underlying hu w]
      cases d <;> simp_all
    simp [part, Sem.run_bind, hagg, hv']

/-! Writing. -/
def splice (c : List Value) (o : Nat) (vs : List Value) : List Value := c.take o ++ (vs ++ c.drop (o + vs.length))
theorem splice_length {c vs : List Value} {o : Nat} (h : o + vs.length ≤ c.length) : (splice c o vs).length = c.length := by
  simp only [splice, List.length_append, List.length_take, List.length_drop]
  omega
theorem LR.splice {c cc vs vs' : List Value} (h : LR ι c cc) (k : LR ι vs vs') (o : Nat) : LR ι (splice c o vs) (Go.Proofs.YtnpbnpilhmbpoaaGreat.splice cc o vs') := by
  unfold Go.Proofs.YtnpbnpilhmbpoaaGreat.splice
  rw [← k.1]
  exact (h.take o).append (k.append (h.drop _))
theorem take_splice {cc vs : List Value} {o m : Nat} (h : o + vs.length ≤ m) : (splice cc o vs).take m = splice (cc.take m) o vs := by
  unfold splice
  rw [List.take_append, List.take_append, List.take_take, List.drop_take, List.take_of_length_le (i := m - (List.take o cc).length) (l := vs) (by rw [List.length_take]; omega)]
  have e1 : min m o = o := by omega
  have e2 : min o m = o := by omega
  rw [e1, List.take_take, e2]
  by_cases hc : o ≤ cc.length
  · rw [List.length_take, show min o cc.length = o by omega, show m - o - vs.length = m - (o + vs.length) by omega]
  · rw [List.drop_eq_nil_of_le (as := cc) (by omega)]
    simp
theorem putO_putO (w : World) (b : Nat) (o o' : Obj) : putO (putO w b o) b o' = putO w b o' := by
  unfold putO
  simp [Array.setIfInBounds_setIfInBounds]
theorem putO_same {b : Nat} {o : Obj} (h : w.heap[b]? = some o) : putO w b o = w := by
  unfold putO
  have : w.heap.setIfInBounds b o = w.heap := by
    refine Array.ext_getElem? fun i => ?_
    rw [Array.getElem?_setIfInBounds]
    by_cases e : b = i
    · subst e
      rw [if_pos rfl, h]
      have hb : b < w.heap.size := by
        rcases Nat.lt_or_ge b w.heap.size with h1 | h1
        · exact h1
        · rw [Array.getElem?_eq_none h1] at h; cases h
      rw [if_pos hb]
    · rw [if_neg e]
  rw [this]
theorem putO_at {b : Nat} {o0 o : Obj} (h : w.heap[b]? = some o0) : (putO w b o).heap[b]? = some o := by
  have hb : b < w.heap.size := by
    rcases Nat.lt_or_ge b w.heap.size with h1 | h1
    · exact h1
    · rw [Array.getElem?_eq_none h1] at h; cases h
  rw [putO_heap, if_pos rfl, if_pos hb]
theorem setCell_putO {b : Nat} {cc : List Value} {t : TypeId} (h : w.heap[b]? = some (.cells ⟨cc⟩ t)) (i : Nat) (v : Value) : w.setCell ⟨b, i, none⟩ v = putO w b (.cells ⟨cc.set i v⟩ t) := by
  unfold World.setCell putO
  have : (w.heap.modify b fun
      | .cells c elem frozen => .cells (if (none : Option Nat).isSome then c else c.setIfInBounds i v) elem frozen
      | o => o) = w.heap.setIfInBounds b (.cells ⟨cc.set i v⟩ t) := by
    refine Array.ext_getElem? fun j => ?_
    rw [Array.getElem?_modify, Array.getElem?_setIfInBounds]
    by_cases e : b = j
    · subst e
      have hb : b < w.heap.size := by
        rcases Nat.lt_or_ge b w.heap.size with h1 | h1
        · exact h1
        · rw [Array.getElem?_eq_none h1] at h; cases h
      rw [if_pos rfl, if_pos rfl, if_pos hb, h]
      simp
    · rw [if_neg e, if_neg e]
  rw [← this]
  rfl
theorem run_storeCells {b : Nat} {t : TypeId} : ∀ (vs cc : List Value) (o i : Nat) (w : World), w.heap[b]? = some (.cells ⟨cc⟩ t) → o + i + vs.length ≤ cc.length → vs.all (·.oneCell') = true →
    (storeCells ⟨b, o, none⟩ vs i).run P w = .ok () (putO w b (.cells ⟨splice cc (o + i) vs⟩ t))
  | [], cc, o, i, w, hb, hl, h1 => by
    unfold storeCells
    rw [show splice cc (o + i) [] = cc by simp [splice], putO_same hb]
    rfl
  | v :: vs, cc, o, i, w, hb, hl, h1 => by
    simp only [List.all_cons, Bool.and_eq_true] at h1
    simp only [List.length_cons] at hl
    unfold storeCells
    have hc : w.cell? ⟨b, o + i, none⟩ = some (cc[o + i]'(by omega)) := by rw [heap_cell hb]; exact List.getElem?_eq_getElem _
    have hf : w.frozen? ⟨b, o + i, none⟩ = false := softO.frozen (a := ⟨b, o + i, none⟩) hb rfl
    rw [Sem.run_bind, Addr.add_mid, run_store _ _ _ _ _ h1.1, hc]
    simp only [hf, Bool.false_eq_true, if_false, Result.andThen_ok]
    rw [setCell_putO hb, run_storeCells vs (cc.set (o + i) v) o (i + 1) _ (putO_at hb) (by simp; omega) h1.2, putO_putO]
    congr 4
    have h3 : o + i < cc.length := by omega
    refine List.ext_getElem? fun j => ?_
    unfold splice
    rw [List.getElem?_append, List.getElem?_append, List.getElem?_append, List.getElem?_append]
    simp only [List.length_take, List.length_set, List.length_cons, List.getElem?_drop, List.getElem?_take, List.getElem?_set]
    rw [show min (o + (i + 1)) cc.length = o + i + 1 by omega, show min (o + i) cc.length = o + i by omega]
    by_cases e1 : j < o + i
    · rw [if_pos (by omega), if_pos e1, if_pos (by omega), if_pos e1, if_neg (by omega)]
    · by_cases e2 : j = o + i
      · subst e2
        rw [if_pos (by omega), if_neg e1, if_pos (by omega), if_pos (by omega), if_pos (by omega)]
        simp
      · rw [if_neg (by omega), if_neg e1]
        by_cases e3 : j < o + i + 1 + vs.length
        · rw [if_pos (by omega), if_pos (by omega), show j - (o + i) = (j - (o + i + 1)) + 1 by omega]
          rfl
        · rw [if_neg (by omega), if_neg (by omega), if_neg (by omega)]
          congr 1
          omega
theorem run_storeVar {b : Nat} {t t0 : TypeId} {cc : List Value} {o : Nat} {v : Value} (hb : w.heap[b]? = some (.cells ⟨cc⟩ t0)) (hs : (P.info? t).map (·.size) = some v.cells.toList.length) (hl : o + v.cells.toList.length ≤ cc.length) (h1 : v.cells.toList.all (·.oneCell') = true) :
    (storeVar t ⟨b, o, none⟩ v).run P w = .ok () (putO w b (.cells ⟨splice cc o v.cells.toList⟩ t0)) := by
  unfold storeVar
  have hz : (sizeOf t).run P w = .ok v.cells.toList.length w := by
    unfold sizeOf typeInfo
    cases hi : P.info? t with
    | none => simp [hi] at hs
    | some i => simp [hi] at hs; simp [Sem.run_bind, hi, hs]
  have := run_storeCells (P := P) v.cells.toList cc o 0 w hb (by omega) h1
  simp only [Sem.run_bind, hz, Result.andThen_ok]
  rw [if_neg (by simp)]
  simpa [Sem.run_bind] using this
end
end Go.Proofs.YtnpbnpilhmbpoaaGreat

/- The closed run: the operations that make, build, cut; each in the small heap, and what the world then does. -/
namespace Go.Proofs.YtnpbnpilhmbpoaaGreat
open Go.RowKit

/-- What an operation yields, told of the small heap, holds of the world. -/
def VOK (P : Program) (w0 : World) (ι : Re) (S : Sem Value) (m : M Value) : Prop := ∀ s w v s', Rel P w0 ι s w → m s = some (v, s') → Free ι s.next s'.next →
  ∃ ι' v' w', S.run P w = .ok v' w' ∧ VR ι' v v' ∧ Rel P w0 ι' s' w' ∧ s.next ≤ s'.next ∧ Grow ι ι' s.next s'.next

section
variable {P : Program} {w0 : World} {ι : Re}
theorem VOK.pure {S : Sem Value} {v v' : Value} (h : ∀ w, S.run P w = .ok v' w) (hv : VR ι v v') : VOK P w0 ι S (M.pure v) := fun s w x s' hr hm _ => by
  obtain ⟨rfl, rfl⟩ := pure_some hm
  exact ⟨ι, v', w, h w, hv, hr, Nat.le_refl _, Grow.refl ι _ _⟩
theorem VOK.lift {S : Sem Value} {o : Option Value} (h : ∀ v, o = some v → ∃ v', (∀ w, S.run P w = .ok v' w) ∧ VR ι v v') : VOK P w0 ι S (lift o) := fun s w x s' hr hm hf => by
  obtain ⟨ho, rfl⟩ := lift_some hm
  obtain ⟨v', h1, h2⟩ := h x ho
  exact ⟨ι, v', w, h1 w, h2, hr, Nat.le_refl _, Grow.refl ι _ _⟩
theorem VOK.fail {S : Sem Value} : VOK P w0 ι S M.fail := fun s w x s' hr hm hf => by simp [M.fail] at hm
theorem cells_rel {v v' : Value} (h : VR ι v v') : LR ι v.cells.toList v'.cells.toList := by
  cases h with
  | agg h1 h2 => exact ⟨h1, h2⟩
  | plain h => 
    cases v <;> first | exact LR.cons (.plain h) .nil | (simp [plainV] at h)
  | ptr h => exact LR.cons (.ptr h) .nil
  | slice h k => exact LR.cons (.slice h k) .nil
  | map h => exact LR.cons (.map h) .nil
  | func a b c d => exact LR.cons (.func a b c d) .nil
  | tuple a b => exact LR.cons (.tuple a b) .nil

/-! Making. -/
/-- A new row in the small heap, and in the world. -/
theorem new_row {s s' : St} {w : World} {c cc : List Value} {t : TypeId} {b : Nat} (hr : Rel P w0 ι s w) (hm : newB (.cells c t false) s = some (b, s')) (hf : Free ι s.next s'.next) (hc : LR ι c cc) :
    Rel P w0 (ι.add b w.heap.size 0) s' (w.alloc (.cells ⟨cc⟩ t)) ∧ Grow ι (ι.add b w.heap.size 0) s.next s'.next ∧ s.next ≤ s'.next := by
  obtain ⟨rfl, h2, h3⟩ := newB_some hm
  have hn : ι s.next = none := hf _ (Nat.le_refl _) (by omega)
  have hbr : BR P ι 0 (.cells c t false) (some (.cells ⟨cc⟩ t)) := ⟨cc, rfl, by rw [hc.1, List.take_length]; exact hc, fun _ => hc.1.symm, fun h => by cases h⟩
  exact ⟨hr.new hn hbr h2, by rw [h3]; exact Re.add_grow ι _ _ _, by omega⟩
def zeroCells (P : Program) (t : TypeId) : Option (List Value) := match P.info? t with
  | none => none
  | some i => match i.zero with
    | none => none
    | some z => cond (z.cells.toList.all plainV) (some z.cells.toList) none
theorem zeroCells_some {t : TypeId} {c : List Value} (h : zeroCells P t = some c) : ∃ i z, P.info? t = some i ∧ i.zero = some z ∧ z.cells.toList = c ∧ c.all plainV = true := by
  unfold zeroCells at h
  cases hi : P.info? t with
  | none => simp [hi] at h
  | some i =>
    cases hz : i.zero with
    | none => simp [hi, hz] at h
    | some z =>
      simp only [hi, hz] at h
      cases hp : z.cells.toList.all plainV
      · simp [hp] at h
      · simp only [hp, cond_true, Option.some.injEq] at h
        exact ⟨i, z, rfl, hz, h, by rw [← h]; exact hp⟩
def aAlloc (P : Program) (t : TypeId) : M Value := M.bind (lift (zeroCells P t)) fun c => M.bind (newB (.cells c t false)) fun b => M.pure (.pointer (some ⟨b, 0, none⟩))
theorem aAlloc_ok (t : TypeId) : VOK P w0 ι (Instr.alloc t true (.tuple #[])) (aAlloc P t) := fun s w v s' hr hm hf => by
  unfold aAlloc at hm
  obtain ⟨c, s1, h1, hm1⟩ := bind_some hm
  obtain ⟨hc, rfl⟩ := lift_some h1
  obtain ⟨b, s2, h2, hm2⟩ := bind_some hm1
  obtain ⟨rfl, rfl⟩ := pure_some hm2
  obtain ⟨i, z, hi, hz, hzc, hp⟩ := zeroCells_some hc
  obtain ⟨q1, q2, q3⟩ := new_row hr h2 hf (LR.plain hp)
  refine ⟨_, .pointer (some ⟨w.heap.size, 0, none⟩), _, ?_, .ptr (Re.add_self ..), q1, q3, q2⟩
  have hzc' : z.cells = ⟨c⟩ := by rw [← hzc]
  simp [Instr.alloc, zeroValue, typeInfo, hi, hz, newVar, newRow, hzc']
def aBox (t : TypeId) (x : Value) : M Value := M.bind (newB (.cells x.cells.toList t false)) fun b => M.pure (.pointer (some ⟨b, 0, none⟩))
theorem aBox_ok (t : TypeId) {x x' : Value} (hx : VR ι x x') : VOK P w0 ι (Instr.box t x') (aBox t x) := fun s w v s' hr hm hf => by
  unfold aBox at hm
  obtain ⟨b, s2, h2, hm1⟩ := bind_some hm
  obtain ⟨rfl, rfl⟩ := pure_some hm1
  obtain ⟨q1, q2, q3⟩ := new_row hr h2 hf (cells_rel hx)
  exact ⟨_, .pointer (some ⟨w.heap.size, 0, none⟩), _, rfl, .ptr (Re.add_self ..), q1, q3, q2⟩

/-! Building. -/
def fillL (place : Nat → Option (Nat × Nat)) (cells : List Value) : List (Nat × Value) → Option (List Value)
  | [] => some cells
  | (i, v) :: rest => match place i with
    | none => none
    | some (off, size) => cond (Nat.beq v.cells.toList.length size) (cond (Nat.ble (off + v.cells.toList.length) cells.length) (fillL place (splice cells off v.cells.toList) rest) none) none
def PR (ι : Re) (ps ps' : List (Nat × Value)) : Prop := ps.length = ps'.length ∧ ∀ (i : Nat) (p p' : Nat × Value), ps[i]? = some p → ps'[i]? = some p' → p.1 = p'.1 ∧ VR ι p.2 p'.2
theorem PR.head {p p' : Nat × Value} {ps ps' : List (Nat × Value)} (h : PR ι (p :: ps) (p' :: ps')) : p.1 = p'.1 ∧ VR ι p.2 p'.2 := h.2 0 p p' rfl rfl
theorem PR.tail {p p' : Nat × Value} {ps ps' : List (Nat × Value)} (h : PR ι (p :: ps) (p' :: ps')) : PR ι ps ps' := ⟨by simpa using h.1, fun i q q' a b => h.2 (i + 1) q q' (by simpa using a) (by simpa using b)⟩
theorem fold_set' (off : Nat) : ∀ (l : List Value) (n0 : Nat) (cells : Array Value) (k : Nat), off + n0 + l.length ≤ cells.size →
    ((l.zipIdx n0).foldl (fun (cs : Array Value) (cj : Value × Nat) => cs.setIfInBounds (off + cj.2) cj.1) cells).size = cells.size ∧
    ((l.zipIdx n0).foldl (fun (cs : Array Value) (cj : Value × Nat) => cs.setIfInBounds (off + cj.2) cj.1) cells)[k]? = if off + n0 ≤ k ∧ k < off + n0 + l.length then l[k - off - n0]? else cells[k]?
  | [], n0, cells, k, h => by
    simp
    intro h1 h2; omega
  | x :: l, n0, cells, k, h => by
    simp only [List.zipIdx_cons, List.foldl_cons, List.length_cons] at h ⊢
    obtain ⟨h1, h2⟩ := fold_set' off l (n0 + 1) (cells.setIfInBounds (off + n0) x) k (by simp; omega)
    refine ⟨by rw [h1]; simp, ?_⟩
    rw [h2, Array.getElem?_setIfInBounds]
    by_cases e : k = off + n0
    · subst e
      rw [if_neg (by omega), if_pos rfl, if_pos (by omega), if_pos (by omega), show off + n0 - off - n0 = 0 by omega]
      rfl
    · by_cases e2 : off + (n0 + 1) ≤ k ∧ k < off + (n0 + 1) + l.length
      · rw [if_pos e2, if_pos (by omega), show k - off - n0 = (k - off - (n0 + 1)) + 1 by omega]
        rfl
      · rw [if_neg e2, if_neg (fun h => e h.symm), if_neg (by omega)]
theorem fold_splice (off : Nat) (v : Array Value) (c : List Value) (h : off + v.toList.length ≤ c.length) :
    v.zipIdx.foldl (fun (cs : Array Value) (cj : Value × Nat) => cs.setIfInBounds (off + cj.2) cj.1) (⟨c⟩ : Array Value) = (⟨splice c off v.toList⟩ : Array Value) := by
  have f := fun k => fold_set' off v.toList 0 ⟨c⟩ k (by simpa using h)
  have he : v.zipIdx.foldl (fun (cs : Array Value) (cj : Value × Nat) => cs.setIfInBounds (off + cj.2) cj.1) (⟨c⟩ : Array Value) = (v.toList.zipIdx 0).foldl (fun (cs : Array Value) (cj : Value × Nat) => cs.setIfInBounds (off + cj.2) cj.1) (⟨c⟩ : Array Value) := by
    rw [← Array.foldl_toList]
    simp
  rw [he]
  refine Array.ext_getElem? fun k => ?_
  rw [(f k).2]
  simp only [List.getElem?_toArray]
  unfold splice
  rw [List.getElem?_append, List.getElem?_append]
  simp only [List.length_take, List.getElem?_take, List.getElem?_drop]
  rw [show min off c.length = off by omega]
  by_cases e1 : k < off
  · rw [if_neg (by omega), if_pos e1, if_pos e1]
  · by_cases e2 : k < off + v.toList.length
    · rw [if_pos (by omega), if_neg e1, if_pos (by omega)]
      congr 1
    · rw [if_neg (by omega), if_neg e1, if_neg (by omega)]
      congr 1
      omega
theorem fillL_rel (place : Nat → Option (Nat × Nat)) : ∀ (ps ps' : List (Nat × Value)) (c cc r : List Value), PR ι ps ps' → LR ι c cc → fillL place c ps = some r → ∃ rr, Instr.fill place ⟨cc⟩ ps' = some ⟨rr⟩ ∧ LR ι r rr
  | [], [], c, cc, r, hp, hc, h => by simp only [fillL, Option.some.injEq] at h; subst h; exact ⟨cc, rfl, hc⟩
  | [], _ :: _, c, cc, r, hp, hc, h => by have := hp.1; simp at this
  | _ :: _, [], c, cc, r, hp, hc, h => by have := hp.1; simp at this
  | (i, v) :: ps, (i', v') :: ps', c, cc, r, hp, hc, h => by
    obtain ⟨rfl, hv⟩ := hp.head
    unfold fillL at h
    unfold Instr.fill
    cases hpl : place i with
    | none => simp [hpl] at h
    | some os =>
      obtain ⟨off, size⟩ := os
      have hcl := cells_rel hv
      simp only [hpl] at h ⊢
      rw [cond_beq] at h
      split at h
      · rename_i hsz
        cases hble : Nat.ble (off + v.cells.toList.length) c.length
        · rw [hble] at h; cases h
        · rw [hble, cond_true] at h
          have hle : off + v'.cells.toList.length ≤ cc.length := by rw [← hcl.1, ← hc.1]; exact Nat.le_of_ble_eq_true hble
          have hs2 : v'.cells.size = size := by rw [← hsz, hcl.1, Array.length_toList]
          rw [if_neg (by simp only [Bool.or_eq_true, decide_eq_true_eq, not_or]; exact ⟨by simp [hs2], by rw [Array.length_toList] at hle; simpa using hle⟩)]
          rw [fold_splice off v'.cells cc hle]
          exact fillL_rel place ps ps' _ _ r hp.tail (hc.splice hcl off) h
      · cases h
def aBuild (P : Program) (t : TypeId) (ps : List (Nat × Value)) : Option Value := match zeroCells P t, P.underlying t with
  | some z, some (.array _ e) => match P.info? e with
    | some ie => (fillL (fun i => some (i * ie.size, ie.size)) z ps).map fun l => .agg ⟨l⟩
    | none => none
  | some z, some (.struct fs) => match fs.toList.mapM (fun f => (P.info? f.type).map fun i => (f.offset, i.size)) with
    | some places => (fillL (fun i => places[i]?) z ps).map fun l => .agg ⟨l⟩
    | none => none
  | _, _ => none
theorem aBuild_ok (t : TypeId) {ps : List (Nat × Value)} {ps' : Array (Nat × Value)} (hp : PR ι ps ps'.toList) : VOK P w0 ι (Instr.build t ps') (lift (aBuild P t ps)) := VOK.lift fun v hv => by
  unfold aBuild at hv
  cases hz : zeroCells P t with
  | none => simp [hz] at hv
  | some z =>
    obtain ⟨it, zv, hi, hzv, hzc, hpl⟩ := zeroCells_some hz
    have hzc' : zv.cells = ⟨z⟩ := by rw [← hzc]
    cases hu : P.underlying t with
    | none => simp [hz, hu] at hv
    | some d =>
      cases d <;> simp only [hz, hu] at hv <;> try (cases hv; done)
      case array n e =>
        cases hie : P.info? e with
        | none => simp [hie] at hv
        | some ie =>
          simp only [hie, Option.map_eq_some_iff] at hv
          obtain ⟨r, hr, rfl⟩ := hv
          obtain ⟨rr, h1, h2⟩ := fillL_rel _ ps ps'.toList z z r hp (LR.plain hpl) hr
          refine ⟨.agg ⟨rr⟩, fun w => run_build w t ps' ⟨rr⟩ ?_, h2.aggV⟩
          unfold Program.built
          simp only [hi, hu, hzv, hie, hzc']
          exact h1
      case struct fs =>
        cases hpls : fs.toList.mapM (fun f => (P.info? f.type).map fun i => (f.offset, i.size)) with
        | none => simp [hpls] at hv
        | some places =>
          simp only [hpls, Option.map_eq_some_iff] at hv
          obtain ⟨r, hr, rfl⟩ := hv
          obtain ⟨rr, h1, h2⟩ := fillL_rel _ ps ps'.toList z z r hp (LR.plain hpl) hr
          refine ⟨.agg ⟨rr⟩, fun w => run_build w t ps' ⟨rr⟩ ?_, h2.aggV⟩
          unfold Program.built
          simp only [hi, hu, hzv, hpls, hzc']
          have : (fun i : Nat => places.toArray[i]?) = (fun i : Nat => places[i]?) := by funext i; simp
          rw [this]
          exact h1
/-- n cells of zeros. -/
def zerosL (z : List Value) (n : Nat) : List Value := (List.range n).map fun i => (z[i % z.length]?).getD default
theorem zerosL_plain {z : List Value} (h : z.all plainV = true) (n : Nat) : (zerosL z n).all plainV = true := by
  rw [List.all_eq_true]
  intro x hx
  obtain ⟨i, _, rfl⟩ := List.mem_map.1 hx
  cases hz : z[i % z.length]? with
  | none => rfl
  | some y => exact List.all_eq_true.1 h y (List.mem_of_getElem? hz)
theorem zerosL_eq (z : List Value) (n : Nat) : (Array.range n).map (fun i => (⟨z⟩ : Array Value)[i % (⟨z⟩ : Array Value).size]!) = ⟨zerosL z n⟩ := by
  apply Array.ext'
  simp [zerosL, Array.toList_range]
def aBuildSliceN (P : Program) (t : TypeId) (len : Nat) (ps : List (Nat × Value)) : M Value := M.bind (lift (match P.underlying t with
  | some (.slice e) => match zeroCells P e with
    | some z => cond (Nat.beq (len * P.cellsOf e) 0) none (cond (Nat.ble (len * P.cellsOf e) 100000) (cond (Nat.blt len bigCap) ((fillL (fun i => some (i * P.cellsOf e, P.cellsOf e)) (zerosL z (len * P.cellsOf e)) ps).map fun l => (l, e)) none) none)
    | none => none
  | _ => none)) fun le => M.bind (newB (.cells le.1 le.2 false)) fun b => M.pure (.slice (some ⟨b, 0, none⟩) len len)
theorem cellsOf_info {e : TypeId} {i : TypeInfo} (h : P.info? e = some i) : P.cellsOf e = i.size := by unfold Program.cellsOf; rw [h]; rfl
theorem aBuildSliceN_ok (t : TypeId) (len : Nat) {ps : List (Nat × Value)} {ps' : Array (Nat × Value)} (hp : PR ι ps ps'.toList) : VOK P w0 ι (Instr.buildSlice t len ps') (aBuildSliceN P t len ps) := fun s w v s' hr hm hf => by
  unfold aBuildSliceN at hm
  obtain ⟨⟨l, e⟩, s1, h1, hm1⟩ := bind_some hm
  obtain ⟨hc, rfl⟩ := lift_some h1
  obtain ⟨b, s2, h2, hm2⟩ := bind_some hm1
  obtain ⟨rfl, rfl⟩ := pure_some hm2
  cases hu : P.underlying t with
  | none => simp [hu] at hc
  | some d =>
    cases d <;> simp only [hu] at hc <;> try (cases hc; done)
    rename_i e'
    cases hz : zeroCells P e' with
    | none => simp [hz] at hc
    | some z =>
      simp only [hz, cond_beq] at hc
      split at hc
      · cases hc
      · rename_i h0
        cases hble : Nat.ble (len * P.cellsOf e') 100000
        · simp [hble] at hc
        · simp only [hble, cond_true, cond_blt] at hc
          split at hc
          · rename_i hbig
            simp only [Option.map_eq_some_iff, Prod.mk.injEq] at hc
            obtain ⟨r, hr1, rfl, rfl⟩ := hc
            obtain ⟨it, zv, hi, hzv, hzc, hpl⟩ := zeroCells_some hz
            have hzc' : zv.cells = ⟨z⟩ := by rw [← hzc]
            rw [cellsOf_info hi] at h0 hble hr1
            have hle := Nat.le_of_ble_eq_true hble
            obtain ⟨rr, g1, g2⟩ := fillL_rel (ι := ι) _ ps ps'.toList _ (zerosL z (len * it.size)) r hp (LR.plain (zerosL_plain hpl _)) hr1
            obtain ⟨q1, q2, q3⟩ := new_row hr h2 hf g2
            refine ⟨_, .slice (some ⟨w.heap.size, 0, none⟩) len len, _, ?_, .slice (Re.add_self ..) (Or.inl ⟨rfl, hbig⟩), q1, q3, q2⟩
            refine run_buildSlice w t e' len ps' ⟨rr⟩ it zv hu hi hzv (by omega) h0 ?_
            rw [hzc', zerosL_eq]
            exact g1
          · cases hc
/-- A row of none. -/
def aBuildSlice0 (P : Program) (t : TypeId) : M Value := M.bind (lift (match P.underlying t with
  | some (.slice e) => match P.info? e with
    | some _ => some e
    | none => none
  | _ => none)) fun e => M.bind (newB (.cells [] e false)) fun b => M.pure (.slice (some ⟨b, 0, none⟩) 0 0)
theorem aBuildSlice0_ok (t : TypeId) : VOK P w0 ι (Instr.buildSlice t 0 #[]) (aBuildSlice0 P t) := fun s w v s' hr hm hf => by
  unfold aBuildSlice0 at hm
  obtain ⟨e, s1, h1, hm1⟩ := bind_some hm
  obtain ⟨hc, rfl⟩ := lift_some h1
  obtain ⟨b, s2, h2, hm2⟩ := bind_some hm1
  obtain ⟨rfl, rfl⟩ := pure_some hm2
  cases hu : P.underlying t with
  | none => simp [hu] at hc
  | some d =>
    cases d <;> simp only [hu] at hc <;> try (cases hc; done)
    rename_i e'
    cases hi : P.info? e' with
    | none => simp [hi] at hc
    | some ie =>
      simp only [hi, Option.some.injEq] at hc
      subst hc
      obtain ⟨q1, q2, q3⟩ := new_row hr h2 hf (LR.nil (ι := ι))
      refine ⟨_, .slice (some ⟨w.heap.size, 0, none⟩) 0 0, _, ?_, .slice (Re.add_self ..) (Or.inl ⟨rfl, by decide⟩), q1, q3, q2⟩
      simp [Instr.buildSlice, run_underlying hu, sizeOf, typeInfo, hi, newRow, Instr.fill]
      have h0 : ∀ (f : Nat → Value), Array.map f (Array.range 0) = ⟨[]⟩ := fun f => by apply Array.ext'; simp
      rw [h0]
def aBuildSlice (P : Program) (t : TypeId) (len : Nat) (ps : List (Nat × Value)) : M Value := match len, ps with
  | 0, [] => aBuildSlice0 P t
  | _, _ => aBuildSliceN P t len ps
theorem aBuildSlice_ok (t : TypeId) (len : Nat) {ps : List (Nat × Value)} {ps' : Array (Nat × Value)} (hp : PR ι ps ps'.toList) : VOK P w0 ι (Instr.buildSlice t len ps') (aBuildSlice P t len ps) := by
  unfold aBuildSlice
  split
  · have h0 : ps' = #[] := by
      have := hp.1
      simp at this
      exact Array.eq_empty_of_size_eq_zero this.symm
    subst h0
    exact aBuildSlice0_ok t
  · exact aBuildSliceN_ok t len hp
end
end Go.Proofs.YtnpbnpilhmbpoaaGreat

/- The closed run: the operations that read, write, point and cut. -/
namespace Go.Proofs.YtnpbnpilhmbpoaaGreat
open Go.RowKit

def UOK (P : Program) (w0 : World) (ι : Re) (S : Sem Unit) (m : M Unit) : Prop := ∀ s w u s', Rel P w0 ι s w → m s = some (u, s') → Free ι s.next s'.next →
  ∃ ι' w', S.run P w = .ok () w' ∧ Rel P w0 ι' s' w' ∧ s.next ≤ s'.next ∧ Grow ι ι' s.next s'.next

section
variable {P : Program} {w0 : World} {ι : Re}
def aLoad (P : Program) (t : TypeId) (v : Value) : M Value := match v with
  | .pointer (some ⟨b, o, none⟩) => M.bind (getB b) fun k => match k with
    | .cells c _ _ => lift (aRead P t c o)
    | .map _ => M.fail
  | _ => M.fail
theorem blk_at {s : St} {w : World} (hr : Rel P w0 ι s w) {b b' g : Nat} {k : Blk} (hk : s.heap.get b = some k) (hi : ι b = some (b', g)) : w0.heap.size ≤ b' ∧ BR P ι g k w.heap[b']? := by
  obtain ⟨b2, g2, h1, h2, h3⟩ := hr.blk b k hk
  rw [hi] at h1
  simp only [Option.some.injEq, Prod.mk.injEq] at h1
  obtain ⟨rfl, rfl⟩ := h1
  exact ⟨h2, h3⟩
theorem aLoad_ok (t : TypeId) {x x' : Value} (hx : VR ι x x') : VOK P w0 ι (Instr.loadAt t x') (aLoad P t x) := fun s w v s' hr hm hf => by
  cases hx with
  | @ptr b b' g o hi =>
    unfold aLoad at hm
    obtain ⟨k, s1, h1, hm1⟩ := bind_some hm
    obtain ⟨e1, e2, e3⟩ := getB_some h1
    cases k with
    | map es => simp [M.fail] at hm1
    | cells c t0 sp =>
      obtain ⟨ha, rfl⟩ := lift_some hm1
      obtain ⟨-, cc, hb, hl, -⟩ := blk_at hr e1 hi
      obtain ⟨v', r1, r2⟩ := aRead_load ha hl hb
      exact ⟨ι, v', w, by simp only [Instr.loadAt, Instr.sureAddr, Sem.run_bind, Sem.run_pure, Result.andThen_ok, r1], r2, hr.congr (fun b => by rw [e2]), by rw [e3]; exact Nat.le_refl _, Grow.refl ι _ _⟩
  | plain h =>
    unfold aLoad at hm
    split at hm
    · simp [plainV] at h
    · simp [M.fail] at hm
  | _ => simp [aLoad, M.fail] at hm

theorem one_rel {x x' : Value} (h : VR ι x x') (h1 : x.oneCell' = true) : x'.oneCell' = true := by
  cases h <;> first | rfl | exact h1 | (simp [Value.oneCell'] at h1)
theorem LR.ones {xs xs' : List Value} (h : LR ι xs xs') (h1 : xs.all (·.oneCell') = true) : xs'.all (·.oneCell') = true := by
  rw [List.all_eq_true] at h1 ⊢
  intro x hx
  obtain ⟨i, hi, rfl⟩ := List.mem_iff_getElem.1 hx
  have hi2 : i < xs.length := by rw [h.1]; exact hi
  exact one_rel (h.2 i _ _ (List.getElem?_eq_getElem hi2) (List.getElem?_eq_getElem hi)) (h1 _ (List.getElem_mem hi2))
def sizeIs (P : Program) (t : TypeId) (n : Nat) : Bool := match P.info? t with
  | none => false
  | some i => Nat.beq i.size n
theorem sizeIs_true {t : TypeId} {n : Nat} (h : sizeIs P t n = true) : (P.info? t).map (·.size) = some n := by
  unfold sizeIs at h
  cases hi : P.info? t with
  | none => simp [hi] at h
  | some i => simp only [hi] at h; simp [Nat.eq_of_beq_eq_true h]
theorem run_sizeIs {t : TypeId} {n : Nat} (h : (P.info? t).map (·.size) = some n) (w : World) : (sizeOf t).run P w = .ok n w := by
  unfold sizeOf typeInfo
  cases hi : P.info? t with
  | none => simp [hi] at h
  | some i => simp [hi] at h; simp [Sem.run_bind, hi, h]
def aStore (P : Program) (t : TypeId) (x v : Value) : M Unit := match x with
  | .pointer (some ⟨b, o, none⟩) => M.bind (getB b) fun k => match k with
    | .cells c t0 sp => cond (sizeIs P t v.cells.toList.length) (cond (Nat.ble (o + v.cells.toList.length) c.length) (cond (v.cells.toList.all (·.oneCell')) (setB b (some (.cells (splice c o v.cells.toList) t0 sp))) M.fail) M.fail) M.fail
    | .map _ => M.fail
  | _ => M.fail
theorem cond_fail {α : Type} {b : Bool} {m : M α} {s : St} {r : α × St} (h : (cond b m M.fail) s = some r) : b = true ∧ m s = some r := by
  cases b
  · simp [M.fail] at h
  · exact ⟨rfl, h⟩
theorem splice_put {s s' : St} {w : World} (hr : Rel P w0 ι s w) {b b' g : Nat} {c cc vs vs' : List Value} {t0 : TypeId} {sp : Bool} {o : Nat} (hk : s.heap.get b = some (.cells c t0 sp)) (hi : ι b = some (b', g))
    (hb : w.heap[b']? = some (.cells ⟨cc⟩ t0)) (hbr : BR P ι g (.cells c t0 sp) w.heap[b']?) (hv : LR ι vs vs') (hle : o + vs.length ≤ c.length)
    (hs : ∀ d, s'.heap.get d = if d = b then some (.cells (splice c o vs) t0 sp) else s.heap.get d) : Rel P w0 ι s' (putO w b' (.cells ⟨splice cc o vs'⟩ t0)) := by
  obtain ⟨cc2, hb2, hl, h1, h2⟩ := hbr
  rw [hb] at hb2
  simp only [Option.some.injEq, Obj.cells.injEq, and_true, Array.mk.injEq] at hb2
  subst hb2
  have hcl := take_len hl
  have hsl := splice_length (o := o) (vs := vs) (c := c) hle
  have hsl' := splice_length (o := o) (vs := vs') (c := cc) (by rw [← hv.1]; omega)
  have hbr' : BR P ι g (.cells (splice c o vs) t0 sp) (some (.cells ⟨splice cc o vs'⟩ t0)) := by
    refine ⟨splice cc o vs', rfl, ?_, fun h => by rw [hsl, hsl']; exact h1 h, fun h => by rw [hsl']; exact h2 h⟩
    rw [hsl, take_splice (by rw [← hv.1]; exact hle)]
    exact hl.splice hv o
  exact hr.put hk hi hbr' hs
theorem aStore_ok (t : TypeId) {x x' v v' : Value} (hx : VR ι x x') (hv : VR ι v v') : UOK P w0 ι (Instr.storeAt t x' v') (aStore P t x v) := fun s w u s' hr hm hf => by
  cases hx with
  | @ptr b b' g o hi =>
    unfold aStore at hm
    obtain ⟨k, s1, h1, hm1⟩ := bind_some hm
    obtain ⟨e1, e2, e3⟩ := getB_some h1
    cases k with
    | map es => simp [M.fail] at hm1
    | cells c t0 sp =>
      obtain ⟨c1, hm2⟩ := cond_fail hm1
      obtain ⟨c2, hm3⟩ := cond_fail hm2
      obtain ⟨c3, hm4⟩ := cond_fail hm3
      obtain ⟨e4, e5⟩ := setB_some hm4
      obtain ⟨-, hbr⟩ := blk_at hr e1 hi
      obtain ⟨cc, hb, hl, -⟩ := id hbr
      have hvc := cells_rel hv
      have hle := Nat.le_of_ble_eq_true c2
      have hcl := take_len hl
      refine ⟨ι, _, ?_, splice_put hr e1 hi hb hbr hvc hle (fun d => by rw [e4, e2]), by rw [e5, e3]; exact Nat.le_refl _, Grow.refl ι _ _⟩
      simp only [Instr.storeAt, Instr.sureAddr, Sem.run_bind, Sem.run_pure, Result.andThen_ok]
      exact run_storeVar hb (by rw [← hvc.1]; exact sizeIs_true c1) (by rw [← hvc.1]; omega) (hvc.ones c3)
  | plain h =>
    unfold aStore at hm
    split at hm
    · simp [plainV] at h
    · simp [M.fail] at hm
  | _ => simp [aStore, M.fail] at hm

/-! Parts. -/
def aField (P : Program) (t : TypeId) (f : Nat) (v : Value) : Option Value := match P.underlying t with
  | some (.struct fs) => match fs.toList[f]? with
    | some fd => match v with
      | .agg ⟨l⟩ => aRead P fd.type l fd.offset
      | _ => none
    | none => none
  | _ => none
theorem aField_ok (t : TypeId) (f : Nat) {x x' : Value} (hx : VR ι x x') : VOK P w0 ι (Instr.field t x' f) (lift (aField P t f x)) := VOK.lift fun v hv => by
  unfold aField at hv
  cases hu : P.underlying t with
  | none => simp [hu] at hv
  | some d =>
    cases d <;> simp only [hu] at hv <;> try (cases hv; done)
    rename_i fs
    cases hfd : fs.toList[f]? with
    | none => simp [hfd] at hv
    | some fd =>
      simp only [hfd] at hv
      cases hx with
      | agg h1 h2 =>
        rename_i xs xs'
        simp only at hv
        have hfd' : fs[f]? = some fd := by rw [← Array.getElem?_toList]; exact hfd
        obtain ⟨v', hw, r2⟩ := aRead_part hv (⟨h1, h2⟩ : LR ι xs xs')
        exact ⟨v', fun w => by simp only [Instr.field, Sem.run_bind, run_underlying hu, Result.andThen_ok, hfd', asAgg, Sem.run_pure, hw w], r2⟩
      | plain h => cases x <;> simp [plainV] at h hv
      | _ => simp at hv

def aFieldAddr (P : Program) (t : TypeId) (f : Nat) (v : Value) : Option Value := match P.underlying t with
  | some (.struct fs) => match fs.toList[f]? with
    | some fd => match v with
      | .pointer (some ⟨b, o, none⟩) => match P.info? fd.type with
        | some i => cond (Nat.beq i.size 0) none (some (.pointer (some ⟨b, o + fd.offset, none⟩)))
        | none => none
      | _ => none
    | none => none
  | _ => none
theorem aFieldAddr_ok (t : TypeId) (f : Nat) {x x' : Value} (hx : VR ι x x') : VOK P w0 ι (Instr.fieldAt t x' f) (lift (aFieldAddr P t f x)) := VOK.lift fun v hv => by
  unfold aFieldAddr at hv
  cases hu : P.underlying t with
  | none => simp [hu] at hv
  | some d =>
    cases d <;> simp only [hu] at hv <;> try (cases hv; done)
    rename_i fs
    cases hfd : fs.toList[f]? with
    | none => simp [hfd] at hv
    | some fd =>
      simp only [hfd] at hv
      have hfd' : fs[f]? = some fd := by rw [← Array.getElem?_toList]; exact hfd
      cases hx with
      | ptr hi =>
        rename_i b b' g o
        simp only at hv
        cases hin : P.info? fd.type with
        | none => simp [hin] at hv
        | some i =>
          simp only [hin, cond_beq] at hv
          split at hv
          · cases hv
          · rename_i h0
            simp only [Option.some.injEq] at hv
            subst hv
            refine ⟨.pointer (some ⟨b', o + fd.offset, none⟩), fun w => ?_, .ptr hi⟩
            have hs : (sizeOf fd.type).run P w = .ok i.size w := by simp [sizeOf, typeInfo, Sem.run_bind, hin]
            simp [Instr.fieldAt, Sem.run_bind, run_underlying hu, hfd', Instr.sureAddr, fieldPlace, hs, h0, Addr.add_lit]
      | plain h => split at hv <;> first | (cases hv; done) | (simp [plainV] at h)
      | _ => simp at hv
def natOf : Value → Option Nat
  | .int _ (.ofNat n) => some n
  | _ => none
theorem natOf_some {v : Value} {n : Nat} (h : natOf v = some n) : ∃ k, v = .int k (n : Int) := by
  unfold natOf at h
  split at h
  · cases h; exact ⟨_, rfl⟩
  · cases h
def aIndexAddr (P : Program) (t : TypeId) (x i : Value) : Option Value := match natOf i with
  | none => none
  | some n => match P.underlying t with
    | some (.array len e) => match x with
      | .pointer (some ⟨b, o, none⟩) => match P.info? e with
        | some ie => cond (Nat.blt n len) (some (.pointer (some ⟨b, o + n * ie.size, none⟩))) none
        | none => none
      | _ => none
    | some (.slice e) => match x with
      | .slice (some ⟨b, o, none⟩) len _ => match P.info? e with
        | some ie => cond (Nat.blt n len) (some (.pointer (some ⟨b, o + n * ie.size, none⟩))) none
        | none => none
      | _ => none
    | _ => none
theorem int_rel {v v' : Value} {n : Nat} (h : VR ι v v') (hn : natOf v = some n) : ∃ k, v' = .int k (n : Int) := by
  obtain ⟨k, rfl⟩ := natOf_some hn
  rw [← h.plain_eq rfl]
  exact ⟨k, rfl⟩
theorem aIndexAddr_ok (t : TypeId) {x x' i i' : Value} (hx : VR ι x x') (hi : VR ι i i') : VOK P w0 ι (Instr.indexAt t x' i') (lift (aIndexAddr P t x i)) := VOK.lift fun v hv => by
  unfold aIndexAddr at hv
  cases hn : natOf i with
  | none => simp [hn] at hv
  | some n =>
    simp only [hn] at hv
    obtain ⟨k, rfl⟩ := int_rel hi hn
    cases hu : P.underlying t with
    | none => simp [hu] at hv
    | some d =>
      cases d <;> simp only [hu] at hv <;> try (cases hv; done)
      case array len e =>
        cases hx with
        | ptr hb =>
          rename_i b b' g o
          simp only at hv
          cases hin : P.info? e with
          | none => simp [hin] at hv
          | some ie =>
            simp only [hin, cond_blt] at hv
            split at hv
            · rename_i hlt
              simp only [Option.some.injEq] at hv
              subst hv
              refine ⟨.pointer (some ⟨b', o + n * ie.size, none⟩), fun w => ?_, .ptr hb⟩
              have hs : (sizeOf e).run P w = .ok ie.size w := by simp [sizeOf, typeInfo, Sem.run_bind, hin]
              simp [Instr.indexAt, Sem.run_bind, run_underlying hu, asIntOf, Instr.sureAddr, hs, hlt, Addr.add_lit]
            · cases hv
        | plain h => split at hv <;> first | (cases hv; done) | (simp [plainV] at h)
        | _ => simp at hv
      case slice e =>
        cases hx with
        | slice hb hc =>
          rename_i b b' g o len c c'
          simp only at hv
          cases hin : P.info? e with
          | none => simp [hin] at hv
          | some ie =>
            simp only [hin, cond_blt] at hv
            split at hv
            · rename_i hlt
              simp only [Option.some.injEq] at hv
              subst hv
              refine ⟨.pointer (some ⟨b', o + n * ie.size, none⟩), fun w => ?_, .ptr hb⟩
              have hs : (sizeOf e).run P w = .ok ie.size w := by simp [sizeOf, typeInfo, Sem.run_bind, hin]
              simp [Instr.indexAt, Sem.run_bind, run_underlying hu, asIntOf, hs, hlt, Addr.add_lit]
            · cases hv
        | plain h => split at hv <;> first | (cases hv; done) | (simp [plainV] at h)
        | _ => simp at hv
def aIndex (P : Program) (t : TypeId) (x i : Value) : Option Value := match natOf i with
  | none => none
  | some n => match P.underlying t with
    | some (.array len e) => match x with
      | .agg ⟨l⟩ => match P.info? e with
        | some ie => cond (Nat.blt n len) (aRead P e l (n * ie.size)) none
        | none => none
      | _ => none
    | _ => none
theorem aIndex_ok (t : TypeId) {x x' i i' : Value} (hx : VR ι x x') (hi : VR ι i i') : VOK P w0 ι (Instr.index t x' i') (lift (aIndex P t x i)) := VOK.lift fun v hv => by
  unfold aIndex at hv
  cases hn : natOf i with
  | none => simp [hn] at hv
  | some n =>
    simp only [hn] at hv
    obtain ⟨k, rfl⟩ := int_rel hi hn
    cases hu : P.underlying t with
    | none => simp [hu] at hv
    | some d =>
      cases d <;> simp only [hu] at hv <;> try (cases hv; done)
      case array len e =>
        cases hx with
        | agg h1 h2 =>
          rename_i xs xs'
          simp only at hv
          cases hin : P.info? e with
          | none => simp [hin] at hv
          | some ie =>
            simp only [hin, cond_blt] at hv
            split at hv
            · rename_i hlt
              obtain ⟨v', hw, r2⟩ := aRead_part hv (⟨h1, h2⟩ : LR ι xs xs')
              refine ⟨v', fun w => ?_, r2⟩
              have hs : (sizeOf e).run P w = .ok ie.size w := by simp [sizeOf, typeInfo, Sem.run_bind, hin]
              simp [Instr.index, Sem.run_bind, run_underlying hu, asIntOf, hs, hlt, hw w]
            · cases hv
        | plain h => split at hv <;> first | (cases hv; done) | (simp [plainV] at h)
        | _ => simp at hv
def aExtract (n : Nat) (x : Value) : Option Value := match x with
  | .tuple ⟨l⟩ => l[n]?
  | _ => none
theorem aExtract_ok (n : Nat) {x x' : Value} (hx : VR ι x x') : VOK P w0 ι (Instr.extract x' n) (lift (aExtract n x)) := VOK.lift fun v hv => by
  unfold aExtract at hv
  cases hx with
  | tuple h1 h2 =>
    rename_i xs xs'
    simp only at hv
    obtain ⟨v', q1, q2⟩ := LR.get (⟨h1, h2⟩ : LR ι xs xs') hv
    exact ⟨v', fun w => by simp [Instr.extract, q1], q2⟩
  | plain h => split at hv <;> first | (cases hv; done) | (simp [plainV] at h)
  | _ => simp at hv
end
end Go.Proofs.YtnpbnpilhmbpoaaGreat
