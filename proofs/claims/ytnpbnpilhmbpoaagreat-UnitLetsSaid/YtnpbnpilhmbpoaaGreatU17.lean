/- Appending to a row of one's own: nothing older turns. -/
import Derived.Test.YtnpbnpilhmbpoaaGreatU12
import Derived.Laws.AppendOwn
set_option linter.unusedVariables false
namespace Go.Proofs.YtnpbnpilhmbpoaaGreat
open Go.RowKit

theorem frozen_setRow {W : World} {g : Nat} {cur c : Array Value} {t : TypeId} {fr : Nat × Nat} (hg : W.heap[g]? = some (.cells cur t fr)) (a : Addr) : (W.setRow g c).frozen? a = W.frozen? a := by
  by_cases h : a.block = g
  · have h1 := setRow_heap W g cur c t fr hg
    subst h
    simp [World.frozen?, h1, hg]
  · exact World.frozen?_of_block (setRow_other W g a.block c h)
theorem Ext.setRow {w W : World} (h : Ext w W) {g : Nat} {cur c : Array Value} {t : TypeId} {fr : Nat × Nat} (hg : W.heap[g]? = some (.cells cur t fr)) (hb : w.heap.size ≤ g) : Ext w (W.setRow g c) :=
  ⟨h.os, h.tape, h.output, by simpa using h.size, fun k hk => by rw [setRow_other W g k c (by omega)]; exact h.block k hk, fun a => (frozen_setRow hg a).trans (h.frozen a)⟩

theorem append_ext {W : World} (base : Nat) (t ty e : TypeId) (i : TypeInfo) (z : Value) (size bytes : Nat) (ht : Tryz.prog.underlying t = some (.slice e)) (hi : Tryz.prog.info? e = some i) (hz : i.zero = some z)
    (hsize : i.size = size) (hby : i.bytes = bytes) (hzs : z.cells.size = size) (hsz : 0 < size)
    (v : Value) (n : Nat) (xs : List Value) (hown : W.ownsRow base e size v n xs)
    (a : Addr) (m c : Nat) (news : List Value) (hm : 0 < m) (hl : news.length = m * size) (hnews : ∀ j u, news[j]? = some u → W.cell? (a.add j) = some u) (h1 : ∀ u ∈ news, u.oneCell' = true)
    (h63 : n + m ≤ maxLen) (hbytes : (n + m) * bytes ≤ 140737488355328) (hbase : base ≤ W.heap.size) :
    ∃ v' W', (Builtin.append_ #[t, t] ty #[v, .slice (some a) m c]).run Tryz.prog W = .ok v' W' ∧ W'.ownsRow base e size v' (n + m) (xs ++ news) ∧
      (∀ b c t', Row W b c t' → some b ≠ v.ownBlock → Row W' b c t') ∧ (∀ w, Ext w W → w.heap.size ≤ base → Ext w W') ∧ (∀ b, b < W.heap.size → some b ≠ v.ownBlock → some b ≠ v'.ownBlock) := by
  subst hsize
  subst hby
  have hsmall : n + m ≤ 9223372036854775807 := by simp only [maxLen] at h63; omega
  obtain ⟨v', W', hr, h2, h3, h4⟩ := run_append_own (P := Tryz.prog) W base t ty e i z i.size i.bytes ht hi hz rfl rfl hzs hsz v n xs hown a m c news hl hnews h1 h63 hbytes hbase
  refine ⟨v', W', hr, h2, fun b c' t' hb hne => (h3.block b hb.lt hne).trans hb, ?_⟩
  rcases hown.2 with ⟨rfl, rfl⟩ | ⟨g, cap, cur, rfl, hbg, hg, hnc, hcm, hcs, htake⟩
  · have hr2 := run_append_nil (P := Tryz.prog) W t ty e i z ht hi hz a m c news hl hnews hm (by omega) (by rw [Nat.zero_add] at hbytes; omega)
    rw [hr2] at hr
    cases hr
    refine ⟨fun w hx hb => hx.trans ((Ext.refl W).drew.alloc _ _), fun b hb _ => ?_⟩
    simp [Value.ownBlock]; omega
  · by_cases hroom : n + m ≤ cap
    · have hfit : n * i.size + news.length ≤ cur.size := by rw [hl, hcs, ← Nat.add_mul]; exact Nat.mul_le_mul_right _ hroom
      have hr2 := run_append_room (P := Tryz.prog) W t ty e i ht hi g n cap cur hg a m c news hl hnews h1 hroom hfit
      rw [hr2] at hr
      cases hr
      exact ⟨fun w hx hb => hx.setRow hg (by omega), fun b hb hne => hne⟩
    · have holds : ∀ j u, xs[j]? = some u → W.cell? ((⟨g, 0, none⟩ : Addr).add j) = some u := hown.cells (g := g) rfl
      have hr2 := run_append_grow (P := Tryz.prog) W t ty e i z ht hi hz ⟨g, 0, none⟩ n cap xs hown.1 holds a m c news hl hnews (by omega) (by omega) (growslice_fits (by omega) hbytes)
      rw [hr2] at hr
      cases hr
      refine ⟨fun w hx hb => hx.trans ((Ext.refl W).drew.alloc _ _), fun b hb _ => ?_⟩
      simp [Value.ownBlock]; omega

/-- The variable in block bo holds r; v is a slice of whole numbers of one's own that reads as l; the rows F lie beside. -/
structure Acc (w W : World) (bo : Nat) (r v : Value) (l : List Int) (F : List (Nat × Array Value × TypeId)) : Prop where
  x : Ext w W
  le : w.heap.size ≤ bo
  row : Row W bo #[r] 64
  own : W.ownsRow w.heap.size 2 1 v l.length (l.map (.int .i64))
  ne : some bo ≠ v.ownBlock
  fr : ∀ f ∈ F, Row W f.1 f.2.1 f.2.2 ∧ some f.1 ≠ v.ownBlock ∧ f.1 ≠ bo
section
variable {w W W' : World} {bo : Nat} {r v : Value} {l : List Int} {F : List (Nat × Array Value × TypeId)}
theorem Acc.start (x : Ext w W) : Acc w (W.alloc (.cells #[.slice none 0 0] 64)) W.heap.size (.slice none 0 0) (.slice none 0 0) [] [] :=
  ⟨x.alloc _ _, x.size, Row.new _ _ _, World.ownsRow_nil _ _ _ _, by simp [Value.ownBlock], by simp⟩
theorem owns_ext {base n : Nat} {xs : List Value} (h : W.ownsRow base 2 1 v n xs) (hx : Ext W W') : W'.ownsRow base 2 1 v n xs := by
  refine ⟨h.1, ?_⟩
  rcases h.2 with h4 | ⟨g, cap, cur, rfl, hbg, hg, hr⟩
  · exact Or.inl h4
  · exact Or.inr ⟨g, cap, cur, rfl, hbg, (hx.block g (Row.lt (c := cur) (t := 2) hg)).trans hg, hr⟩
theorem Acc.ext (h : Acc w W bo r v l F) (hx : Ext W W') : Acc w W' bo r v l F :=
  ⟨h.x.trans hx, h.le, h.row.ext hx, owns_ext h.own hx, h.ne, fun f hf => ⟨(h.fr f hf).1.ext hx, (h.fr f hf).2⟩⟩
theorem owns_lt {base n : Nat} {xs : List Value} (h : W.ownsRow base 2 1 v n xs) {k : Nat} (hk : v.ownBlock = some k) : k < W.heap.size := (h.lt k hk).2
theorem Acc.push (h : Acc w W bo r v l F) (c : Array Value) (t : TypeId) : Acc w (W.alloc (.cells c t)) bo r v l ((W.heap.size, c, t) :: F) := by
  have h2 := h.ext ((Ext.refl W).alloc c t)
  refine ⟨h2.x, h2.le, h2.row, h2.own, h2.ne, fun f hf => ?_⟩
  rcases List.mem_cons.1 hf with rfl | hf
  · refine ⟨Row.new _ _ _, fun e => ?_, fun e => ?_⟩
    · have := owns_lt h.own e.symm
      omega
    · have := h.row.lt
      simp at e; omega
  · exact h2.fr f hf
theorem Acc.pop {f : Nat × Array Value × TypeId} (h : Acc w W bo r v l (f :: F)) : Acc w W bo r v l F := ⟨h.x, h.le, h.row, h.own, h.ne, fun g hg => h.fr g (List.mem_cons_of_mem _ hg)⟩
theorem Acc.cell (h : Acc w W bo r v l F) : W.cell? ⟨bo, 0, none⟩ = some r := by rw [h.row.cell 0]; rfl
theorem Acc.frozen (h : Acc w W bo r v l F) : W.frozen? ⟨bo, 0, none⟩ = false := h.row.frozen 0
theorem Acc.at (h : Acc w W bo r v l F) (i : Nat) {b : Nat} {c : Array Value} {t : TypeId} (hf : F[i]? = some (b, c, t)) (o : Nat) : W.cell? ⟨b, o, none⟩ = c[o]? :=
  (h.fr _ (List.mem_of_getElem? hf)).1.cell o
theorem Acc.shape (h : Acc w W bo r v l F) : ∃ p cap, v = .slice p l.length cap := by
  rcases h.own.2 with ⟨rfl, h0⟩ | ⟨g, cap, cur, rfl, _⟩
  · exact ⟨none, 0, by rw [h0]⟩
  · exact ⟨_, _, rfl⟩
/-- The variable gets the slice. -/
theorem Acc.store (h : Acc w W bo r v l F) : Acc w (W.setCell ⟨bo, 0, none⟩ v) bo v v l F := by
  refine ⟨h.x.setCell (p := ⟨bo, 0, none⟩) h.le v, h.le, by simpa using h.row.set 0 v, ?_, h.ne, fun f hf => ⟨(h.fr f hf).1.set_other (h.fr f hf).2.2 0 v, (h.fr f hf).2⟩⟩
  refine ⟨h.own.1, ?_⟩
  rcases h.own.2 with h4 | ⟨g, cap, cur, rfl, hbg, hg, hr⟩
  · exact Or.inl h4
  · have hne : g ≠ bo := fun e => h.ne (by simp [Value.ownBlock, e])
    exact Or.inr ⟨g, cap, cur, rfl, hbg, Row.set_other (c := cur) (t := 2) hg hne 0 _, hr⟩
theorem Acc.append (h : Acc w W bo r v l F) {b c : Nat} {y : Int} (hb : W.cell? ⟨b, 0, none⟩ = some (.int .i64 y)) (hl : l.length < 1000000) :
    ∃ v' W', (Builtin.append_ #[64, 64] 64 #[v, .slice (some ⟨b, 0, none⟩) 1 c]).run Tryz.prog W = .ok v' W' ∧ Acc w W' bo r v' (l ++ [y]) F := by
  obtain ⟨i, hi⟩ : ∃ i, Tryz.prog.info? 2 = some i := Option.isSome_iff_exists.1 (by kernel_rfl)
  have hz : (Tryz.prog.info? 2).bind (·.zero) = some (.int .i64 0) := by kernel_rfl
  have hs : (Tryz.prog.info? 2).map (·.size) = some 1 := by kernel_rfl
  have hy : (Tryz.prog.info? 2).map (·.bytes) = some 8 := by kernel_rfl
  rw [hi] at hz hs hy
  have := append_ext (W := W) w.heap.size 64 64 2 i (.int .i64 0) 1 8 (by kernel_rfl) hi (by simpa using hz) (by simpa using hs) (by simpa using hy) rfl (by omega) v l.length _ h.own ⟨b, 0, none⟩ 1 c [.int .i64 y] (by omega) rfl
    (fun j u hu => by
      match j, hu with
      | 0, hu => simp at hu; subst hu; simpa [Addr.add_lit] using hb
      | j + 1, hu => simp at hu)
    (by simp [Value.oneCell']) (by simp only [maxLen]; omega) (by omega) h.x.size
  obtain ⟨v', W', h1, h2, h3, h4, h5⟩ := this
  refine ⟨v', W', h1, h4 w h.x (Nat.le_refl _), h.le, h3 _ _ _ h.row h.ne, by simpa using h2, h5 _ h.row.lt h.ne, fun f hf => ?_⟩
  obtain ⟨f1, f2, f3⟩ := h.fr f hf
  exact ⟨h3 _ _ _ f1 f2, h5 _ f1.lt f2, f3⟩
end
theorem wpList_acc {w W : World} {bo : Nat} {r v : Value} {l : List Int} {F : List (Nat × Array Value × TypeId)} {ops : Array Oper} {rest : List Oper} {op : Oper} {a : Act} {Q : Exit → Act → World → Prop}
    (h : Acc w W bo r v l F) {s x : Operand} {b c : Nat} {y : Int} (ho : op.op = .call { callee := .builtin .append, args := #[s, x], argTypes := #[64, 64] }) (hg : op.guard = none) (ht : op.type = 64)
    (hs : a.eval s = v) (hx : a.eval x = .slice (some ⟨b, 0, none⟩) 1 c) (hb : W.cell? ⟨b, 0, none⟩ = some (.int .i64 y)) (hl : l.length < 1000000)
    (k : ∀ l' p cap W', Hid (l' = l ++ [y]) → Acc w W' bo r (.slice p l'.length cap) l' F → wpList Tryz.prog ops Q rest (a.put op.dst (.slice p l'.length cap)) W') : wpList Tryz.prog ops Q (op :: rest) a W := by
  obtain ⟨v', W', hr, h2⟩ := h.append (c := c) hb hl
  refine wpList_plain hg fun K hK => ?_
  unfold Oper.wp execOp
  simp only [ho, ht, resolve, invoke, builtin, Sem.run_bind, Sem.run_pure, Result.andThen_ok, List.map_toArray, List.map_cons, List.map_nil, hs, hx, hr]
  obtain ⟨p, cap, rfl⟩ := h2.shape
  exact hK _ _ (k _ p cap W' (Lib.hid rfl) h2)
end Go.Proofs.YtnpbnpilhmbpoaaGreat
