/- The reference's comparison of matrices and tracks. -/
import Derived.Test.YtnpbnpilhmbpoaaGreatU3
set_option linter.unusedVariables false
namespace Go.Proofs.YtnpbnpilhmbpoaaGreat
open Go.RowKit

/-- Where a slice's numbers stand: nowhere, if there are none. -/
def SlP (W : World) (p : Option Addr) (l : List Int) : Prop :=
  l = [] ∨ ∃ b o, p = some ⟨b, o, none⟩ ∧ b < W.heap.size ∧ ∀ j (hj : j < l.length), W.cell? ⟨b, o + j, none⟩ = some (.int .i64 l[j])
theorem Sl.parts {W : World} {s : Value} {l : List Int} (h : Sl W s l) : ∃ p cap, s = .slice p l.length cap ∧ SlP W p l := by
  rcases h with ⟨rfl, rfl⟩ | ⟨b, o, cap, rfl, h1, h2⟩
  · exact ⟨none, 0, rfl, Or.inl rfl⟩
  · exact ⟨_, cap, rfl, Or.inr ⟨b, o, rfl, h1, h2⟩⟩

set_option maxHeartbeats 2000000 in
theorem msame_gen (r c r' c' : Int) (p p' : Option Addr) (cap cap' : Nat) (l l' : List Int) (w : World) (h : Hid (SlP w p l)) (h' : Hid (SlP w p' l')) (hlen : Hid (l.length ≤ 9223372036854775807)) :
    Calls Tryz.prog 178 #[.agg #[.int .i64 r, .int .i64 c, .slice p l.length cap], .agg #[.int .i64 r', .int .i64 c', .slice p' l'.length cap']] w (SaysB w fun x => x = decide (r = r' ∧ c = c' ∧ l = l')) := by
  by_cases e1 : r = r'
  rotate_left
  · have e1' : (r != r') = true := by simpa using e1
    go_enter Tryz.func178, Tryz.ntmps178
    go_wp2
    go_ret
    exact SaysB.mk (by simp [e1]) (((Ext.refl w).alloc _ _).alloc _ _)
  by_cases e2 : c = c'
  rotate_left
  · have e2' : (c != c') = true := by simpa using e2
    subst e1
    go_enter Tryz.func178, Tryz.ntmps178
    go_wp2
    go_ret
    exact SaysB.mk (by simp [e2]) (((Ext.refl w).alloc _ _).alloc _ _)
  subst e1 e2
  by_cases e3 : l.length = l'.length
  rotate_left
  · have e3' : ((l.length : Int) != (l'.length : Int)) = true := by simp; omega
    go_enter Tryz.func178, Tryz.ntmps178
    go_wp2
    go_ret
    exact SaysB.mk (by simp; intro h; exact e3 (by rw [h])) (((Ext.refl w).alloc _ _).alloc _ _)
  obtain ⟨n, hn⟩ : ∃ n, n = l.length := ⟨_, rfl⟩
  rw [← e3, ← hn]
  have hn' : Hid (n = l'.length) := Lib.hid (by omega)
  replace hn := Lib.hid hn
  clear e3
  go_enter Tryz.func178, Tryz.ntmps178
  go_wp2
  have st := ((Own.start w).push #[.int .i64 r, .int .i64 c, .slice p n cap] 36 _ rfl).push #[.int .i64 r, .int .i64 c, .slice p' n cap'] 36 (w.heap.size + 1) (by simp)
  replace st : Own w _ [w.heap.size, w.heap.size + 1] [(#[.int .i64 r, .int .i64 c, .slice p n cap], 36), (#[.int .i64 r, .int .i64 c, .slice p' n cap'], 36)] := st
  replace st := Lib.hid st
  go_loopw [5] (fun iv wr => ∃ k : Nat, k ≤ n ∧ iv = .int .i64 k ∧ Hid (Own w wr [w.heap.size, w.heap.size + 1] [(#[.int .i64 r, .int .i64 c, .slice p n cap], 36), (#[.int .i64 r, .int .i64 c, .slice p' n cap'], 36)]) ∧ Hid (∀ j, j < k → l[j]? = l'[j]?)) (fun iv _ => n - (intOf iv).toNat)
  case atStart => exact ⟨0, by omega, rfl, st, Lib.hid fun j hj => absurd hj (by omega)⟩
  case round =>
    clear st
    obtain ⟨k, hk, rfl, st, eq⟩ := hrel
    have km := st.out.cell 0 rfl rfl
    have km' := st.out.cell 1 rfl rfl
    by_cases hkn : k = n
    · subst hkn
      go_wp2
      go_ret
      refine SaysB.mk ?_ st.out.x
      have : l = l' := List.ext_getElem? fun j => by
        by_cases hj : j < k
        · exact eq.out j hj
        · rw [List.getElem?_eq_none (by have := hn.out; omega), List.getElem?_eq_none (by have := hn'.out; omega)]
      simp [this]
    · have hk2 : (k : Int) < n := by omega
      have wk : wrap64 ((k : Int) + 1) = ((k + 1 : Nat) : Int) := by have := hlen.out; have := hn.out; unfold wrap64; omega
      replace wk := Lib.hid wk
      rcases h.out with hz | ⟨b, o, rfl, hb, hl⟩
      · have := hn.out; subst hz; simp at this; omega
      rcases h'.out with hz | ⟨b', o', rfl, hb', hl'⟩
      · have := hn'.out; subst hz; simp at this; omega
      have kc : wr.cell? ⟨b, o + k, none⟩ = some (.int .i64 (l[k]'(by have := hn.out; omega))) := by rw [st.out.x.cell b (o + k) hb]; exact hl k _
      have kc' : wr.cell? ⟨b', o' + k, none⟩ = some (.int .i64 (l'[k]'(by have := hn'.out; omega))) := by rw [st.out.x.cell b' (o' + k) hb']; exact hl' k _
      obtain ⟨v, hv⟩ : ∃ v, v = l[k]'(by have := hn.out; omega) := ⟨_, rfl⟩
      obtain ⟨v', hv'⟩ : ∃ v, v = l'[k]'(by have := hn'.out; omega) := ⟨_, rfl⟩
      rw [← hv] at kc
      rw [← hv'] at kc'
      have g1 : Hid (l[k]? = some v) := Lib.hid (by rw [hv]; exact List.getElem?_eq_getElem _)
      have g2 : Hid (l'[k]? = some v') := Lib.hid (by rw [hv']; exact List.getElem?_eq_getElem _)
      clear hv hv' hl hl' h h' hb hb'
      cases hvv : (v != v')
      · go_wp2
        go_quiet (fail)
        go_wp2
        rw [wk.out]
        refine ⟨⟨k + 1, by omega, rfl, Lib.hid (st.out.ext ((Ext.refl wr).drewN _)), Lib.hid fun j hj => ?_⟩, by simp only [intOf]; omega⟩
        by_cases hjk : j = k
        · subst hjk
          rw [g1.out, g2.out, show v = v' by simpa using hvv]
        · exact eq.out j (by omega)
      · go_wp2
        go_quiet (fail)
        go_wp2
        go_ret
        refine SaysB.mk ?_ (st.out.x.drewN _)
        have : ¬ l = l' := fun e => by
          have := g1.out
          rw [e, g2.out] at this
          have : v' = v := by simpa using this
          simp [this] at hvv
        simp [this]
end Go.Proofs.YtnpbnpilhmbpoaaGreat
