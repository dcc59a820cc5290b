/- Rows of numbers compared: slices.Equal. -/
import Derived.Test.YtnpbnpilhmbpoaaGreatU4
set_option linter.unusedVariables false
namespace Go.Proofs.YtnpbnpilhmbpoaaGreat
open Go.RowKit

set_option maxRecDepth 10000 in
set_option maxHeartbeats 2000000 in
theorem sleq_calls (p p' : Option Addr) (cap cap' : Nat) (l l' : List Int) (w : World) (h : Hid (SlP w p l)) (h' : Hid (SlP w p' l')) (hlen : Hid (l.length ≤ 9223372036854775807)) :
    Calls Tryz.prog 147 #[.slice p l.length cap, .slice p' l'.length cap'] w (SaysB w fun x => x = decide (l = l')) := by
  by_cases e3 : l.length = l'.length
  rotate_left
  · have e3' : ((l.length : Int) != (l'.length : Int)) = true := by simp; omega
    go_enter Tryz.func147, Tryz.ntmps147
    go_wp2
    go_ret
    exact SaysB.mk (by simp; intro h; exact e3 (by rw [h])) (Ext.refl w)
  obtain ⟨n, hn⟩ : ∃ n, n = l.length := ⟨_, rfl⟩
  rw [← e3, ← hn]
  have hn' : Hid (n = l'.length) := Lib.hid (by omega)
  replace hn := Lib.hid hn
  clear e3
  go_enter Tryz.func147, Tryz.ntmps147
  go_wp2
  go_loopw [5, 13] (fun jv iv wr => ∃ k : Nat, k ≤ n ∧ iv = .int .i64 k ∧ Hid (Ext w wr) ∧ Hid (∀ j, j < k → l[j]? = l'[j]?)) (fun jv iv _ => n - (intOf iv).toNat)
  case atStart => exact ⟨0, by omega, rfl, Lib.hid (Ext.refl w), Lib.hid fun j hj => absurd hj (by omega)⟩
  case round =>
    obtain ⟨k, hk, rfl, st, eq⟩ := hrel
    by_cases hkn : k = n
    · subst hkn
      go_wp2
      go_ret
      refine SaysB.mk ?_ st.out
      have : l = l' := List.ext_getElem? fun j => by
        by_cases hj : j < k
        · exact eq.out j hj
        · rw [List.getElem?_eq_none (by have := hn.out; omega), List.getElem?_eq_none (by have := hn'.out; omega)]
      simp [this]
    · have hk2 : (k : Int) < n := by omega
      have wk : wrap64 ((k : Int) + 1) = ((k + 1 : Nat) : Int) := by have := hlen.out; have := hn.out; unfold wrap64; omega
      replace wk := Lib.hid wk
      rcases h.out with hz | ⟨b, o, rfl, hb, hl⟩
      · have := hn.out; subst hz; simp at this; omega
      rcases h'.out with hz | ⟨b', o', rfl, hb', hl'⟩
      · have := hn'.out; subst hz; simp at this; omega
      have kc : wr.cell? ⟨b, o + k, none⟩ = some (.int .i64 (l[k]'(by have := hn.out; omega))) := by rw [st.out.cell b (o + k) hb]; exact hl k _
      have kc' : wr.cell? ⟨b', o' + k, none⟩ = some (.int .i64 (l'[k]'(by have := hn'.out; omega))) := by rw [st.out.cell b' (o' + k) hb']; exact hl' k _
      obtain ⟨v, hv⟩ : ∃ v, v = l[k]'(by have := hn.out; omega) := ⟨_, rfl⟩
      obtain ⟨v', hv'⟩ : ∃ v, v = l'[k]'(by have := hn'.out; omega) := ⟨_, rfl⟩
      rw [← hv] at kc
      rw [← hv'] at kc'
      have g1 : Hid (l[k]? = some v) := Lib.hid (by rw [hv]; exact List.getElem?_eq_getElem _)
      have g2 : Hid (l'[k]? = some v') := Lib.hid (by rw [hv']; exact List.getElem?_eq_getElem _)
      clear hv hv' hl hl' h h' hb hb'
      cases hvv : (v != v')
      · go_wp2
        go_quiet (fail)
        go_wp2
        rw [wk.out]
        refine ⟨⟨k + 1, by omega, rfl, Lib.hid (st.out.drewN _), Lib.hid fun j hj => ?_⟩, by simp only [intOf]; omega⟩
        by_cases hjk : j = k
        · subst hjk
          rw [g1.out, g2.out, show v = v' by simpa using hvv]
        · exact eq.out j (by omega)
      · go_wp2
        go_quiet (fail)
        go_wp2
        go_ret
        refine SaysB.mk ?_ (st.out.drewN _)
        have : ¬ l = l' := fun e => by
          have := g1.out
          rw [e, g2.out] at this
          have : v' = v := by simpa using this
          simp [this] at hvv
        simp [this]
end Go.Proofs.YtnpbnpilhmbpoaaGreat
