/- The closed run, second part: cutting, making, appending, copying, comparing. -/
import Derived.Test.YtnpbnpilhmbpoaaGreatRA
import Derived.Deep.AppendSrc
import Derived.Deep.Upon
import Derived.Laws.AppendOwn
import Derived.MapKept
import Derived.DeepKeys
import Derived.Lib.AppendZerosOnto
set_option linter.unusedVariables false

/- The closed run: slices cut and made, maps, and what is built in. -/
namespace Go.Proofs.YtnpbnpilhmbpoaaGreat
open Go.RowKit

section
variable {P : Program} {w0 : World} {ι : Re}

/-! Cutting. -/
/-- A bound of a slice: none, or a number of at least 0. -/
def bndOf : Option Value → Option (Option Nat)
  | none => some none
  | some v => match natOf v with
    | some n => some (some n)
    | none => none
/-- low, high, max, where n is the length and c the room, all within. -/
def bounds (n c : Nat) (lo hi mx : Option Nat) : Option (Nat × Nat × Nat) := match mx with
  | some m => match hi with
    | some h => cond (Nat.ble m c) (cond (Nat.ble h m) (cond (Nat.ble (lo.getD 0) h) (some (lo.getD 0, h, m)) none) none) none
    | none => none
  | none => cond (Nat.ble (hi.getD n) c) (cond (Nat.ble (lo.getD 0) (hi.getD n)) (some (lo.getD 0, hi.getD n, c)) none) none
inductive BRel : Option (Option Nat) → Option Value → Prop
  | none : BRel (some none) none
  | some (k : IntKind) (n : Nat) : BRel (some (some n)) (some (.int k (n : Int)))
theorem bnd_rel {o o' : Option Value} (h : match o, o' with | some v, some v' => VR ι v v' | none, none => True | _, _ => False) {b : Option Nat} (hb : bndOf o = some b) : BRel (some b) o' := by
  cases o with
  | none => cases o' with
    | none => simp [bndOf] at hb; subst hb; exact .none
    | some v => exact h.elim
  | some v => cases o' with
    | none => exact h.elim
    | some v' =>
      simp only [bndOf] at hb
      cases hn : natOf v with
      | none => simp [hn] at hb
      | some n =>
        simp only [hn, Option.some.injEq] at hb
        subst hb
        obtain ⟨k, rfl⟩ := int_rel h hn
        exact .some k n
theorem run_bound (k : IntKind) {i y : Nat} (h : i ≤ y) (code : BoundsCode) (w : World) : (Instr.sliceBound (.int k (i : Int)) y code).run P w = .ok i w := by
  simp [Instr.sliceBound, asIntOf, h]
theorem run_bounds {isS : Bool} {n c : Nat} {lo hi mx : Option Nat} {lo' hi' mx' : Option Value} (h1 : BRel (some lo) lo') (h2 : BRel (some hi) hi') (h3 : BRel (some mx) mx') {r : Nat × Nat × Nat} (hn : n ≤ c) (h : bounds n c lo hi mx = some r) (w : World) :
    (Instr.sliceBounds isS n c lo' hi' mx').run P w = .ok r w := by
  unfold bounds at h
  cases h3 with
  | none =>
    simp only at h
    cases ha : Nat.ble (hi.getD n) c
    · simp [ha] at h
    · cases hb : Nat.ble (lo.getD 0) (hi.getD n)
      · simp [ha, hb] at h
      · simp only [ha, hb, cond_true, Option.some.injEq] at h
        subst h
        have ha := Nat.le_of_ble_eq_true ha
        have hb := Nat.le_of_ble_eq_true hb
        cases h2 <;> cases h1 <;> simp only [Option.getD_some, Option.getD_none] at ha hb ⊢ <;> simp [Instr.sliceBounds, Sem.run_bind, run_bound, ha, hb]
  | some k m =>
    simp only at h
    cases h2 with
    | none => simp at h
    | some k2 hh =>
      simp only at h
      cases ha : Nat.ble m c
      · simp [ha] at h
      · cases hb : Nat.ble hh m
        · simp [ha, hb] at h
        · cases hc : Nat.ble (lo.getD 0) hh
          · simp [ha, hb, hc] at h
          · simp only [ha, hb, hc, cond_true, Option.some.injEq] at h
            subst h
            have ha := Nat.le_of_ble_eq_true ha
            have hb := Nat.le_of_ble_eq_true hb
            have hc := Nat.le_of_ble_eq_true hc
            cases h1 <;> simp only [Option.getD_some, Option.getD_none] at hc ⊢ <;> simp [Instr.sliceBounds, Sem.run_bind, run_bound, ha, hb, hc]
def cutOff (o l m size : Nat) : Nat := cond (Nat.beq m l) o (o + l * size)
def aSlice (P : Program) (t : TypeId) (x : Value) (lo hi mx : Option Value) : Option Value := match bndOf lo, bndOf hi, bndOf mx with
  | some lo, some hi, some mx => match P.underlying t with
    | some (.array n e) => match x with
      | .pointer (some ⟨b, o, none⟩) => match P.info? e with
        | some ie => cond (Nat.blt n bigCap) (match bounds n n lo hi mx with
          | some (l, h, m) => some (.slice (some ⟨b, cutOff o l m ie.size, none⟩) (h - l) (m - l))
          | none => none) none
        | none => none
      | _ => none
    | some (.slice e) => match P.info? e with
      | some ie => match x with
        | .slice none n c => cond (Nat.ble n c) (match bounds n c lo hi mx with
          | some (l, h, m) => some (.slice none (h - l) (m - l))
          | none => none) none
        | .slice (some ⟨b, o, none⟩) n c => cond (Nat.blt c bigCap)
          (cond (Nat.ble n c) (match bounds n c lo hi mx with
            | some (l, h, m) => some (.slice (some ⟨b, cutOff o l m ie.size, none⟩) (h - l) (m - l))
            | none => none) none)
          (match bounds n n lo hi mx with
            | some (l, h, m) => match mx with
              | some m => cond (Nat.blt n bigCap) (some (.slice (some ⟨b, cutOff o l m ie.size, none⟩) (h - l) (m - l))) none
              | none => cond (Nat.beq l 0) (some (.slice (some ⟨b, o, none⟩) h bigCap)) (cond (Nat.blt l n) (cond (Nat.beq ie.size 0) none (some (.slice (some ⟨b, o + l * ie.size, none⟩) (h - l) bigCap))) none)
            | none => none)
        | _ => none
      | none => none
    | _ => none
  | _, _, _ => none
theorem bounds_le {n c : Nat} {lo hi mx : Option Nat} {l h m : Nat} (hb : bounds n c lo hi mx = some (l, h, m)) : l ≤ h ∧ h ≤ m ∧ m ≤ c := by
  unfold bounds at hb
  cases mx with
  | none =>
    simp only at hb
    cases ha : Nat.ble (hi.getD n) c
    · simp [ha] at hb
    · cases hc : Nat.ble (lo.getD 0) (hi.getD n)
      · simp [ha, hc] at hb
      · simp only [ha, hc, cond_true, Option.some.injEq, Prod.mk.injEq] at hb
        have := Nat.le_of_ble_eq_true ha
        have := Nat.le_of_ble_eq_true hc
        omega
  | some m' =>
    cases hi with
    | none => simp at hb
    | some h' =>
      simp only at hb
      cases ha : Nat.ble m' c
      · simp [ha] at hb
      · cases hd : Nat.ble h' m'
        · simp [ha, hd] at hb
        · cases hc : Nat.ble (lo.getD 0) h'
          · simp [ha, hd, hc] at hb
          · simp only [ha, hd, hc, cond_true, Option.some.injEq, Prod.mk.injEq] at hb
            have := Nat.le_of_ble_eq_true ha
            have := Nat.le_of_ble_eq_true hd
            have := Nat.le_of_ble_eq_true hc
            omega
def roomOf (mx : Option Nat) (m c : Nat) : Nat := match mx with
  | some _ => m
  | none => c
theorem bounds_wider {n c : Nat} {lo hi mx : Option Nat} {l h m : Nat} (hnc : n ≤ c) (hb : bounds n n lo hi mx = some (l, h, m)) : bounds n c lo hi mx = some (l, h, roomOf mx m c) := by
  unfold bounds at hb ⊢
  unfold roomOf
  cases mx with
  | none =>
    simp only at hb ⊢
    cases ha : Nat.ble (hi.getD n) n
    · simp [ha] at hb
    · cases hc : Nat.ble (lo.getD 0) (hi.getD n)
      · simp [ha, hc] at hb
      · simp only [ha, hc, cond_true, Option.some.injEq, Prod.mk.injEq] at hb
        rw [Nat.ble_eq_true_of_le (Nat.le_trans (Nat.le_of_ble_eq_true ha) hnc)]
        simp [hb.1, hb.2.1]
  | some m' =>
    cases hi with
    | none => simp at hb
    | some h' =>
      simp only at hb ⊢
      cases ha : Nat.ble m' n
      · simp [ha] at hb
      · rw [Nat.ble_eq_true_of_le (Nat.le_trans (Nat.le_of_ble_eq_true ha) hnc)]
        simpa [ha] using hb
def ORel (ι : Re) (o o' : Option Value) : Prop := match o, o' with
  | some v, some v' => VR ι v v'
  | none, none => True
  | _, _ => False
theorem run_sliceAt_slice {t e : TypeId} (hu : P.underlying t = some (.slice e)) {ie : TypeInfo} (hie : P.info? e = some ie) {a : Option Addr} {n c : Nat} {lo hi mx : Option Value} {l h m : Nat} {w : World}
    (hb : (Instr.sliceBounds true n c lo hi mx).run P w = .ok (l, h, m) w) :
    (Instr.sliceAt t (.slice a n c) lo hi mx).run P w = .ok (.slice (if m = l then a else a.map (·.add (l * ie.size))) (h - l) (m - l)) w := by
  have hs : (sizeOf e).run P w = .ok ie.size w := by simp [sizeOf, typeInfo, Sem.run_bind, hie]
  simp [Instr.sliceAt, Instr.slice, Sem.run_bind, run_underlying hu, hb, hs]
theorem addr_cut (b o l m size : Nat) : (if m = l then some (⟨b, o, none⟩ : Addr) else (some (⟨b, o, none⟩ : Addr)).map (·.add (l * size))) = some ⟨b, cutOff o l m size, none⟩ := by
  unfold cutOff
  rw [cond_beq]
  split
  · rfl
  · simp [Addr.add_lit]
theorem aSlice_ok (t : TypeId) {x x' : Value} {lo hi mx lo' hi' mx' : Option Value} (hx : VR ι x x') (h1 : ORel ι lo lo') (h2 : ORel ι hi hi') (h3 : ORel ι mx mx') : VOK P w0 ι (Instr.sliceAt t x' lo' hi' mx') (lift (aSlice P t x lo hi mx)) := VOK.lift fun v hv => by
  unfold aSlice at hv
  cases hlo : bndOf lo with
  | none => simp [hlo] at hv
  | some lo1 =>
  cases hhi : bndOf hi with
  | none => simp [hlo, hhi] at hv
  | some hi1 =>
  cases hmx : bndOf mx with
  | none => simp [hlo, hhi, hmx] at hv
  | some mx1 =>
  have g1 := bnd_rel (ι := ι) h1 hlo
  have g2 := bnd_rel (ι := ι) h2 hhi
  have g3 := bnd_rel (ι := ι) h3 hmx
  simp only [hlo, hhi, hmx] at hv
  cases hu : P.underlying t with
  | none => simp [hu] at hv
  | some d =>
    cases d <;> simp only [hu] at hv <;> try (cases hv; done)
    case array n e =>
      cases hx with
      | ptr hb =>
        rename_i b b' g o
        simp only at hv
        cases hin : P.info? e with
        | none => simp [hin] at hv
        | some ie =>
          simp only [hin, cond_blt] at hv
          split at hv
          · rename_i hbig
            cases hbd : bounds n n lo1 hi1 mx1 with
            | none => simp [hbd] at hv
            | some r =>
              obtain ⟨l, h, m⟩ := r
              simp only [hbd, Option.some.injEq] at hv
              subst hv
              have hle := bounds_le hbd
              refine ⟨.slice (some ⟨b', cutOff o l m ie.size, none⟩) (h - l) (m - l), fun w => ?_, .slice hb (Or.inl ⟨rfl, by omega⟩)⟩
              have hs : (sizeOf e).run P w = .ok ie.size w := by simp [sizeOf, typeInfo, Sem.run_bind, hin]
              have hbn := run_bounds (P := P) (isS := false) g1 g2 g3 (Nat.le_refl n) hbd w
              simp only [Instr.sliceAt, Sem.run_bind, run_underlying hu, Result.andThen_ok, Instr.sureAddr, Sem.run_pure, hbn, hs]
              have := addr_cut b' o l m ie.size
              simp only [Option.map_some] at this
              rw [show (some (if m = l then (⟨b', o, none⟩ : Addr) else Addr.add ⟨b', o, none⟩ (l * ie.size))) = some ⟨b', cutOff o l m ie.size, none⟩ from by rw [← this]; split <;> rfl]
          · cases hv
      | plain h => split at hv <;> first | (cases hv; done) | (simp [plainV] at h)
      | _ => simp at hv
    case slice e =>
      cases hin : P.info? e with
      | none => simp [hin] at hv
      | some ie =>
        simp only [hin] at hv
        cases hx with
        | slice hb hc =>
          rename_i b b' g o n c c'
          simp only [cond_blt] at hv
          split at hv
          · rename_i hbig
            have hcc : c' = c := by rcases hc with hc | hc; exact hc.1; omega
            subst hcc
            cases hnc : Nat.ble n c'
            · simp [hnc] at hv
            · simp only [hnc, cond_true] at hv
              cases hbd : bounds n c' lo1 hi1 mx1 with
              | none => simp [hbd] at hv
              | some r =>
                obtain ⟨l, h, m⟩ := r
                simp only [hbd, Option.some.injEq] at hv
                subst hv
                have hle := bounds_le hbd
                refine ⟨.slice (some ⟨b', cutOff o l m ie.size, none⟩) (h - l) (m - l), fun w => ?_, .slice hb (Or.inl ⟨rfl, by omega⟩)⟩
                rw [run_sliceAt_slice hu hin (run_bounds (P := P) (isS := true) g1 g2 g3 (Nat.le_of_ble_eq_true hnc) hbd w), addr_cut]
          · rename_i hbig
            have hcc : bigCap ≤ c ∧ n ≤ c' ∧ (o = 0 → c' = g) := by rcases hc with hc | hc; omega; exact hc
            cases hbd : bounds n n lo1 hi1 mx1 with
            | none => simp [hbd] at hv
            | some r =>
              obtain ⟨l, h, m⟩ := r
              have hle := bounds_le hbd
              have hw := bounds_wider hcc.2.1 hbd
              unfold roomOf at hw
              simp only [hbd] at hv
              cases mx1 with
              | some m1 =>
                simp only [cond_blt] at hv
                split at hv
                · rename_i hnb
                  simp only [Option.some.injEq] at hv
                  subst hv
                  have hm1 : m = m1 := by
                    unfold bounds at hbd
                    cases hi1 with
                    | none => simp at hbd
                    | some h' =>
                      simp only at hbd
                      cases ha : Nat.ble m1 n
                      · simp [ha] at hbd
                      · cases hd : Nat.ble h' m1
                        · simp [ha, hd] at hbd
                        · cases hc2 : Nat.ble (lo1.getD 0) h'
                          · simp [ha, hd, hc2] at hbd
                          · simp only [ha, hd, hc2, cond_true, Option.some.injEq, Prod.mk.injEq] at hbd
                            exact hbd.2.2.symm
                  subst hm1
                  refine ⟨.slice (some ⟨b', cutOff o l m ie.size, none⟩) (h - l) (m - l), fun w => ?_, .slice hb (Or.inl ⟨rfl, by omega⟩)⟩
                  rw [run_sliceAt_slice hu hin (run_bounds (P := P) (isS := true) g1 g2 g3 hcc.2.1 hw w), addr_cut]
                · cases hv
              | none =>
                simp only [cond_beq, cond_blt] at hv
                simp only at hw
                have hrun := fun w => run_sliceAt_slice (a := some ⟨b', o, none⟩) (w := w) hu hin (run_bounds (P := P) (isS := true) g1 g2 g3 hcc.2.1 hw w)
                split at hv
                · rename_i hl0
                  subst hl0
                  simp only [Option.some.injEq] at hv
                  subst hv
                  refine ⟨.slice (some ⟨b', o, none⟩) h c', fun w => ?_, .slice hb (Or.inr ⟨Nat.le_refl _, by omega, hcc.2.2⟩)⟩
                  rw [hrun w]
                  simp [Addr.add]
                · rename_i hl0
                  split at hv
                  · rename_i hlt
                    split at hv
                    · cases hv
                    · rename_i hsz
                      simp only [Option.some.injEq] at hv
                      subst hv
                      refine ⟨.slice (some ⟨b', o + l * ie.size, none⟩) (h - l) (c' - l), fun w => ?_, .slice hb (Or.inr ⟨Nat.le_refl _, by omega, fun h0 => ?_⟩)⟩
                      · rw [hrun w, if_neg (by omega)]
                        simp [Addr.add_lit]
                      · have : 0 < l * ie.size := Nat.mul_pos (by omega) (by omega)
                        omega
                  · cases hv
        | plain h =>
          split at hv
          · rename_i n c
            cases hnc : Nat.ble n c
            · simp [hnc] at hv
            · simp only [hnc, cond_true] at hv
              cases hbd : bounds n c lo1 hi1 mx1 with
              | none => simp [hbd] at hv
              | some r =>
                obtain ⟨l, h, m⟩ := r
                simp only [hbd, Option.some.injEq] at hv
                subst hv
                refine ⟨.slice none (h - l) (m - l), fun w => ?_, .plain rfl⟩
                rw [run_sliceAt_slice hu hin (run_bounds (P := P) (isS := true) g1 g2 g3 (Nat.le_of_ble_eq_true hnc) hbd w)]
                simp
          · simp [plainV] at h
          · cases hv
        | _ => simp at hv
end
end Go.Proofs.YtnpbnpilhmbpoaaGreat

/- The closed run: slices made and appended to, copies; maps. -/
namespace Go.Proofs.YtnpbnpilhmbpoaaGreat
open Go.RowKit

section
variable {P : Program} {w0 : World} {ι : Re}
def aMakeSlice (P : Program) (t : TypeId) (l c : Value) : M Value := M.bind (lift (match natOf l, natOf c, P.underlying t with
  | some n, some m, some (.slice e) => match zeroCells P e, P.info? e with
    | some z, some ie => cond (Nat.ble n m) (cond (Nat.ble m 10000000) (cond (Nat.ble ie.bytes 1000000) (some (n, m, zerosL z (m * ie.size), e)) none) none) none
    | _, _ => none
  | _, _, _ => none)) fun r => M.bind (newB (.cells r.2.2.1 r.2.2.2 false)) fun b => M.pure (.slice (some ⟨b, 0, none⟩) r.1 r.2.1)
theorem aMakeSlice_ok (t : TypeId) {l l' c c' : Value} (hl : VR ι l l') (hc : VR ι c c') : VOK P w0 ι (Instr.makeSlice t l' c') (aMakeSlice P t l c) := fun s w v s' hr hm hf => by
  unfold aMakeSlice at hm
  obtain ⟨⟨n, m, zs, e⟩, s1, h1, hm1⟩ := bind_some hm
  obtain ⟨ho, rfl⟩ := lift_some h1
  obtain ⟨b, s2, h2, hm2⟩ := bind_some hm1
  obtain ⟨rfl, rfl⟩ := pure_some hm2
  cases hn : natOf l with
  | none => simp [hn] at ho
  | some n0 =>
  cases hmm : natOf c with
  | none => simp [hn, hmm] at ho
  | some m0 =>
  obtain ⟨k1, rfl⟩ := int_rel hl hn
  obtain ⟨k2, rfl⟩ := int_rel hc hmm
  simp only [hn, hmm] at ho
  cases hu : P.underlying t with
  | none => simp [hu] at ho
  | some d =>
    cases d <;> simp only [hu] at ho <;> try (cases ho; done)
    rename_i e'
    cases hz : zeroCells P e' with
    | none => simp [hz] at ho
    | some z =>
      cases hi : P.info? e' with
      | none => simp [hz, hi] at ho
      | some ie =>
        simp only [hz, hi] at ho
        cases h3 : Nat.ble n0 m0
        · simp [h3] at ho
        cases h4 : Nat.ble m0 10000000
        · simp [h3, h4] at ho
        cases h5 : Nat.ble ie.bytes 1000000
        · simp [h3, h4, h5] at ho
        simp only [h3, h4, h5, cond_true, Option.some.injEq, Prod.mk.injEq] at ho
        obtain ⟨rfl, rfl, rfl, rfl⟩ := ho
        obtain ⟨it, zv, hit, hzv, hzc, hpl⟩ := zeroCells_some hz
        rw [hi] at hit
        cases hit
        have h3 := Nat.le_of_ble_eq_true h3
        have h4 := Nat.le_of_ble_eq_true h4
        have h5 := Nat.le_of_ble_eq_true h5
        have hzc' : zv.cells = ⟨z⟩ := by rw [← hzc]
        obtain ⟨q1, q2, q3⟩ := new_row hr h2 hf (LR.plain (zerosL_plain hpl _))
        refine ⟨_, .slice (some ⟨w.heap.size, 0, none⟩) n0 m0, _, ?_, .slice (Re.add_self ..) (Or.inl ⟨rfl, Nat.lt_of_le_of_lt h4 (by decide)⟩), q1, q3, q2⟩
        have hb : (ie.bytes : Int) * (m0 : Int) ≤ 281474976710656 := by
          have : ie.bytes * m0 ≤ 1000000 * 10000000 := Nat.mul_le_mul h5 h4
          have h6 : ((ie.bytes * m0 : Nat) : Int) ≤ 10000000000000 := by omega
          rw [Int.natCast_mul] at h6
          omega
        have := run_make (P := P) w t e' ie zv hu hi hzv k1 k2 (n0 : Int) (m0 : Int) (by omega) (by omega) hb (by omega)
        rw [this]
        simp only [madeCells, Int.toNat_natCast, hzc', zerosL_eq]

/-! Appending. -/
/-- The first cells of a slice. -/
def aFirst (o : Option Addr) (n : Nat) : M (List Value) := match o with
  | none => cond (Nat.beq n 0) (M.pure []) M.fail
  | some ⟨b, o, none⟩ => M.bind (getB b) fun k => match k with
    | .cells c _ _ => cond (Nat.beq ((c.drop o).take n).length n) (M.pure ((c.drop o).take n)) M.fail
    | .map _ => M.fail
  | _ => M.fail
/-- Where a slice lies: alike. -/
inductive AR (ι : Re) : Option Addr → Option Addr → Prop
  | none : AR ι none none
  | some {b b' g o : Nat} : ι b = some (b', g) → AR ι (some ⟨b, o, none⟩) (some ⟨b', o, none⟩)
theorem aFirst_ok {a a' : Option Addr} (ha : AR ι a a') {n : Nat} {s s' : St} {w : World} {l : List Value} (hr : Rel P w0 ι s w) (hm : aFirst a n s = some (l, s')) :
    (∀ b, s'.heap.get b = s.heap.get b) ∧ s'.next = s.next ∧ l.length = n ∧ ∃ l', LR ι l l' ∧ (a' = none → l' = []) ∧ ∀ x, a' = some x → ∀ j u, l'[j]? = some u → w.cell? (x.add j) = some u := by
  cases ha with
  | none =>
    unfold aFirst at hm
    obtain ⟨c, hm⟩ := cond_fail hm
    obtain ⟨rfl, rfl⟩ := pure_some hm
    exact ⟨fun _ => rfl, rfl, (Nat.eq_of_beq_eq_true c).symm, [], LR.nil, fun _ => rfl, fun x h => by cases h⟩
  | @some b b' g o hi =>
    unfold aFirst at hm
    obtain ⟨k, s1, h1, hm1⟩ := bind_some hm
    obtain ⟨e1, e2, e3⟩ := getB_some h1
    cases k with
    | map es => simp [M.fail] at hm1
    | cells c t0 sp =>
      obtain ⟨c1, hm2⟩ := cond_fail hm1
      obtain ⟨rfl, rfl⟩ := pure_some hm2
      have c1 := Nat.eq_of_beq_eq_true c1
      obtain ⟨-, cc, hb, hl, -⟩ := blk_at hr e1 hi
      have hle := take_len hl
      have hr1 := hl.dropTake o n
      have he : ((cc.take c.length).drop o).take n = (cc.drop o).take n := by
        have : n = 0 ∨ o + n ≤ c.length := by rw [List.length_take, List.length_drop] at c1; omega
        rcases this with h0 | h0
        · rw [h0]; simp
        · exact dropTake_take h0
      rw [he] at hr1
      refine ⟨fun b => by rw [e2], e3, c1, _, hr1, (fun h => by cases h), fun x hx j u hj => ?_⟩
      cases hx
      rw [Addr.add_mid, heap_cell hb]
      have := take_get hj
      rw [List.getElem?_drop] at this
      exact this
theorem src_ok {a a' : Option Addr} (ha : AR ι a a') {size n c : Nat} {tx e' : TypeId} (hk : P.underlying tx = some (.slice e')) {w : World} {l' : List Value} (hl : l'.length = n * size) (h0 : a' = none → l' = []) (h1 : ∀ x, a' = some x → ∀ j u, l'[j]? = some u → w.cell? (x.add j) = some u)
    (hone : l'.all (·.oneCell') = true) (hn : a' = none → n = 0) : Src P size tx (.slice a' n c) n l' w := by
  cases ha with
  | none =>
    have := h0 rfl
    have hn := hn rfl
    subst this; subst hn
    exact Src.ofNil w hk c
  | some hi => exact Src.ofSlice w hk _ n c l' hl (h1 _ rfl) (List.all_eq_true.1 hone)
/-- Behind an append in place, into room that is told. -/
theorem run_append_put (t tx ty e : TypeId) (i : TypeInfo) (ht : P.underlying t = some (.slice e)) (hi : P.info? e = some i) {b off sLen sCap n : Nat} {x : Value} {news cc : List Value} {t0 : TypeId} {w : World} (hs : Src P i.size tx x n news w)
    (hroom : sLen + n ≤ sCap) (hb : w.heap[b]? = some (.cells ⟨cc⟩ t0)) (hc : off + sLen * i.size + news.length ≤ cc.length) :
    (Builtin.append_ #[t, tx] ty #[.slice (some ⟨b, off, none⟩) sLen sCap, x]).run P w = .ok (.slice (some ⟨b, off, none⟩) (sLen + n) sCap) (putO w b (.cells ⟨splice cc (off + sLen * i.size) news⟩ t0)) := by
  have hst := run_storeCells (P := P) news cc (off + sLen * i.size) 0 w hb (by omega) (List.all_eq_true.2 hs.one)
  simp only [Nat.add_zero] at hst
  rcases hs.kind with ⟨e', hk⟩ | hk <;> simp [Builtin.append_, run_underlying ht, run_underlying hk, sizeOf, typeInfo, hi, hs.len, hroom, hs.cells, Addr.add_lit, hst]
def smallN (n : Nat) : Bool := Nat.ble n 1000000
def sliceOf : Value → Option (Option Addr × Nat × Nat)
  | .slice a n c => some (a, n, c)
  | _ => none
def placeOf : Option Addr → Option (Nat × Nat)
  | some ⟨b, o, none⟩ => some (b, o)
  | _ => none
def rowB : Blk → Option (List Value × TypeId × Bool)
  | .cells c t s => some (c, t, s)
  | _ => none
def getR (b : Nat) : M (List Value × TypeId × Bool) := M.bind (getB b) fun k => lift (rowB k)
theorem getR_some {b : Nat} {r : List Value × TypeId × Bool} {s s2 : St} (h : getR b s = some (r, s2)) : s.heap.get b = some (.cells r.1 r.2.1 r.2.2) ∧ s2.heap = s.heap ∧ s2.next = s.next := by
  unfold getR at h
  obtain ⟨k, s1, h1, h2⟩ := bind_some h
  obtain ⟨e1, e2, e3⟩ := getB_some h1
  obtain ⟨e4, rfl⟩ := lift_some h2
  cases k with
  | map es => simp [rowB] at e4
  | cells c t sp => simp only [rowB, Option.some.injEq] at e4; subst e4; exact ⟨e1, e2, e3⟩
def appT (P : Program) (ts tx : TypeId) : Option (TypeId × Nat) := match P.underlying ts, P.underlying tx with
  | some (.slice e), some (.slice _) => match P.info? e, zeroCells P e with
    | some ie, some z => cond (Nat.beq z.length ie.size) (cond (smallN ie.bytes) (cond (Nat.beq ie.size 0) none (some (e, ie.size))) none) none
    | _, _ => none
  | _, _ => none
theorem appT_some {ts tx e : TypeId} {size : Nat} (h : appT P ts tx = some (e, size)) : ∃ e' ie zv, P.underlying ts = some (.slice e) ∧ P.underlying tx = some (.slice e') ∧ P.info? e = some ie ∧ ie.size = size ∧ ie.zero = some zv ∧ zv.cells.toList.length = ie.size ∧ ie.bytes ≤ 1000000 ∧ size ≠ 0 := by
  unfold appT at h
  split at h
  · rename_i e1 e' hu hux
    split at h
    · rename_i ie z hie hz
      obtain ⟨it, zv, hit, hzv, hzc, hpl⟩ := zeroCells_some hz
      rw [hie] at hit
      cases hit
      simp only [cond_beq] at h
      split at h
      · rename_i h1
        cases h2 : smallN ie.bytes
        · simp [h2] at h
        · simp only [h2, cond_true] at h
          split at h
          · cases h
          · rename_i h3
            simp only [Option.some.injEq, Prod.mk.injEq] at h
            obtain ⟨rfl, rfl⟩ := h
            exact ⟨e', ie, zv, hu, hux, hie, rfl, hzv, by rw [hzc, h1], Nat.le_of_ble_eq_true h2, h3⟩
      · cases h
    · cases h
  · cases h
def appRoom (sb : Option Addr) (sl sc size : Nat) (news : List Value) (xl : Nat) : M Value := M.bind (lift (placeOf sb)) fun bo => M.bind (getR bo.1) fun r =>
  cond (Nat.ble (bo.2 + sl * size + news.length) r.1.length) (M.bind (setB bo.1 (some (.cells (splice r.1 (bo.2 + sl * size) news) r.2.1 r.2.2))) fun _ => M.pure (.slice sb (sl + xl) sc)) M.fail
def appGrow (e : TypeId) (sb : Option Addr) (sl size : Nat) (news : List Value) (xl : Nat) : M Value := M.bind (aFirst sb (sl * size)) fun olds => M.bind (newB (.cells (olds ++ news) e true)) fun nb => M.pure (.slice (some ⟨nb, 0, none⟩) (sl + xl) bigCap)
def appUnk (e : TypeId) (sb : Option Addr) (sl size : Nat) (news : List Value) (xl : Nat) : M Value := M.bind (lift (placeOf sb)) fun bo => cond (Nat.beq bo.2 0) (M.bind (getR bo.1) fun r =>
  cond (Nat.beq r.2.1 e) (cond r.2.2 (cond (Nat.beq (r.1.take (sl * size)).length (sl * size)) (M.bind (setB bo.1 none) fun _ => M.bind (newB (.cells (r.1.take (sl * size) ++ news) e true)) fun nb => M.pure (.slice (some ⟨nb, 0, none⟩) (sl + xl) bigCap)) M.fail) M.fail) M.fail) M.fail
def aAppend (P : Program) (ts tx : TypeId) (s x : Value) : M Value := M.bind (lift (appT P ts tx)) fun es => M.bind (lift (sliceOf s)) fun ss => M.bind (lift (sliceOf x)) fun xx =>
  cond (smallN (ss.2.1 + xx.2.1)) (M.bind (aFirst xx.1 (xx.2.1 * es.2)) fun news => cond (news.all (·.oneCell'))
    (cond (Nat.beq xx.2.1 0) (cond (Nat.ble ss.2.1 ss.2.2) (M.pure s) M.fail)
      (cond (Nat.blt ss.2.2 bigCap) (cond (Nat.ble (ss.2.1 + xx.2.1) ss.2.2) (appRoom ss.1 ss.2.1 ss.2.2 es.2 news xx.2.1) (appGrow es.1 ss.1 ss.2.1 es.2 news xx.2.1)) (appUnk es.1 ss.1 ss.2.1 es.2 news xx.2.1))) M.fail) M.fail
theorem sliceOf_some {v : Value} {r : Option Addr × Nat × Nat} (h : sliceOf v = some r) : v = .slice r.1 r.2.1 r.2.2 := by
  cases v <;> simp [sliceOf] at h
  subst h; rfl
theorem placeOf_some {a : Option Addr} {r : Nat × Nat} (h : placeOf a = some r) : a = some ⟨r.1, r.2, none⟩ := by
  unfold placeOf at h
  split at h
  · simp only [Option.some.injEq] at h; subst h; rfl
  · cases h
inductive SR (ι : Re) : Value → Value → Prop
  | mk {a a' : Option Addr} {n c c' : Nat} : AR ι a a' → (c' = c ∧ c < bigCap ∨ a' = none ∧ c' = c ∨ bigCap ≤ c ∧ n ≤ c' ∧ ∀ b, a = some ⟨b, 0, none⟩ → ∃ b' g, ι b = some (b', g) ∧ c' = g) → SR ι (.slice a n c) (.slice a' n c')
theorem slice_rel {a : Option Addr} {n c : Nat} {y : Value} (h : VR ι (.slice a n c) y) : SR ι (.slice a n c) y := by
  cases h with
  | plain h =>
    cases a with
    | none => exact .mk .none (Or.inr (Or.inl ⟨rfl, rfl⟩))
    | some a => simp [plainV] at h
  | slice hi hc =>
    rename_i b b' g o c'
    refine .mk (.some hi) ?_
    rcases hc with hc | ⟨h1, h2, h3⟩
    · exact Or.inl hc
    · refine Or.inr (Or.inr ⟨h1, h2, fun b2 hb2 => ?_⟩)
      simp only [Option.some.injEq, Addr.mk.injEq, and_true] at hb2
      obtain ⟨rfl, rfl⟩ := hb2
      exact ⟨b', g, hi, h3 rfl⟩
theorem nextcap_fits {need old bytes : Nat} (h : old < need) (h1 : need ≤ 1000000) (h2 : bytes ≤ 1000000) : Builtin.nextslicecap need old * bytes ≤ 281474976710656 := by
  have := nextslicecap_le h
  calc Builtin.nextslicecap need old * bytes ≤ 2000000 * 1000000 := Nat.mul_le_mul (by omega) h2
    _ ≤ 281474976710656 := by decide
theorem zc_length (z : List Value) (n : Nat) : (Builtin.zeroCells ⟨z⟩ n).toList.length = n * z.length := by simp [Builtin.zeroCells]
/-- Behind an append that makes a new row. -/
theorem grown_ok {t tx ty e : TypeId} {ie : TypeInfo} {zv : Value} (ht : P.underlying t = some (.slice e)) (hi : P.info? e = some ie) (hz : ie.zero = some zv) (hzs : zv.cells.toList.length = ie.size) (hby : ie.bytes ≤ 1000000)
    {s s' : St} {w : World} (hr : Rel P w0 ι s w) {a a' : Option Addr} (ha : AR ι a a') {sl sc xl : Nat} {olds olds' news news' : List Value} (ho : LR ι olds olds') (hn : LR ι news news') (hol : olds'.length = sl * ie.size) (h0 : a' = none → olds' = [])
    (h1 : ∀ x, a' = some x → ∀ j u, olds'[j]? = some u → w.cell? (x.add j) = some u) {x : Value} (hs : Src P ie.size tx x xl news' w) (hg : sc < sl + xl) (hsm : sl + xl ≤ 1000000)
    {b : Nat} (hm : newB (.cells (olds ++ news) e true) s = some (b, s')) (hf : Free ι s.next s'.next) :
    ∃ ι' w' c', (Builtin.append_ #[t, tx] ty #[.slice a' sl sc, x]).run P w = .ok (.slice (some ⟨w.heap.size, 0, none⟩) (sl + xl) c') w' ∧ VR ι' (.slice (some ⟨b, 0, none⟩) (sl + xl) bigCap) (.slice (some ⟨w.heap.size, 0, none⟩) (sl + xl) c') ∧ Rel P w0 ι' s' w' ∧ s.next ≤ s'.next ∧ Grow ι ι' s.next s'.next := by
  obtain ⟨rfl, e2, e3⟩ := newB_some hm
  have hfn : ι s.next = none := hf _ (Nat.le_refl _) (by omega)
  obtain ⟨g, hgd⟩ : ∃ g, g = grownCap w (sl + xl) sc e := ⟨_, rfl⟩
  have hge := grownCap_ge w (sl + xl) sc e
  rw [← hgd] at hge
  have hold : (Builtin.firstCells ie.size sl (.slice a' sl sc)).run P w.drew = .ok olds'.toArray w.drew := by
    cases ha with
    | none => rw [h0 rfl]; exact run_firstCells_none ..
    | some hib => exact run_firstCells_some w.drew ie.size sl _ sl sc olds' hol (h1 _ rfl)
  have hrun := run_append_grow_src (P := P) (w := w) t tx ty e ie zv ht hi hz a' sl sc olds' hold x xl news' hs hg (by omega) (nextcap_fits hg hsm hby)
  rw [← hgd] at hrun
  have hnl : news'.length = xl * ie.size := hs.newsLen
  have hcc : (olds' ++ news').toArray ++ Builtin.zeroCells zv.cells (g - (sl + xl)) = ⟨olds' ++ news' ++ (Builtin.zeroCells zv.cells (g - (sl + xl))).toList⟩ := by
    apply Array.ext'; simp
  have hzl : (Builtin.zeroCells zv.cells (g - (sl + xl))).toList.length = (g - (sl + xl)) * ie.size := by
    have := zc_length zv.cells.toList (g - (sl + xl))
    rw [hzs] at this
    exact this
  have hlr := ho.append hn
  have hbr : BR P ι g (.cells (olds ++ news) e true) (some (.cells ⟨olds' ++ news' ++ (Builtin.zeroCells zv.cells (g - (sl + xl))).toList⟩ e)) := by
    refine ⟨_, rfl, ?_, (fun h => by cases h), fun _ => ?_⟩
    · rw [hlr.1, List.take_left]
      exact hlr
    · rw [cellsOf_info hi, List.length_append, List.length_append, hol, hnl, hzl, ← Nat.add_mul, ← Nat.add_mul]
      congr 1
      omega
  refine ⟨ι.add s.next w.heap.size g, _, g, by rw [hrun, hcc], .slice (Re.add_self ..) (Or.inr ⟨Nat.le_refl _, hge, fun _ => rfl⟩), ?_, by omega, by rw [e3]; exact Re.add_grow ι _ _ _⟩
  exact hr.drew.new hfn hbr e2
theorem aAppend_ok (ts tx ty : TypeId) {x x' y y' : Value} (hx : VR ι x x') (hy : VR ι y y') : VOK P w0 ι (Builtin.append_ #[ts, tx] ty #[x', y']) (aAppend P ts tx x y) := fun s w v s' hr hm hf => by
  unfold aAppend at hm
  obtain ⟨⟨e, size⟩, s0, h0, hm1⟩ := bind_some hm
  obtain ⟨ho, rfl⟩ := lift_some h0
  obtain ⟨e', ie, zv, hu, hux, hie, hsz, hzv, hzl, hby, hs0⟩ := appT_some ho
  subst hsz
  obtain ⟨⟨sb, sl, sc⟩, s1, h1, hm2⟩ := bind_some hm1
  obtain ⟨hs1, rfl⟩ := lift_some h1
  have hx1 := sliceOf_some hs1
  subst hx1
  obtain ⟨⟨xb, xl, xc⟩, s2, h2, hm3⟩ := bind_some hm2
  obtain ⟨hs2, rfl⟩ := lift_some h2
  have hy1 := sliceOf_some hs2
  subst hy1
  obtain ⟨c3, hm4⟩ := cond_fail hm3
  have c3n := Nat.le_of_ble_eq_true c3
  obtain ⟨news, s3, hnews, hm5⟩ := bind_some hm4
  obtain ⟨c4, hm6⟩ := cond_fail hm5
  simp only at hnews c3n c4 hm6 hx hy
  have hsx := slice_rel hx
  have hsy := slice_rel hy
  cases hsx with
  | @mk _ sb' _ _ sc' hab hcap =>
  cases hsy with
  | @mk _ xb' _ _ xc' haxb _ =>
  obtain ⟨f1, f2, f3, news', f4, f5, f6⟩ := aFirst_ok haxb hr hnews
  have hr1 : Rel P w0 ι s3 w := hr.congr f1
  have hnl' : news'.length = xl * ie.size := by rw [← f4.1, f3]
  have hxn : xb' = none → xl = 0 := fun h => by
    have := f5 h
    rw [this] at hnl'
    rcases Nat.mul_eq_zero.1 hnl'.symm with h2 | h2
    · exact h2
    · exact absurd h2 hs0
  have hsrc : Src P ie.size tx (.slice xb' xl xc') xl news' w := src_ok haxb hux hnl' f5 f6 (f4.ones c4) hxn
  rw [cond_beq] at hm6
  split at hm6
  · rename_i hx0
    subst hx0
    obtain ⟨c5, hm7⟩ := cond_fail hm6
    obtain ⟨rfl, rfl⟩ := pure_some hm7
    have c5 := Nat.le_of_ble_eq_true c5
    have hnil : news' = [] := by
      rw [Nat.zero_mul] at hnl'
      exact List.eq_nil_of_length_eq_zero hnl'
    subst hnil
    have hle : sl ≤ sc' := by
      rcases hcap with ⟨rfl, _⟩ | ⟨_, rfl⟩ | ⟨_, h, _⟩
      · exact c5
      · exact c5
      · exact h
    exact ⟨ι, .slice sb' sl sc', w, run_append_nothing (P := P) w ts tx ty e ie hu hie sb' sl sc' hle _ hsrc, hx, hr1, by rw [f2]; exact Nat.le_refl _, Grow.refl ι _ _⟩
  rename_i hx0
  rw [cond_blt] at hm6
  split at hm6
  · rename_i hsc
    have hscc : sc' = sc := by rcases hcap with ⟨h, _⟩ | ⟨_, h⟩ | ⟨h, _⟩ <;> first | exact h | omega
    subst hscc
    cases hroom : Nat.ble (sl + xl) sc'
    · rw [hroom, cond_false] at hm6
      unfold appGrow at hm6
      have hroom2 : sc' < sl + xl := by
        rcases Nat.lt_or_ge sc' (sl + xl) with h | h
        · exact h
        · rw [Nat.ble_eq_true_of_le h] at hroom; cases hroom
      obtain ⟨olds, s4, holds, hm7⟩ := bind_some hm6
      obtain ⟨nb, s5, hnb, hm8⟩ := bind_some hm7
      obtain ⟨rfl, rfl⟩ := pure_some hm8
      obtain ⟨g1, g2, g3, olds', g4, g5, g6⟩ := aFirst_ok hab hr1 holds
      have hr2 : Rel P w0 ι s4 w := hr1.congr g1
      obtain ⟨ι', w', c', q1, q2, q3, q4, q5⟩ := grown_ok (ty := ty) hu hie hzv hzl hby hr2 hab g4 f4 (by rw [← g4.1, g3]) g5 g6 hsrc hroom2 c3n hnb (by rw [g2, f2]; exact hf)
      exact ⟨ι', _, w', q1, q2, q3, by rw [g2, f2] at q4; exact q4, by rw [g2, f2] at q5; exact q5⟩
    · rw [hroom, cond_true] at hm6
      unfold appRoom at hm6
      have hroom2 := Nat.le_of_ble_eq_true hroom
      obtain ⟨⟨b, o⟩, s4, h4, hm7⟩ := bind_some hm6
      obtain ⟨hp, rfl⟩ := lift_some h4
      have hp := placeOf_some hp
      subst hp
      cases hab with
      | @some _ b' g _ hib =>
      obtain ⟨⟨c, t0, sp⟩, s5, hk, hm8⟩ := bind_some hm7
      obtain ⟨e1, e2, e3⟩ := getR_some hk
      obtain ⟨c6, hm9⟩ := cond_fail hm8
      have c6 := Nat.le_of_ble_eq_true c6
      obtain ⟨u, s6, hset, hm10⟩ := bind_some hm9
      obtain ⟨rfl, rfl⟩ := pure_some hm10
      obtain ⟨e4, e5⟩ := setB_some hset
      simp only at e1 e4 c6
      obtain ⟨-, hbr⟩ := blk_at hr1 e1 hib
      obtain ⟨cc, hb, hl, -⟩ := id hbr
      have hcl := take_len hl
      exact ⟨ι, .slice (some ⟨b', o, none⟩) (sl + xl) sc', _, run_append_put (P := P) ts tx ty e ie hu hie hsrc hroom2 hb (by rw [← f4.1]; omega), .slice hib (Or.inl ⟨rfl, hsc⟩), splice_put hr1 e1 hib hb hbr f4 (by omega) (fun d => by rw [e4, e2]), by rw [e5, e3, f2]; exact Nat.le_refl _, Grow.refl ι _ _⟩
  · rename_i hsc
    unfold appUnk at hm6
    obtain ⟨⟨b, o⟩, s4, h4, hm7⟩ := bind_some hm6
    obtain ⟨hp, rfl⟩ := lift_some h4
    have hp := placeOf_some hp
    subst hp
    obtain ⟨c5, hm8⟩ := cond_fail hm7
    have c5 := Nat.eq_of_beq_eq_true c5
    simp only at c5 hm8
    subst c5
    cases hab with
    | @some _ b' g _ hib =>
    obtain ⟨⟨c, t0, sp⟩, s5, hk, hm9⟩ := bind_some hm8
    obtain ⟨e1, e2, e3⟩ := getR_some hk
    obtain ⟨c6, hm10⟩ := cond_fail hm9
    obtain ⟨c7, hm11⟩ := cond_fail hm10
    obtain ⟨c8, hm12⟩ := cond_fail hm11
    have c6 := Nat.eq_of_beq_eq_true c6
    have c8 := Nat.eq_of_beq_eq_true c8
    simp only at c6 c7 c8 e1
    subst c6
    subst c7
    obtain ⟨u, s6, hset, hm13⟩ := bind_some hm12
    obtain ⟨nb, s7, hnb, hm14⟩ := bind_some hm13
    obtain ⟨rfl, rfl⟩ := pure_some hm14
    obtain ⟨e4, e5⟩ := setB_some hset
    simp only at hnb e4
    obtain ⟨-, hbr⟩ := blk_at hr1 e1 hib
    obtain ⟨cc, hb, hl, hx1, hx2⟩ := id hbr
    have hcl := take_len hl
    have hcap2 : sl ≤ sc' ∧ sc' = g := by
      rcases hcap with ⟨_, h⟩ | ⟨h, _⟩ | ⟨_, h, h2⟩
      · omega
      · cases h
      · obtain ⟨b2, g2, q1, q2⟩ := h2 b rfl
        rw [hib] at q1
        simp only [Option.some.injEq, Prod.mk.injEq] at q1
        exact ⟨h, by rw [q2, ← q1.2]⟩
    obtain ⟨hcap2, rfl⟩ := hcap2
    have hgl : cc.length = sc' * ie.size := by rw [hx2 rfl, cellsOf_info hie]
    have c8' : (c.take (sl * ie.size)).length = sl * ie.size := Nat.eq_of_beq_eq_true c8
    have c9 : sl * ie.size ≤ c.length := by rw [List.length_take] at c8'; omega
    have hold : LR ι (c.take (sl * ie.size)) (cc.take (sl * ie.size)) := by
      have := hl.take (sl * ie.size)
      rw [List.take_take, show min (sl * ie.size) c.length = sl * ie.size by omega] at this
      exact this
    have hfree : Free ι s6.next s'.next := by rw [e5, e3, f2]; exact hf
    obtain ⟨rfl, e6, e7⟩ := newB_some hnb
    have hfn : ι s6.next = none := hfree _ (Nat.le_refl _) (by omega)
    have hlr := hold.append f4
    by_cases hin : sl + xl ≤ sc'
    · have hmul : (sl + xl) * ie.size ≤ sc' * ie.size := Nat.mul_le_mul_right _ hin
      rw [Nat.add_mul] at hmul
      have hrun := run_append_put (P := P) ts tx ty t0 ie hu hie hsrc hin hb (off := 0) (by omega)
      rw [Nat.zero_add] at hrun
      have hsl := splice_length (c := cc) (vs := news') (o := sl * ie.size) (by omega)
      have hbr2 : BR P ι sc' (.cells (c.take (sl * ie.size) ++ news) t0 true) (some (.cells ⟨splice cc (sl * ie.size) news'⟩ t0)) := by
        refine ⟨_, rfl, ?_, (fun h => by cases h), fun _ => by rw [hsl]; exact hx2 rfl⟩
        have : (splice cc (sl * ie.size) news').take (c.take (sl * ie.size) ++ news).length = cc.take (sl * ie.size) ++ news' := by
          unfold splice
          rw [hlr.1, ← List.append_assoc, List.take_left]
        rw [this]
        exact hlr
      refine ⟨ι.add s6.next b' sc', .slice (some ⟨b', 0, none⟩) (sl + xl) sc', _, hrun, .slice (Re.add_self ..) (Or.inr ⟨Nat.le_refl _, hin, fun _ => rfl⟩), ?_, by rw [e7, e5, e3, f2]; exact Nat.le_succ _, by rw [e7, e5, e3, f2]; exact Re.add_grow ι _ _ _⟩
      exact hr1.rename e1 hib hfn hbr2 (fun d => by rw [e6, e4, e2])
    · have hr2 : Rel P w0 ι s6 w := hr1.less fun d k hd => by
        rw [e4] at hd
        by_cases hdb : d = b
        · rw [if_pos hdb] at hd; cases hd
        · rw [if_neg hdb, e2] at hd; exact hd
      obtain ⟨ι', w', c', q1, q2, q3, q4, q5⟩ := grown_ok (ty := ty) hu hie hzv hzl hby hr2 (.some hib) hold f4 (by rw [List.length_take]; omega) (fun h => by cases h) (fun y hy j u hj => by
        cases hy
        rw [Addr.add_mid, heap_cell hb, Nat.zero_add]
        exact take_get hj) hsrc (by omega : sc' < sl + xl) c3n hnb hfree
      exact ⟨ι', _, w', q1, q2, q3, by rw [e5, e3, f2] at q4; exact q4, by rw [e5, e3, f2] at q5; exact q5⟩
end
end Go.Proofs.YtnpbnpilhmbpoaaGreat

/- The closed run: copies, lengths, maps, comparing; all operations at once. -/
namespace Go.Proofs.YtnpbnpilhmbpoaaGreat
open Go.RowKit

/-- A step that asks the world nothing. -/
def evalPure {α : Type} (P : Program) : Sem α → Option α
  | .pure a => some a
  | .program k => evalPure P (k P)
  | _ => none
theorem evalPure_run {α : Type} (P : Program) : ∀ (S : Sem α) (a : α), evalPure P S = some a → ∀ w, S.run P w = .ok a w
  | .pure a, b, h, w => by simp only [evalPure, Option.some.injEq] at h; subst h; rfl
  | .program k, b, h, w => by
    simp only [evalPure] at h
    show ((k P).run P w) = _
    exact evalPure_run P (k P) b h w

section
variable {P : Program} {w0 : World} {ι : Re}

/-! Copies. -/
def aCopy (P : Program) (dt : TypeId) (d x : Value) : M Value := M.bind (lift (match P.underlying dt with
  | some (.slice e) => (P.info? e).map (·.size)
  | _ => none)) fun size => M.bind (lift (sliceOf d)) fun dd => M.bind (lift (sliceOf x)) fun xx => M.bind (aFirst xx.1 (Nat.min xx.2.1 dd.2.1 * size)) fun news =>
  cond (news.all (·.oneCell')) (cond (Nat.beq news.length 0) (M.pure (.int .i64 (Nat.min xx.2.1 dd.2.1))) (M.bind (lift (placeOf dd.1)) fun bo => M.bind (getR bo.1) fun r =>
    cond (Nat.ble (bo.2 + news.length) r.1.length) (M.bind (setB bo.1 (some (.cells (splice r.1 bo.2 news) r.2.1 r.2.2))) fun _ => M.pure (.int .i64 (Nat.min xx.2.1 dd.2.1))) M.fail)) M.fail
theorem run_copy_put {dt xt ty e : TypeId} {size : Nat} (hu : P.underlying dt = some (.slice e)) (hi : (P.info? e).map (·.size) = some size) {w w' : World} {da xa : Option Addr} {dl dc xl xc : Nat} {news : List Value}
    (h1 : (Builtin.firstCells size (Nat.min xl dl) (.slice xa xl xc)).run P w = .ok news.toArray w) (h2 : match da with | some a => (storeCells a news).run P w = .ok () w' | none => w' = w) :
    (Builtin.copy_ #[dt, xt] ty #[.slice da dl dc, .slice xa xl xc]).run P w = .ok (.int .i64 (Nat.min xl dl)) w' := by
  have hs := run_sizeIs hi w
  cases da with
  | none =>
    simp only at h2
    subst h2
    simp [Builtin.copy_, Sem.run_bind, run_underlying hu, Builtin.lenOf, hs, h1, goInt]
  | some a =>
    simp only at h2
    simp [Builtin.copy_, Sem.run_bind, run_underlying hu, Builtin.lenOf, hs, h1, h2, goInt]
theorem aCopy_ok (dt xt ty : TypeId) {x x' y y' : Value} (hx : VR ι x x') (hy : VR ι y y') : VOK P w0 ι (Builtin.copy_ #[dt, xt] ty #[x', y']) (aCopy P dt x y) := fun s w v s' hr hm hf => by
  unfold aCopy at hm
  obtain ⟨size, s0, h0, hm1⟩ := bind_some hm
  obtain ⟨ho, rfl⟩ := lift_some h0
  cases hu : P.underlying dt with
  | none => simp [hu] at ho
  | some d =>
  cases d <;> simp only [hu] at ho <;> try (cases ho; done)
  rename_i e
  obtain ⟨⟨sb, sl, sc⟩, s1, h1, hm2⟩ := bind_some hm1
  obtain ⟨hs1, rfl⟩ := lift_some h1
  have hx1 := sliceOf_some hs1
  subst hx1
  obtain ⟨⟨xb, xl, xc⟩, s2, h2, hm3⟩ := bind_some hm2
  obtain ⟨hs2, rfl⟩ := lift_some h2
  have hy1 := sliceOf_some hs2
  subst hy1
  obtain ⟨news, s3, hnews, hm4⟩ := bind_some hm3
  obtain ⟨c4, hm5⟩ := cond_fail hm4
  simp only at hnews hm5 hx hy
  have hsx := slice_rel hx
  have hsy := slice_rel hy
  cases hsx with
  | @mk _ sb' _ _ sc' hab hcap =>
  cases hsy with
  | @mk _ xb' _ _ xc' haxb _ =>
  obtain ⟨f1, f2, f3, news', f4, f5, f6⟩ := aFirst_ok haxb hr hnews
  have hr1 : Rel P w0 ι s3 w := hr.congr f1
  have hnl' : news'.length = Nat.min xl sl * size := by rw [← f4.1, f3]
  have hfc : (Builtin.firstCells size (Nat.min xl sl) (.slice xb' xl xc')).run P w = .ok news'.toArray w := by
    cases haxb with
    | none => rw [f5 rfl]; exact run_firstCells_none ..
    | some hib => exact run_firstCells_some w size _ _ xl xc' news' hnl' (f6 _ rfl)
  rw [cond_beq] at hm5
  split at hm5
  · rename_i hn0
    obtain ⟨rfl, rfl⟩ := pure_some hm5
    have hnil : news' = [] := List.eq_nil_of_length_eq_zero (by rw [← f4.1]; exact hn0)
    subst hnil
    refine ⟨ι, _, w, run_copy_put hu ho hfc (by cases sb' <;> simp [storeCells]), .plain rfl, hr1, by rw [f2]; exact Nat.le_refl _, Grow.refl ι _ _⟩
  · obtain ⟨⟨b, o⟩, s4, h4, hm7⟩ := bind_some hm5
    obtain ⟨hp, rfl⟩ := lift_some h4
    have hp := placeOf_some hp
    subst hp
    cases hab with
    | @some _ b' g _ hib =>
    obtain ⟨⟨c, t0, sp⟩, s5, hk, hm8⟩ := bind_some hm7
    obtain ⟨e1, e2, e3⟩ := getR_some hk
    obtain ⟨c6, hm9⟩ := cond_fail hm8
    have c6 := Nat.le_of_ble_eq_true c6
    obtain ⟨u, s6, hset, hm10⟩ := bind_some hm9
    obtain ⟨rfl, rfl⟩ := pure_some hm10
    obtain ⟨e4, e5⟩ := setB_some hset
    simp only at e1 e4 c6
    obtain ⟨-, hbr⟩ := blk_at hr1 e1 hib
    obtain ⟨cc, hb, hl, -⟩ := id hbr
    have hcl := take_len hl
    have hst := run_storeCells (P := P) news' cc o 0 w hb (by rw [← f4.1]; omega) (f4.ones c4)
    rw [Nat.add_zero] at hst
    exact ⟨ι, _, _, run_copy_put hu ho hfc hst, .plain rfl, splice_put hr1 e1 hib hb hbr f4 (by omega) (fun d => by rw [e4, e2]), by rw [e5, e3, f2]; exact Nat.le_refl _, Grow.refl ι _ _⟩

/-! Lengths, least, greatest. -/
def aLen (P : Program) (t : TypeId) (x : Value) : Option Value := match P.underlying t with
  | some (.slice _) => match x with
    | .slice _ n _ => some (.int .i64 n)
    | _ => none
  | some (.array n _) => some (.int .i64 n)
  | _ => none
theorem aLen_ok (t ty : TypeId) {x x' : Value} (hx : VR ι x x') : VOK P w0 ι (Builtin.len_ #[t] ty #[x']) (lift (aLen P t x)) := VOK.lift fun v hv => by
  unfold aLen at hv
  cases hu : P.underlying t with
  | none => simp [hu] at hv
  | some d =>
    cases d <;> simp only [hu] at hv <;> try (cases hv; done)
    case slice e =>
      split at hv
      · rename_i a n c
        simp only [Option.some.injEq] at hv
        subst hv
        cases slice_rel hx with
        | mk h1 h2 => exact ⟨_, fun w => by simp [Builtin.len_, Sem.run_bind, run_underlying hu, goInt], .plain rfl⟩
      · cases hv
    case array n e =>
      simp only [Option.some.injEq] at hv
      subst hv
      exact ⟨_, fun w => by simp [Builtin.len_, Sem.run_bind, run_underlying hu, goInt], .plain rfl⟩
def aCap (P : Program) (t : TypeId) (x : Value) : Option Value := match P.underlying t with
  | some (.slice _) => match x with
    | .slice _ _ c => cond (Nat.blt c bigCap) (some (.int .i64 c)) none
    | _ => none
  | _ => none
theorem aCap_ok (t ty : TypeId) {x x' : Value} (hx : VR ι x x') : VOK P w0 ι (Builtin.cap_ #[t] ty #[x']) (lift (aCap P t x)) := VOK.lift fun v hv => by
  unfold aCap at hv
  cases hu : P.underlying t with
  | none => simp [hu] at hv
  | some d =>
    cases d <;> simp only [hu] at hv <;> try (cases hv; done)
    split at hv
    · rename_i a n c
      rw [cond_blt] at hv
      split at hv
      · rename_i hc
        simp only [Option.some.injEq] at hv
        subst hv
        cases slice_rel hx with
        | mk h1 h2 =>
          rename_i c'
          have : c' = c := by rcases h2 with ⟨h, _⟩ | ⟨_, h⟩ | ⟨h, _⟩ <;> first | exact h | omega
          subst this
          exact ⟨_, fun w => by simp [Builtin.cap_, Sem.run_bind, run_underlying hu, goInt], .plain rfl⟩
      · cases hv
    · cases hv
/-- The least (the greatest) of whole numbers. -/
def aMost (mx : Bool) : List Value → Value → Option Value
  | [], .int k x => some (.int k x)
  | .int _ y :: l, .int k x => aMost mx l (.int k (cond mx (if y > x then y else x) (if y < x then y else x)))
  | _, _ => none
theorem aMost_run (mx : Bool) : ∀ (l : List Value) (x v : Value), aMost mx l x = some v → (∃ k n, v = .int k n) ∧ ∀ w, (l.foldlM (if mx then Builtin.max2 else Builtin.min2) x).run P w = .ok v w
  | [], x, v, h => by
    cases x <;> simp [aMost] at h
    subst h
    exact ⟨⟨_, _, rfl⟩, fun w => rfl⟩
  | y :: l, x, v, h => by
    cases y <;> cases x <;> simp [aMost] at h
    obtain ⟨h1, h2⟩ := aMost_run mx l _ v h
    refine ⟨h1, fun w => ?_⟩
    rw [List.foldlM_cons]
    rename_i k1 n1 k2 n2
    have : ((if mx then Builtin.max2 else Builtin.min2) (.int k2 n2) (.int k1 n1)).run P w = .ok (.int k2 (bif mx then if n2 < n1 then n1 else n2 else if n1 < n2 then n1 else n2)) w := by
      cases mx <;> simp [Builtin.max2, Builtin.min2]
    rw [Sem.run_bind, this]
    exact h2 w
theorem most_data (mx : Bool) : ∀ (l : List Value) (x v : Value), aMost mx l x = some v → plainV x = true ∧ l.all plainV = true
  | [], x, v, h => by cases x <;> simp [aMost] at h; exact ⟨rfl, rfl⟩
  | y :: l, x, v, h => by
    cases y <;> cases x <;> simp [aMost] at h
    obtain ⟨-, h2⟩ := most_data mx l _ v h
    exact ⟨rfl, by simp [h2, plainV]⟩
theorem LR.plain_eq {xs ys : List Value} (h : LR ι xs ys) (hp : xs.all plainV = true) : xs = ys := LR.ext h.1 fun i x x' a b => (h.2 i x x' a b).plain_eq (List.all_eq_true.1 hp x (List.mem_of_getElem? a))

/-! A row lengthened by zeros. -/
def appTZ (P : Program) (ts tx : TypeId) : Option (TypeId × Nat × List Value) := match P.underlying ts, P.underlying tx with
  | some (.slice e), some (.int _) => match P.info? e, zeroCells P e with
    | some ie, some z => cond (Nat.beq z.length ie.size) (cond (smallN ie.bytes) (cond (Nat.beq ie.size 0) none (some (e, ie.size, z))) none) none
    | _, _ => none
  | _, _ => none
theorem appTZ_some {ts tx e : TypeId} {size : Nat} {z : List Value} (h : appTZ P ts tx = some (e, size, z)) : ∃ kn ie zv, P.underlying ts = some (.slice e) ∧ P.underlying tx = some (.int kn) ∧ P.info? e = some ie ∧ ie.size = size ∧ ie.zero = some zv ∧ zv.cells = ⟨z⟩ ∧ z.length = ie.size ∧ z.all plainV = true ∧ ie.bytes ≤ 1000000 ∧ size ≠ 0 := by
  unfold appTZ at h
  split at h
  · rename_i e1 kn hu hux
    split at h
    · rename_i ie z1 hie hz
      obtain ⟨it, zv, hit, hzv, hzc, hpl⟩ := zeroCells_some hz
      rw [hie] at hit
      cases hit
      simp only [cond_beq] at h
      split at h
      · rename_i h1
        cases h2 : smallN ie.bytes
        · simp [h2] at h
        · simp only [h2, cond_true] at h
          split at h
          · cases h
          · rename_i h3
            simp only [Option.some.injEq, Prod.mk.injEq] at h
            obtain ⟨rfl, rfl, rfl⟩ := h
            exact ⟨kn, ie, zv, hu, hux, hie, rfl, hzv, by rw [← hzc], h1, hpl, Nat.le_of_ble_eq_true h2, h3⟩
      · cases h
    · cases h
  · cases h
def aAppendZ (P : Program) (ts tx : TypeId) (s x : Value) : M Value := M.bind (lift (appTZ P ts tx)) fun es => M.bind (lift (sliceOf s)) fun ss => M.bind (lift (natOf x)) fun n =>
  cond (smallN (ss.2.1 + n)) (cond (Nat.blt ss.2.2 bigCap) (cond (Nat.ble (ss.2.1 + n) ss.2.2) M.fail (cond (Nat.beq n 0) M.fail (appGrow es.1 ss.1 ss.2.1 es.2.1 (zerosL es.2.2 (n * es.2.1)) n))) M.fail) M.fail
theorem aAppendZ_ok (ts tx ty : TypeId) {x x' y y' : Value} (hx : VR ι x x') (hy : VR ι y y') : VOK P w0 ι (Builtin.append_ #[ts, tx] ty #[x', y']) (aAppendZ P ts tx x y) := fun s w v s' hr hm hf => by
  unfold aAppendZ at hm
  obtain ⟨⟨e, size, z⟩, s0, h0, hm1⟩ := bind_some hm
  obtain ⟨ho, rfl⟩ := lift_some h0
  obtain ⟨kn, ie, zv, hu, hux, hie, hsz, hzv, hzc, hzl, hpl, hby, hs0⟩ := appTZ_some ho
  subst hsz
  obtain ⟨⟨sb, sl, sc⟩, s1, h1, hm2⟩ := bind_some hm1
  obtain ⟨hs1, rfl⟩ := lift_some h1
  have hx1 := sliceOf_some hs1
  subst hx1
  obtain ⟨n, s2, h2, hm3⟩ := bind_some hm2
  obtain ⟨hn, rfl⟩ := lift_some h2
  obtain ⟨kq, rfl⟩ := int_rel hy hn
  obtain ⟨c3, hm4⟩ := cond_fail hm3
  have c3n := Nat.le_of_ble_eq_true c3
  obtain ⟨c4, hm5⟩ := cond_fail hm4
  have c4n : sc < bigCap := Nat.le_of_ble_eq_true c4
  simp only at c3n hm5 hx
  cases hroom : Nat.ble (sl + n) sc
  rotate_left
  · rw [hroom] at hm5; simp [M.fail] at hm5
  rw [hroom, cond_false, cond_beq] at hm5
  split at hm5
  · simp [M.fail] at hm5
  rename_i hn0
  have hroom2 : sc < sl + n := by
    rcases Nat.lt_or_ge sc (sl + n) with h | h
    · exact h
    · rw [Nat.ble_eq_true_of_le h] at hroom; cases hroom
  cases slice_rel hx with
  | @mk _ sb' _ _ sc' hab hcap =>
  have hscc : sc' = sc := by rcases hcap with ⟨h, _⟩ | ⟨_, h⟩ | ⟨h, _⟩ <;> first | exact h | omega
  subst hscc
  unfold appGrow at hm5
  obtain ⟨olds, s4, holds, hm7⟩ := bind_some hm5
  obtain ⟨nb, s5, hnb, hm8⟩ := bind_some hm7
  obtain ⟨rfl, rfl⟩ := pure_some hm8
  obtain ⟨f1, f2, f3, olds', f4, f5, f6⟩ := aFirst_ok hab hr holds
  have hr2 : Rel P w0 ι s4 w := hr.congr f1
  have hfree : Free ι s4.next s'.next := by rw [f2]; exact hf
  obtain ⟨rfl, e6, e7⟩ := newB_some hnb
  have hfn : ι s4.next = none := hfree _ (Nat.le_refl _) (by omega)
  obtain ⟨g, hgd⟩ : ∃ g, g = grownCap w (sl + n) sc' e := ⟨_, rfl⟩
  have hge := grownCap_ge w (sl + n) sc' e
  rw [← hgd] at hge
  have hol : olds'.length = sl * ie.size := by rw [← f4.1, f3]
  have hold : (Builtin.firstCells ie.size sl (.slice sb' sl sc')).run P w.drew = .ok olds'.toArray w.drew := by
    cases hab with
    | none => rw [f5 rfl]; exact run_firstCells_none ..
    | some hib => exact run_firstCells_some w.drew ie.size sl _ sl sc' olds' hol (f6 _ rfl)
  have hrun := Go.Lib.run_append_grow_zeros (P := P) w ts tx ty e ie zv kq kn hu hux hie hzv sb' sl sc' olds' hold n (by omega) (by omega) hroom2 (by omega)
    (by have := Nat.mul_le_mul (show n ≤ 1000000 by omega) hby; omega) (nextcap_fits hroom2 c3n hby)
  rw [← hgd] at hrun
  have hz1 : Builtin.zeroCells zv.cells n = ⟨zerosL z (n * ie.size)⟩ := by
    unfold Builtin.zeroCells
    rw [hzc, zerosL_eq, show (⟨z⟩ : Array Value).size = z.length from rfl, hzl]
  have hzl2 : (zerosL z (n * ie.size)).length = n * ie.size := by simp [zerosL]
  have hzl3 : (Builtin.zeroCells zv.cells (g - (sl + n))).toList.length = (g - (sl + n)) * ie.size := by
    rw [hzc]
    have := zc_length z (g - (sl + n))
    rw [hzl] at this
    exact this
  have hcc : olds'.toArray ++ Builtin.zeroCells zv.cells n ++ Builtin.zeroCells zv.cells (g - (sl + n)) = ⟨olds' ++ zerosL z (n * ie.size) ++ (Builtin.zeroCells zv.cells (g - (sl + n))).toList⟩ := by
    rw [hz1]
    apply Array.ext'; simp
  have hlr : LR ι (olds ++ zerosL z (n * ie.size)) (olds' ++ zerosL z (n * ie.size)) := f4.append (LR.plain (zerosL_plain hpl _))
  have hbr : BR P ι g (.cells (olds ++ zerosL z (n * ie.size)) e true) (some (.cells ⟨olds' ++ zerosL z (n * ie.size) ++ (Builtin.zeroCells zv.cells (g - (sl + n))).toList⟩ e)) := by
    refine ⟨_, rfl, ?_, (fun h => by cases h), fun _ => ?_⟩
    · rw [hlr.1, List.take_left]
      exact hlr
    · rw [cellsOf_info hie, List.length_append, List.length_append, hol, hzl2, hzl3, ← Nat.add_mul, ← Nat.add_mul]
      congr 1
      omega
  refine ⟨ι.add s4.next w.heap.size g, _, _, by rw [hrun, hcc]; rfl, .slice (Re.add_self ..) (Or.inr ⟨Nat.le_refl _, hge, fun _ => rfl⟩), hr2.drew.new hfn hbr e6, by rw [e7, f2]; exact Nat.le_succ _, by rw [e7, f2]; exact Re.add_grow ι _ _ _⟩

def aBuiltin (P : Program) (b : Builtin) (ts : List TypeId) (vs : List Value) : M Value := match b with
  | .append => match ts, vs with
    | [t, u], [x, y] => match P.underlying u with
      | some (.int _) => aAppendZ P t u x y
      | _ => aAppend P t u x y
    | _, _ => M.fail
  | .copy => match ts, vs with
    | [t, _], [x, y] => aCopy P t x y
    | _, _ => M.fail
  | .len => match ts, vs with
    | [t], [x] => lift (aLen P t x)
    | _, _ => M.fail
  | .cap => match ts, vs with
    | [t], [x] => lift (aCap P t x)
    | _, _ => M.fail
  | .min => match vs with
    | x :: l => lift (aMost false l x)
    | _ => M.fail
  | .max => match vs with
    | x :: l => lift (aMost true l x)
    | _ => M.fail
  | _ => M.fail
/-- The same, of a step of the machine that may yield nothing. -/
def NOK (P : Program) (w0 : World) (ι : Re) (S : Sem Next) (m : M Value) : Prop := ∀ s w v s', Rel P w0 ι s w → m s = some (v, s') → Free ι s.next s'.next →
  ∃ ι' nx v' w', S.run P w = .ok nx w' ∧ (nx = .value v' ∨ (nx = .skip ∧ v' = undef)) ∧ VR ι' v v' ∧ Rel P w0 ι' s' w' ∧ s.next ≤ s'.next ∧ Grow ι ι' s.next s'.next
theorem VOK.nok {S : Sem Value} {m : M Value} (h : VOK P w0 ι S m) : NOK P w0 ι (Bind.bind S fun x => Pure.pure (Next.value x)) m := fun s w v s' hr hm hf => by
  obtain ⟨ι', v', w', h1, h2⟩ := h s w v s' hr hm hf
  exact ⟨ι', .value v', v', w', by simp [h1], Or.inl rfl, h2⟩
theorem NOK.fail {S : Sem Next} : NOK P w0 ι S M.fail := fun s w x s' hr hm hf => by simp [M.fail] at hm
theorem aBuiltin_ok (b : Builtin) (ts : Array TypeId) (ty : TypeId) (consts : Array Bool) {vs : List Value} {vs' : Array Value} (hv : LR ι vs vs'.toList) : NOK P w0 ι (builtin b ts ty consts vs') (aBuiltin P b ts.toList vs) := by
  obtain ⟨vs'⟩ := vs'
  obtain ⟨ts⟩ := ts
  simp only at hv ⊢
  cases b <;> try exact NOK.fail
  case append =>
    simp only [aBuiltin]
    split
    · rename_i t u x y
      match vs', hv with
      | [x', y'], hv =>
        split
        · exact (aAppendZ_ok t u ty (hv.2 0 x x' rfl rfl) (hv.2 1 y y' rfl rfl)).nok
        · exact (aAppend_ok t u ty (hv.2 0 x x' rfl rfl) (hv.2 1 y y' rfl rfl)).nok
      | [], hv => have := hv.1; simp at this
      | [_], hv => have := hv.1; simp at this
      | _ :: _ :: _ :: _, hv => have := hv.1; simp at this
    · exact NOK.fail
  case copy =>
    simp only [aBuiltin]
    split
    · rename_i t u x y
      match vs', hv with
      | [x', y'], hv => exact (aCopy_ok t u ty (hv.2 0 x x' rfl rfl) (hv.2 1 y y' rfl rfl)).nok
      | [], hv => have := hv.1; simp at this
      | [_], hv => have := hv.1; simp at this
      | _ :: _ :: _ :: _, hv => have := hv.1; simp at this
    · exact NOK.fail
  case len =>
    simp only [aBuiltin]
    split
    · rename_i t x
      match vs', hv with
      | [x'], hv => exact (aLen_ok t ty (hv.2 0 x x' rfl rfl)).nok
      | [], hv => have := hv.1; simp at this
      | _ :: _ :: _, hv => have := hv.1; simp at this
    · exact NOK.fail
  case cap =>
    simp only [aBuiltin]
    split
    · rename_i t x
      match vs', hv with
      | [x'], hv => exact (aCap_ok t ty (hv.2 0 x x' rfl rfl)).nok
      | [], hv => have := hv.1; simp at this
      | _ :: _ :: _, hv => have := hv.1; simp at this
    · exact NOK.fail
  case min =>
    simp only [aBuiltin]
    split
    · rename_i x l
      refine (VOK.lift (S := Builtin.min_ ⟨ts⟩ ty ⟨vs'⟩) fun v hm => ?_).nok
      obtain ⟨p1, p2⟩ := most_data false l x v hm
      obtain ⟨⟨k, n, rfl⟩, hw⟩ := aMost_run (P := P) false l x _ hm
      have := hv.plain_eq (by simp [p1, p2])
      subst this
      exact ⟨_, fun w => hw w, .plain rfl⟩
    · exact NOK.fail
  case max =>
    simp only [aBuiltin]
    split
    · rename_i x l
      refine (VOK.lift (S := Builtin.max_ ⟨ts⟩ ty ⟨vs'⟩) fun v hm => ?_).nok
      obtain ⟨p1, p2⟩ := most_data true l x v hm
      obtain ⟨⟨k, n, rfl⟩, hw⟩ := aMost_run (P := P) true l x _ hm
      have := hv.plain_eq (by simp [p1, p2])
      subst this
      exact ⟨_, fun w => hw w, .plain rfl⟩
    · exact NOK.fail
end
end Go.Proofs.YtnpbnpilhmbpoaaGreat

/- The closed run: maps by whole numbers; comparing; all operations. -/
namespace Go.Proofs.YtnpbnpilhmbpoaaGreat
open Go.RowKit

def intOf2 : Value → Option (IntKind × Int)
  | .int k n => some (k, n)
  | _ => none
theorem intOf2_some {v : Value} {r : IntKind × Int} (h : intOf2 v = some r) : v = .int r.1 r.2 := by
  cases v <;> simp [intOf2] at h
  subst h; rfl
def mapB : Blk → Option (List (Int × Value))
  | .map es => some es
  | _ => none
def mapRef : Value → Option Nat
  | .map r => r
  | _ => none
theorem mapRef_some {v : Value} {b : Nat} (h : mapRef v = some b) : v = .map (some b) := by
  cases v <;> simp [mapRef] at h
  subst h; rfl
def findE (k : Int) : List (Int × Value) → Option Value
  | [] => none
  | e :: l => match decEq e.1 k with
    | isTrue _ => some e.2
    | isFalse _ => findE k l

section
variable {P : Program} {w0 : World} {ι : Re}
def MR (ι : Re) (es : List (Int × Value)) (ms : List MapEntry) : Prop := ms.length = es.length ∧ ∀ (i : Nat) (e : Int × Value) (m : MapEntry), es[i]? = some e → ms[i]? = some m → m.key = .int .i64 e.1 ∧ VR ι e.2 m.val
theorem MR.tail {e : Int × Value} {m : MapEntry} {es : List (Int × Value)} {ms : List MapEntry} (h : MR ι (e :: es) (m :: ms)) : MR ι es ms := ⟨by simpa using h.1, fun i e m a b => h.2 (i + 1) e m (by simpa using a) (by simpa using b)⟩
theorem MR.push {es : List (Int × Value)} {ms : List MapEntry} (h : MR ι es ms) {k : Int} {v v' : Value} {c : Nat} (hv : VR ι v v') : MR ι (es ++ [(k, v)]) (ms ++ [{ key := .int .i64 k, val := v', born := c }]) := by
  refine ⟨by simp [h.1], fun i e m a b => ?_⟩
  rcases Nat.lt_or_ge i es.length with hi | hi
  · rw [List.getElem?_append_left hi] at a
    rw [List.getElem?_append_left (by rw [h.1]; exact hi)] at b
    exact h.2 i e m a b
  · rw [List.getElem?_append_right hi] at a
    rw [List.getElem?_append_right (by rw [h.1]; exact hi), h.1] at b
    cases hd : i - es.length with
    | zero => rw [hd] at a b; simp at a b; subst a; subst b; exact ⟨rfl, hv⟩
    | succ n => rw [hd] at a; simp at a
theorem findE_none (q : IntKind) (k : Int) : ∀ (es : List (Int × Value)) (ms : List MapEntry) (i : Nat), MR ι es ms → findE k es = none → Instr.findNow (.int q) (.int .i64 k) ms i = some none
  | [], [], _, _, _ => rfl
  | [], _ :: _, _, h, _ => by have := h.1; simp at this
  | _ :: _, [], _, h, _ => by have := h.1; simp at this
  | e :: es, m :: ms, i, h, hk => by
    have h0 := h.2 0 e m rfl rfl
    unfold findE at hk
    split at hk
    · cases hk
    · rename_i hne _
      have h2 : (k == e.1) = false := by simpa using fun e' => hne e'.symm
      simp only [Instr.findNow, h0.1, Instr.sameNow, if_true, h2]
      exact findE_none q k es ms (i + 1) h.tail hk
theorem findE_some (q : IntKind) (k : Int) (v : Value) : ∀ (es : List (Int × Value)) (ms : List MapEntry) (i : Nat), MR ι es ms → findE k es = some v → ∃ j v', Instr.findNow (.int q) (.int .i64 k) ms i = some (some (j, v')) ∧ VR ι v v'
  | [], [], _, _, h => by simp [findE] at h
  | [], _ :: _, _, h, _ => by have := h.1; simp at this
  | _ :: _, [], _, h, _ => by have := h.1; simp at this
  | e :: es, m :: ms, i, h, hk => by
    have h0 := h.2 0 e m rfl rfl
    unfold findE at hk
    split at hk
    · rename_i heq _
      simp only [Option.some.injEq] at hk
      subst hk
      have h2 : (k == e.1) = true := by simp [heq]
      exact ⟨i, m.val, by simp only [Instr.findNow, h0.1, Instr.sameNow, if_true, h2], h0.2⟩
    · rename_i hne _
      have h2 : (k == e.1) = false := by simpa using fun e' => hne e'.symm
      obtain ⟨j, v', h3, h4⟩ := findE_some q k v es ms (i + 1) h.tail hk
      exact ⟨j, v', by simp only [Instr.findNow, h0.1, Instr.sameNow, if_true, h2]; exact h3, h4⟩
theorem checkKey_i (e : Bool) (n : Nat) {t : TypeId} {q : IntKind} (hu : P.underlying t = some (.int q)) (k : Int) (w : World) : (Instr.checkKey e (n + 1) t (.int .i64 k)).run P w = .ok () w := by
  unfold Instr.checkKey
  simp [Sem.run_bind, run_underlying hu]

def mapT (P : Program) (t : TypeId) : Option TypeId := match P.underlying t with
  | some (.map kt et) => match P.underlying kt with
    | some (.int _) => some et
    | _ => none
  | _ => none
theorem mapT_some {t et : TypeId} (h : mapT P t = some et) : ∃ kt q, P.underlying t = some (.map kt et) ∧ P.underlying kt = some (.int q) := by
  unfold mapT at h
  split at h
  · rename_i kt et' hu
    split at h
    · rename_i q hk
      simp only [Option.some.injEq] at h
      subst h
      exact ⟨kt, q, hu, hk⟩
    · cases h
  · cases h
def aMakeMap : M Value := M.bind (newB (.map [])) fun b => M.pure (.map (some b))
theorem aMakeMap_ok (t : TypeId) : VOK P w0 ι (Instr.makeMap t none) aMakeMap := fun s w v s' hr hm hf => by
  unfold aMakeMap at hm
  obtain ⟨b, s1, h1, hm1⟩ := bind_some hm
  obtain ⟨rfl, rfl⟩ := pure_some hm1
  obtain ⟨rfl, e2, e3⟩ := newB_some h1
  have hn : ι s.next = none := hf _ (Nat.le_refl _) (by omega)
  have hbr : BR P ι 0 (.map []) (some (.map ⟨[]⟩ 0)) := ⟨[], 0, rfl, rfl, fun i e m a => by simp at a⟩
  exact ⟨ι.add s.next w.heap.size 0, .map (some w.heap.size), _, rfl, .map (Re.add_self ..), hr.new hn hbr e2, by omega, by rw [e3]; exact Re.add_grow ι _ _ _⟩
def aMapSet (P : Program) (t : TypeId) (m k v : Value) : M Unit := M.bind (lift (mapT P t)) fun _ => M.bind (lift (mapRef m)) fun b => M.bind (lift (intOf2 k)) fun kn => match kn.1 with
  | .i64 => M.bind (getB b) fun blk => M.bind (lift (mapB blk)) fun es => match findE kn.2 es with
    | none => setB b (some (.map (es ++ [(kn.2, v)])))
    | some _ => M.fail
  | _ => M.fail
theorem aMapSet_ok (t : TypeId) {m m' k k' v v' : Value} (hm0 : VR ι m m') (hk : VR ι k k') (hv : VR ι v v') : UOK P w0 ι (Instr.mapUpdate t m' k' v') (aMapSet P t m k v) := fun s w u s' hr hm hf => by
  unfold aMapSet at hm
  obtain ⟨et, s0, h0, hm1⟩ := bind_some hm
  obtain ⟨ht, rfl⟩ := lift_some h0
  obtain ⟨kt, q, hu, hkt⟩ := mapT_some ht
  obtain ⟨b, s1, h1, hm2⟩ := bind_some hm1
  obtain ⟨hb, rfl⟩ := lift_some h1
  have hb := mapRef_some hb
  subst hb
  obtain ⟨⟨kk, n⟩, s2, h2, hm3⟩ := bind_some hm2
  obtain ⟨hkn, rfl⟩ := lift_some h2
  have hkn := intOf2_some hkn
  subst hkn
  have hk' := hk.plain_eq rfl
  subst hk'
  cases kk <;> try (simp [M.fail] at hm3; done)
  simp only at hm3
  obtain ⟨blk, s3, h3, hm4⟩ := bind_some hm3
  obtain ⟨e1, e2, e3⟩ := getB_some h3
  obtain ⟨es, s4, h4, hm5⟩ := bind_some hm4
  obtain ⟨hes, rfl⟩ := lift_some h4
  cases blk with
  | cells => simp [mapB] at hes
  | map es' =>
    simp only [mapB, Option.some.injEq] at hes
    subst hes
    cases hfe : findE n es' with
    | some x => simp [hfe, M.fail] at hm5
    | none =>
      simp only [hfe] at hm5
      obtain ⟨e4, e5⟩ := setB_some hm5
      cases hm0 with
      | plain h => simp [plainV] at h
      | @map _ b' g hi =>
        obtain ⟨-, ms, clk, hb', hml, hmv⟩ := blk_at hr e1 hi
        have hmr : MR ι es' ms := ⟨hml, hmv⟩
        have hf1 := findE_none q n es' ms 0 hmr hfe
        refine ⟨ι, putO w b' (.map ⟨ms ++ [{ key := .int .i64 n, val := v', born := clk }]⟩ (clk + 1)), ?_, ?_, by rw [e5, e3]; exact Nat.le_refl _, Grow.refl ι _ _⟩
        · unfold Instr.mapUpdate
          simp only [Sem.run_bind, run_underlying hu, Result.andThen_ok, MapKept.run_getObj_map hb', checkKey_i false 9999 hkt n, Instr.findKey, run_underlying hkt, hf1, Sem.run_pure, MapKept.run_setObj_map _ hb']
          simp [putO]
        · have hmr2 := hmr.push (k := n) (c := clk) hv
          exact hr.put e1 hi (k' := .map (es' ++ [(n, v)])) ⟨_, _, rfl, hmr2.1, hmr2.2⟩ (fun d => by rw [e4, e2])
def aLookup (P : Program) (t : TypeId) (m k : Value) (ok : Bool) : M Value := M.bind (lift (mapT P t)) fun et => M.bind (lift (mapRef m)) fun b => M.bind (lift (intOf2 k)) fun kn => match kn.1 with
  | .i64 => M.bind (getB b) fun blk => M.bind (lift (mapB blk)) fun es => match findE kn.2 es with
    | some v => M.pure (cond ok (.tuple ⟨[v, .bool true]⟩) v)
    | none => M.bind (lift ((P.info? et).bind (·.zero))) fun z => cond (flatV z) (M.pure (cond ok (.tuple ⟨[z, .bool false]⟩) z)) M.fail
  | _ => M.fail
theorem aLookup_ok (t : TypeId) (ok : Bool) {m m' k k' : Value} (hm0 : VR ι m m') (hk : VR ι k k') : VOK P w0 ι (Instr.lookup t m' k' ok) (aLookup P t m k ok) := fun s w u s' hr hm hf => by
  unfold aLookup at hm
  obtain ⟨et, s0, h0, hm1⟩ := bind_some hm
  obtain ⟨ht, rfl⟩ := lift_some h0
  obtain ⟨kt, q, hu, hkt⟩ := mapT_some ht
  obtain ⟨b, s1, h1, hm2⟩ := bind_some hm1
  obtain ⟨hb, rfl⟩ := lift_some h1
  have hb := mapRef_some hb
  subst hb
  obtain ⟨⟨kk, n⟩, s2, h2, hm3⟩ := bind_some hm2
  obtain ⟨hkn, rfl⟩ := lift_some h2
  have hkn := intOf2_some hkn
  subst hkn
  have hk' := hk.plain_eq rfl
  subst hk'
  cases kk <;> try (simp [M.fail] at hm3; done)
  simp only at hm3
  obtain ⟨blk, s3, h3, hm4⟩ := bind_some hm3
  obtain ⟨e1, e2, e3⟩ := getB_some h3
  obtain ⟨es, s4, h4, hm5⟩ := bind_some hm4
  obtain ⟨hes, rfl⟩ := lift_some h4
  cases blk with
  | cells => simp [mapB] at hes
  | map es' =>
    simp only [mapB, Option.some.injEq] at hes
    subst hes
    cases hm0 with
    | plain h => simp [plainV] at h
    | @map _ b' g hi =>
      obtain ⟨-, ms, clk, hb', hml, hmv⟩ := blk_at hr e1 hi
      have hmr : MR ι es' ms := ⟨hml, hmv⟩
      have hr2 : Rel P w0 ι s4 w := hr.congr fun d => by rw [e2]
      cases hfe : findE n es' with
      | some v =>
        simp only [hfe] at hm5
        obtain ⟨rfl, rfl⟩ := pure_some hm5
        obtain ⟨j, v', hf1, hv'⟩ := findE_some q n v es' ms 0 hmr hfe
        refine ⟨ι, cond ok (.tuple ⟨[v', .bool true]⟩) v', w, ?_, ?_, hr2, by rw [e3]; exact Nat.le_refl _, Grow.refl ι _ _⟩
        · unfold Instr.lookup
          simp only [Sem.run_bind, run_underlying hu, Result.andThen_ok, MapKept.run_getObj_map hb', Sem.run_pure, checkKey_i _ 9999 hkt n, Instr.findKey, run_underlying hkt, hf1]
          cases ok <;> rfl
        · cases ok
          · exact hv'
          · exact (LR.cons hv' (.cons (.plain rfl) .nil)).tupleV
      | none =>
        simp only [hfe] at hm5
        obtain ⟨z, s5, h5, hm6⟩ := bind_some hm5
        obtain ⟨hz, rfl⟩ := lift_some h5
        obtain ⟨c1, hm7⟩ := cond_fail hm6
        obtain ⟨rfl, rfl⟩ := pure_some hm7
        have hf1 := findE_none q n es' ms 0 hmr hfe
        have hzr : (zeroValue et).run P w = .ok z w := by
          unfold zeroValue typeInfo
          cases hi2 : P.info? et with
          | none => simp [hi2] at hz
          | some i => simp [hi2] at hz; simp [Sem.run_bind, hi2, hz]
        refine ⟨ι, cond ok (.tuple ⟨[z, .bool false]⟩) z, w, ?_, ?_, hr2, by rw [e3]; exact Nat.le_refl _, Grow.refl ι _ _⟩
        · unfold Instr.lookup
          simp only [Sem.run_bind, run_underlying hu, Result.andThen_ok, MapKept.run_getObj_map hb', Sem.run_pure, checkKey_i _ 9999 hkt n, Instr.findKey, run_underlying hkt, hf1, hzr]
          cases ok <;> rfl
        · cases ok
          · exact .flat c1
          · exact (LR.cons (.flat c1) (.cons (.plain rfl) .nil)).tupleV

/-! Comparing. -/
def aggOf : Value → Option (List Value)
  | .agg ⟨l⟩ => some l
  | _ => none
def litEq : Lit → Lit → Option Bool
  | .bool a, .bool b => some (a == b)
  | .int j a, .int k b => match decEq j k with
    | isTrue _ => match decEq a b with
      | isTrue _ => some true
      | isFalse _ => some false
    | isFalse _ => some false
  | _, _ => none
theorem litEq_some {a b : Lit} {r : Bool} (h : litEq a b = some r) : (r = true ↔ a = b) := by
  cases a <;> cases b <;> simp only [litEq] at h <;> try (cases h; done)
  · simp only [Option.some.injEq] at h; subst h; simp
  · split at h
    · rename_i hj _
      split at h
      · rename_i hab _; simp only [Option.some.injEq] at h; subst h; simp [hj, hab]
      · rename_i hab _; simp only [Option.some.injEq] at h; subst h; simp [hab]
    · rename_i hj _; simp only [Option.some.injEq] at h; subst h; simp [hj]
def litsEq : List Lit → List Lit → Option Bool
  | [], [] => some true
  | a :: l, b :: m => match litEq a b with
    | some true => litsEq l m
    | some false => match litsEq l m with
      | some _ => some false
      | none => none
    | none => none
  | [], _ :: _ => some false
  | _ :: _, [] => some false
theorem litsEq_some : ∀ {a b : List Lit} {r : Bool}, litsEq a b = some r → (r = true ↔ a = b)
  | [], [], r, h => by simp only [litsEq, Option.some.injEq] at h; subst h; simp
  | [], _ :: _, r, h => by simp only [litsEq, Option.some.injEq] at h; subst h; simp
  | _ :: _, [], r, h => by simp only [litsEq, Option.some.injEq] at h; subst h; simp
  | a :: l, b :: m, r, h => by
    unfold litsEq at h
    split at h
    · rename_i hab
      have := litEq_some hab
      have h2 := litsEq_some h
      simp only [true_iff] at this
      rw [h2, this]
      simp
    · rename_i hab
      have := litEq_some hab
      split at h
      · simp only [Option.some.injEq] at h
        subst h
        simp at this
        simp [this]
      · cases h
    · cases h
def aEqAgg (P : Program) (t : TypeId) (l1 l2 : List Value) : Option Bool :=
  cond (P.keyTypeAt 12 t) (cond (P.eqGuardType P.depth t) none (cond ((Value.agg ⟨l1⟩).formed P t) (cond ((Value.agg ⟨l2⟩).formed P t) (match P.keyLits 12 t l1, P.keyLits 12 t l2 with
    | some a, some b => litsEq a b
    | _, _ => none) none) none)) none
theorem aEqAgg_run {t : TypeId} {l1 l2 : List Value} {r : Bool} (h : aEqAgg P t l1 l2 = some r) : P.eqGuardType P.depth t = false ∧ ∀ w, (Op.equal t (.agg ⟨l1⟩) (.agg ⟨l2⟩)).run P w = .ok r w := by
  unfold aEqAgg at h
  cases h1 : P.keyTypeAt 12 t
  · simp [h1] at h
  cases h2 : P.eqGuardType P.depth t
  rotate_left
  · simp [h1, h2] at h
  cases h3 : (Value.agg ⟨l1⟩).formed P t
  · simp [h1, h2, h3] at h
  cases h4 : (Value.agg ⟨l2⟩).formed P t
  · simp [h1, h2, h3, h4] at h
  simp only [h1, h2, h3, h4, cond_true, cond_false] at h
  split at h
  · rename_i a b ha hb
    refine ⟨rfl, fun w => ?_⟩
    obtain ⟨x, hx, hi⟩ := run_equalIn_deep (P := P) (10000 - 12) 12 t h1 w 12 12 _ _ a b h3 h4 ha hb
    unfold Op.equal Op.maxDepth
    rw [show 10000 - 12 + 12 = 10000 from rfl] at hx
    rw [hx]
    have h5 := litsEq_some h
    rw [← hi] at h5
    congr 1
    cases x <;> cases r <;> first | rfl | (simp at h5)
  · cases h
/-- Is one of them nothing, and are both? -/
def aNil (P : Program) (t : TypeId) (x y : Value) : Option Bool := match P.underlying t with
  | some (.pointer _) => match x, y with
    | .pointer none, .pointer b => some b.isNone
    | .pointer (some _), .pointer none => some false
    | _, _ => none
  | some (.slice _) => match x, y with
    | .slice none _ _, .slice b _ _ => some b.isNone
    | .slice (some _) _ _, .slice none _ _ => some false
    | _, _ => none
  | some (.map _ _) => match x, y with
    | .map none, .map b => some b.isNone
    | .map (some _), .map none => some false
    | _, _ => none
  | some (.func _ _ _) => match x, y with
    | .nilFunc, .nilFunc => some true
    | .nilFunc, .func _ _ _ => some false
    | .func _ _ _, .nilFunc => some false
    | _, _ => none
  | _ => none
theorem ptr_rel {a : Option Addr} {y : Value} (h : VR ι (.pointer a) y) : ∃ a', y = .pointer a' ∧ a'.isNone = a.isNone := by
  cases h with
  | plain h => exact ⟨a, rfl, rfl⟩
  | ptr h => exact ⟨_, rfl, rfl⟩
theorem map_rel {a : Option Nat} {y : Value} (h : VR ι (.map a) y) : ∃ a', y = .map a' ∧ a'.isNone = a.isNone := by
  cases h with
  | plain h => exact ⟨a, rfl, rfl⟩
  | map h => exact ⟨_, rfl, rfl⟩
theorem slice_rel2 {a : Option Addr} {n c : Nat} {y : Value} (h : VR ι (.slice a n c) y) : ∃ a' c', y = .slice a' n c' ∧ a'.isNone = a.isNone := by
  cases h with
  | plain h => exact ⟨a, c, rfl, rfl⟩
  | slice h _ => exact ⟨_, _, rfl, rfl⟩
theorem func_rel {fn : Fn} {a b : Array Value} {y : Value} (h : VR ι (.func fn a b) y) : ∃ a' b', y = .func fn a' b' := by
  cases h with
  | plain h => exact ⟨a, b, rfl⟩
  | func _ _ _ _ => exact ⟨_, _, rfl⟩
theorem aNil_run {t : TypeId} {x y x' y' : Value} {r : Bool} (d : Nat) (h : aNil P t x y = some r) (hx : VR ι x x') (hy : VR ι y y') (w : World) : (Op.equalIn (d + 1) t x' y').run P w = .ok r w ∧ (∀ op a b, (eqGuard op t a b x' y').run P w = .ok () w) ∧ (∀ op, op = .eql ∨ op = .neq → binOp op t x' y' = (match op with | .eql => Bind.bind (Op.equal t x' y') fun b => Pure.pure (.bool b) | _ => Bind.bind (Op.equal t x' y') fun b => Pure.pure (.bool (!b)))) := by
  unfold aNil at h
  cases hu : P.underlying t with
  | none => simp [hu] at h
  | some d =>
    cases d <;> simp only [hu] at h <;> try (cases h; done)
    case pointer e =>
      split at h
      · obtain ⟨a, rfl, h1⟩ := ptr_rel hx
        obtain ⟨b, rfl, h2⟩ := ptr_rel hy
        simp only [Option.some.injEq] at h
        subst h
        cases a <;> simp at h1
        refine ⟨by simp [Op.equalIn, Sem.run_bind, run_underlying hu, h2], fun op a b => by unfold eqGuard; cases op <;> rfl, fun op ho => by rcases ho with rfl | rfl <;> rfl⟩
      · obtain ⟨a, rfl, h1⟩ := ptr_rel hx
        obtain ⟨b, rfl, h2⟩ := ptr_rel hy
        simp only [Option.some.injEq] at h
        subst h
        cases b <;> simp at h2
        cases a <;> simp at h1
        refine ⟨by simp [Op.equalIn, Sem.run_bind, run_underlying hu], fun op a b => by unfold eqGuard; cases op <;> rfl, fun op ho => by rcases ho with rfl | rfl <;> rfl⟩
      · cases h
    case slice e =>
      split at h
      · obtain ⟨a, c1, rfl, h1⟩ := slice_rel2 hx
        obtain ⟨b, c2, rfl, h2⟩ := slice_rel2 hy
        simp only [Option.some.injEq] at h
        subst h
        cases a <;> simp at h1
        refine ⟨by simp [Op.equalIn, Sem.run_bind, run_underlying hu, h2], fun op a b => by unfold eqGuard; cases op <;> rfl, fun op ho => by rcases ho with rfl | rfl <;> rfl⟩
      · obtain ⟨a, c1, rfl, h1⟩ := slice_rel2 hx
        obtain ⟨b, c2, rfl, h2⟩ := slice_rel2 hy
        simp only [Option.some.injEq] at h
        subst h
        cases b <;> simp at h2
        cases a <;> simp at h1
        refine ⟨by simp [Op.equalIn, Sem.run_bind, run_underlying hu], fun op a b => by unfold eqGuard; cases op <;> rfl, fun op ho => by rcases ho with rfl | rfl <;> rfl⟩
      · cases h
    case map kt et =>
      split at h
      · obtain ⟨a, rfl, h1⟩ := map_rel hx
        obtain ⟨b, rfl, h2⟩ := map_rel hy
        simp only [Option.some.injEq] at h
        subst h
        cases a <;> simp at h1
        refine ⟨by simp [Op.equalIn, Sem.run_bind, run_underlying hu, h2], fun op a b => by unfold eqGuard; cases op <;> rfl, fun op ho => by rcases ho with rfl | rfl <;> rfl⟩
      · obtain ⟨a, rfl, h1⟩ := map_rel hx
        obtain ⟨b, rfl, h2⟩ := map_rel hy
        simp only [Option.some.injEq] at h
        subst h
        cases b <;> simp at h2
        cases a <;> simp at h1
        refine ⟨by simp [Op.equalIn, Sem.run_bind, run_underlying hu], fun op a b => by unfold eqGuard; cases op <;> rfl, fun op ho => by rcases ho with rfl | rfl <;> rfl⟩
      · cases h
    case func ps rs v =>
      split at h
      · have := hx.plain_eq rfl
        have := hy.plain_eq rfl
        subst_vars
        simp only [Option.some.injEq] at h
        subst h
        refine ⟨by simp [Op.equalIn, Sem.run_bind, run_underlying hu], fun op a b => by unfold eqGuard; cases op <;> rfl, fun op ho => by rcases ho with rfl | rfl <;> rfl⟩
      · have := hx.plain_eq rfl
        subst this
        obtain ⟨a, b, rfl⟩ := func_rel hy
        simp only [Option.some.injEq] at h
        subst h
        refine ⟨by simp [Op.equalIn, Sem.run_bind, run_underlying hu], fun op a b => by unfold eqGuard; cases op <;> rfl, fun op ho => by rcases ho with rfl | rfl <;> rfl⟩
      · have := hy.plain_eq rfl
        subst this
        obtain ⟨a, b, rfl⟩ := func_rel hx
        simp only [Option.some.injEq] at h
        subst h
        refine ⟨by simp [Op.equalIn, Sem.run_bind, run_underlying hu], fun op a b => by unfold eqGuard; cases op <;> rfl, fun op ho => by rcases ho with rfl | rfl <;> rfl⟩
      · cases h
end
end Go.Proofs.YtnpbnpilhmbpoaaGreat
