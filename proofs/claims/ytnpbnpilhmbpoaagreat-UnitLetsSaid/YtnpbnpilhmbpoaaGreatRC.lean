/- The closed run, third part: operations, rows in any order, code, calls. -/
import Derived.Test.YtnpbnpilhmbpoaaGreatRB
import Derived.Conc.MuLone
import Derived.OrdersHeld
import Derived.LoopN
set_option linter.unusedVariables false

/- The closed run: all operations at once, and calls. -/
namespace Go.Proofs.YtnpbnpilhmbpoaaGreat
open Go.RowKit

abbrev Ev := Operand → Option Value
def evL (ev : Ev) : List Operand → Option (List Value)
  | [] => some []
  | x :: l => match ev x with
    | none => none
    | some v => match evL ev l with
      | none => none
      | some r => some (v :: r)
def evPs (ev : Ev) : List (Nat × Operand) → Option (List (Nat × Value))
  | [] => some []
  | (i, x) :: l => match ev x with
    | none => none
    | some v => match evPs ev l with
      | none => none
      | some r => some ((i, v) :: r)
def evO (ev : Ev) : Option Operand → Option (Option Value)
  | none => some none
  | some x => match ev x with
    | none => none
    | some v => some (some v)
def EvR (ι : Re) (ev : Ev) (ρ : Operand → Value) : Prop := ∀ x v, ev x = some v → VR ι v (ρ x)
theorem evL_rel {ι : Re} {ev : Ev} {ρ : Operand → Value} (h : EvR ι ev ρ) : ∀ (l : List Operand) (r : List Value), evL ev l = some r → LR ι r (l.map ρ)
  | [], r, hr => by simp only [evL, Option.some.injEq] at hr; subst hr; exact LR.nil
  | x :: l, r, hr => by
    unfold evL at hr
    cases hx : ev x with
    | none => simp [hx] at hr
    | some v =>
      cases hl : evL ev l with
      | none => simp [hx, hl] at hr
      | some r' => simp only [hx, hl, Option.some.injEq] at hr; subst hr; exact .cons (h x v hx) (evL_rel h l r' hl)
theorem evPs_rel {ι : Re} {ev : Ev} {ρ : Operand → Value} (h : EvR ι ev ρ) : ∀ (l : List (Nat × Operand)) (r : List (Nat × Value)), evPs ev l = some r → PR ι r (l.map fun (i, x) => (i, ρ x))
  | [], r, hr => by simp only [evPs, Option.some.injEq] at hr; subst hr; exact ⟨rfl, fun i p p' a => by simp at a⟩
  | (i, x) :: l, r, hr => by
    unfold evPs at hr
    cases hx : ev x with
    | none => simp [hx] at hr
    | some v =>
      cases hl : evPs ev l with
      | none => simp [hx, hl] at hr
      | some r' =>
        simp only [hx, hl, Option.some.injEq] at hr
        subst hr
        obtain ⟨h1, h2⟩ := evPs_rel h l r' hl
        refine ⟨by simp [h1], fun j p p' a b => ?_⟩
        cases j with
        | zero => simp at a b; subst a; subst b; exact ⟨rfl, h x v hx⟩
        | succ j => simp at a b; exact h2 j p p' a (by simpa using b)
theorem evO_rel {ι : Re} {ev : Ev} {ρ : Operand → Value} (h : EvR ι ev ρ) (x : Option Operand) (r : Option Value) (hr : evO ev x = some r) : ORel ι r (x.map ρ) := by
  cases x with
  | none => simp only [evO, Option.some.injEq] at hr; subst hr; trivial
  | some x =>
    unfold evO at hr
    cases hx : ev x with
    | none => simp [hx] at hr
    | some v => simp only [hx, Option.some.injEq] at hr; subst hr; exact h x v hx

def plainO (o : Option Value) : Option Value := match o with
  | some v => cond (plainV v) (some v) none
  | none => none
def aBin (P : Program) (op : BinOp) (t : TypeId) (x y : Operand) (a b : Value) : Option Value := match aggOf a, aggOf b with
  | some l, some m => cond (l.all plainV && m.all plainV) (match op with
    | .eql => (aEqAgg P t l m).map fun r => .bool r
    | .neq => (aEqAgg P t l m).map fun r => .bool (!r)
    | _ => none) none
  | _, _ => cond (plainV a && plainV b) (plainO (evalPure P (Bind.bind (eqGuard op t x y a b) fun _ => binOp op t a b))) (match op with
    | .eql => (aNil P t a b).map fun r => .bool r
    | .neq => (aNil P t a b).map fun r => .bool (!r)
    | _ => none)
def aNilCheck : Value → Option Value
  | .pointer (some a) => some (.pointer (some a))
  | .func (.func f) a b => some (.func (.func f) a b)
  | _ => none
def boolOf : Value → Option Bool
  | .bool b => some b
  | _ => none
theorem boolOf_some {v : Value} {b : Bool} (h : boolOf v = some b) : v = .bool b := by
  cases v <;> simp [boolOf] at h
  subst h; rfl
def un (m : M Unit) : M Value := M.bind m fun _ => M.pure undef

def aOp (P : Program) (ev : Ev) (o : Oper) : M Value := match o.op with
  | .move x => lift (ev x)
  | .assign x => lift (ev x)
  | .pick c a b => M.bind (lift (ev c)) fun vc => M.bind (lift (boolOf vc)) fun t => lift (ev (cond t a b))
  | .alloc t => aAlloc P t
  | .box t x => M.bind (lift (ev x)) fun v => aBox t v
  | .build t ps => M.bind (lift (evPs ev ps.toList)) fun l => lift (aBuild P t l)
  | .buildSlice t n ps => M.bind (lift (evPs ev ps.toList)) fun l => aBuildSlice P t n l
  | .load t x => M.bind (lift (ev x)) fun v => aLoad P t v
  | .store t x y => M.bind (lift (ev x)) fun a => M.bind (lift (ev y)) fun v => un (aStore P t a v)
  | .nilCheck x => M.bind (lift (ev x)) fun v => lift (aNilCheck v)
  | .binOp op t x y _ => M.bind (lift (ev x)) fun a => M.bind (lift (ev y)) fun b => lift (aBin P op t x y a b)
  | .unOp op _ x => M.bind (lift (ev x)) fun a => cond (plainV a) (lift (plainO (evalPure P (Op.unary op a)))) M.fail
  | .convert s d x => M.bind (lift (ev x)) fun a => cond (plainV a) (lift (plainO (evalPure P (convert s d a)))) M.fail
  | .makeFunc fn f c => M.bind (lift (evL ev f.toList)) fun l => M.bind (lift (evL ev c.toList)) fun m => M.pure (.func fn ⟨l⟩ ⟨m⟩)
  | .makeMap _ none => aMakeMap
  | .makeSlice t l c => M.bind (lift (ev l)) fun a => M.bind (lift (ev c)) fun b => aMakeSlice P t a b
  | .slice t x lo hi mx => M.bind (lift (ev x)) fun a => M.bind (lift (evO ev lo)) fun l => M.bind (lift (evO ev hi)) fun h => M.bind (lift (evO ev mx)) fun m => lift (aSlice P t a l h m)
  | .fieldAddr t x f => M.bind (lift (ev x)) fun a => lift (aFieldAddr P t f a)
  | .field t x f => M.bind (lift (ev x)) fun a => lift (aField P t f a)
  | .indexAddr t x i => M.bind (lift (ev x)) fun a => M.bind (lift (ev i)) fun n => lift (aIndexAddr P t a n)
  | .index t x i => M.bind (lift (ev x)) fun a => M.bind (lift (ev i)) fun n => lift (aIndex P t a n)
  | .lookup t m k ok => M.bind (lift (ev m)) fun a => M.bind (lift (ev k)) fun n => aLookup P t a n ok
  | .insert t m k x => M.bind (lift (ev m)) fun a => M.bind (lift (ev k)) fun n => M.bind (lift (ev x)) fun v => un (aMapSet P t a n v)
  | .mapUpdate t m k x => M.bind (lift (ev m)) fun a => M.bind (lift (ev k)) fun n => M.bind (lift (ev x)) fun v => un (aMapSet P t a n v)
  | .extract x i => M.bind (lift (ev x)) fun a => lift (aExtract i a)
  | .call { callee := .builtin b, args, argTypes } => M.bind (lift (evL ev args.toList)) fun vs => aBuiltin P b argTypes.toList vs
  | _ => M.fail

section
variable {P : Program} {w0 : World} {ι : Re} {ev : Ev} {ρ : Operand → Value}
theorem NOK.bind {α : Type} {S : Sem Next} {o : Option α} {f : α → M Value} (h : ∀ v, o = some v → NOK P w0 ι S (f v)) : NOK P w0 ι S (M.bind (Go.Proofs.YtnpbnpilhmbpoaaGreat.lift o) f) := fun s w v s' hr hm hf => by
  obtain ⟨a, s1, h1, h2⟩ := bind_some hm
  obtain ⟨ho, rfl⟩ := lift_some h1
  exact h a ho s1 w v s' hr h2 hf
theorem VOK.cond {S : Sem Value} {b : Bool} {m : M Value} (h : b = true → VOK P w0 ι S m) : VOK P w0 ι S (_root_.cond b m M.fail) := by
  cases b
  · exact VOK.fail
  · exact h rfl
theorem UOK.nok {S : Sem Unit} {m : M Unit} (h : UOK P w0 ι S m) : NOK P w0 ι (Bind.bind S fun _ => Pure.pure Next.skip) (un m) := fun s w v s' hr hm hf => by
  obtain ⟨u, s1, h1, h2⟩ := bind_some hm
  obtain ⟨rfl, rfl⟩ := pure_some h2
  obtain ⟨ι', w', q1, q2, q3, q4⟩ := h s w u s' hr h1 hf
  exact ⟨ι', .skip, undef, w', by simp [q1], Or.inr ⟨rfl, rfl⟩, .tuple rfl (fun i x x' a => by simp at a), q2, q3, q4⟩
theorem plainO_some {o : Option Value} {v : Value} (h : plainO o = some v) : o = some v ∧ plainV v = true := by
  unfold plainO at h
  cases o with
  | none => simp at h
  | some x =>
    cases hp : plainV x
    · simp [hp] at h
    · simp only [hp, cond_true, Option.some.injEq] at h; subst h; exact ⟨rfl, hp⟩
theorem aggOf_some {v : Value} {l : List Value} (h : aggOf v = some l) : v = .agg ⟨l⟩ := by
  unfold aggOf at h
  split at h
  · cases h; rfl
  · cases h
theorem agg_plain_eq {l : List Value} {y : Value} (h : VR ι (.agg ⟨l⟩) y) (hp : l.all plainV = true) : y = .agg ⟨l⟩ := (h.flat_eq (by simpa [flatV] using hp)).symm
theorem aBin_ok (op : BinOp) (t : TypeId) (x y : Operand) {a b a' b' : Value} (ha : VR ι a a') (hb : VR ι b b') :
    VOK P w0 ι (Bind.bind (eqGuard op t x y a' b') fun _ => binOp op t a' b') (lift (aBin P op t x y a b)) := VOK.lift fun v hv => by
  unfold aBin at hv
  split at hv
  · rename_i l m hl hm
    cases hlm : l.all plainV && m.all plainV
    · simp [hlm] at hv
    rw [hlm, cond_true] at hv
    simp only [Bool.and_eq_true] at hlm
    have e1 := agg_plain_eq (by rw [← aggOf_some hl]; exact ha) hlm.1
    have e2 := agg_plain_eq (by rw [← aggOf_some hm]; exact hb) hlm.2
    subst e1; subst e2
    have hg : ∀ (r : Bool), aEqAgg P t l m = some r → ∀ w, (eqGuard op t x y (.agg ⟨l⟩) (.agg ⟨m⟩)).run P w = .ok () w := fun r hr w => by
      have := (aEqAgg_run hr).1
      unfold eqGuard
      cases op <;> simp [Sem.run_bind, program, Sem.run, this]
    cases op <;> simp only [Option.map_eq_some_iff] at hv <;> try (cases hv; done)
    · obtain ⟨r, hr, rfl⟩ := hv
      refine ⟨.bool r, fun w => ?_, .plain rfl⟩
      rw [Sem.run_bind, hg r hr w]
      simp [binOp, (aEqAgg_run hr).2 w]
    · obtain ⟨r, hr, rfl⟩ := hv
      refine ⟨.bool (!r), fun w => ?_, .plain rfl⟩
      rw [Sem.run_bind, hg r hr w]
      simp [binOp, (aEqAgg_run hr).2 w]
  · cases hpp : plainV a && plainV b
    · rw [hpp, cond_false] at hv
      cases op <;> simp only [Option.map_eq_some_iff] at hv <;> try (cases hv; done)
      · obtain ⟨r, hr, rfl⟩ := hv
        refine ⟨.bool r, fun w => ?_, .plain rfl⟩
        obtain ⟨q1, q2, q3⟩ := aNil_run 9999 hr ha hb w
        rw [Sem.run_bind, q2 .eql x y, q3 .eql (Or.inl rfl)]
        simp [Op.equal, Op.maxDepth, q1]
      · obtain ⟨r, hr, rfl⟩ := hv
        refine ⟨.bool (!r), fun w => ?_, .plain rfl⟩
        obtain ⟨q1, q2, q3⟩ := aNil_run 9999 hr ha hb w
        rw [Sem.run_bind, q2 .neq x y, q3 .neq (Or.inr rfl)]
        simp [Op.equal, Op.maxDepth, q1]
    · rw [hpp, cond_true] at hv
      simp only [Bool.and_eq_true] at hpp
      obtain ⟨h1, h2⟩ := plainO_some hv
      rw [← ha.plain_eq hpp.1, ← hb.plain_eq hpp.2]
      exact ⟨v, evalPure_run P _ v h1, .plain h2⟩

theorem aOp_ok (o : Oper) (h : EvR ι ev ρ) : NOK P w0 ι (execOp ρ o) (aOp P ev o) := by
  obtain ⟨dst, op, type, pos, after, guard⟩ := o
  unfold aOp
  cases op <;> simp only [execOp] <;> try exact NOK.fail
  case move x => exact (fun s w v s' hr hm hf => by
    obtain ⟨ho, rfl⟩ := lift_some hm
    exact ⟨ι, _, ρ x, w, rfl, Or.inl rfl, h x v ho, hr, Nat.le_refl _, Grow.refl ι _ _⟩)
  case assign x => exact (fun s w v s' hr hm hf => by
    obtain ⟨ho, rfl⟩ := lift_some hm
    exact ⟨ι, _, ρ x, w, rfl, Or.inl rfl, h x v ho, hr, Nat.le_refl _, Grow.refl ι _ _⟩)
  case pick c a b =>
    refine NOK.bind fun vc hc => NOK.bind fun t ht => (fun s w v s' hr hm hf => ?_)
    obtain ⟨ho, rfl⟩ := lift_some hm
    have hc2 := h c vc hc
    have := boolOf_some ht
    subst this
    have hc3 := hc2.plain_eq rfl
    refine ⟨ι, .value (if t then ρ a else ρ b), (if t then ρ a else ρ b), w, ?_, Or.inl rfl, ?_, hr, Nat.le_refl _, Grow.refl ι _ _⟩
    · rw [← hc3]
      simp [asBool]
    · cases t
      · exact h b v ho
      · exact h a v ho
  case alloc t => exact (aAlloc_ok t).nok
  case box t x => exact NOK.bind fun v hv => (aBox_ok t (h x v hv)).nok
  case build t ps => exact NOK.bind fun l hl => (aBuild_ok t (by rw [Array.toList_map]; exact evPs_rel h _ l hl)).nok
  case buildSlice t n ps => exact NOK.bind fun l hl => (aBuildSlice_ok t n (by rw [Array.toList_map]; exact evPs_rel h _ l hl)).nok
  case load t x => exact NOK.bind fun v hv => (aLoad_ok t (h x v hv)).nok
  case store t x y => exact NOK.bind fun a ha => NOK.bind fun v hv => (aStore_ok t (h x a ha) (h y v hv)).nok
  case nilCheck x =>
    refine NOK.bind fun v hv => (fun s w r s' hr hm hf => ?_)
    obtain ⟨ho, rfl⟩ := lift_some hm
    have h1 := h x v hv
    unfold aNilCheck at ho
    split at ho
    · rename_i a
      simp only [Option.some.injEq] at ho
      subst ho
      refine ⟨ι, .value (ρ x), ρ x, w, ?_, Or.inl rfl, h1, hr, Nat.le_refl _, Grow.refl ι _ _⟩
      obtain ⟨a', e1, e2⟩ := ptr_rel h1
      rw [e1]
      cases a' with
      | none => simp at e2
      | some a' => rfl
    · rename_i f a b
      simp only [Option.some.injEq] at ho
      subst ho
      refine ⟨ι, .value (ρ x), ρ x, w, ?_, Or.inl rfl, h1, hr, Nat.le_refl _, Grow.refl ι _ _⟩
      obtain ⟨a', b', e1⟩ := func_rel h1
      rw [e1]
      rfl
    · cases ho
  case binOp op t x y yt => exact NOK.bind fun a ha => NOK.bind fun b hb => (aBin_ok op t x y (h x a ha) (h y b hb)).nok
  case unOp op t x =>
    refine NOK.bind fun a ha => ?_
    refine VOK.nok (VOK.cond fun hp => VOK.lift fun v hv => ?_)
    obtain ⟨h1, h2⟩ := plainO_some hv
    rw [← (h x a ha).plain_eq hp]
    exact ⟨v, evalPure_run P _ v h1, .plain h2⟩
  case convert sr ds x =>
    refine NOK.bind fun a ha => ?_
    refine VOK.nok (VOK.cond fun hp => VOK.lift fun v hv => ?_)
    obtain ⟨h1, h2⟩ := plainO_some hv
    rw [← (h x a ha).plain_eq hp]
    exact ⟨v, evalPure_run P _ v h1, .plain h2⟩
  case makeFunc fn f c =>
    refine NOK.bind fun l hl => NOK.bind fun m hm => ?_
    have e1 := evL_rel h _ l hl
    have e2 := evL_rel h _ m hm
    refine VOK.nok (VOK.pure (v' := .func fn (f.map ρ) (c.map ρ)) (fun w => rfl) ?_)
    have a1 : f.map ρ = ⟨f.toList.map ρ⟩ := by apply Array.ext'; simp
    have a2 : c.map ρ = ⟨c.toList.map ρ⟩ := by apply Array.ext'; simp
    rw [a1, a2]
    exact .func e1.1 e1.2 e2.1 e2.2
  case makeMap t r =>
    cases r with
    | none => exact (aMakeMap_ok t).nok
    | some x => exact NOK.fail
  case makeSlice t l c => exact NOK.bind fun a ha => NOK.bind fun b hb => (aMakeSlice_ok t (h l a ha) (h c b hb)).nok
  case slice t x lo hi mx => exact NOK.bind fun a ha => NOK.bind fun l hl => NOK.bind fun g hg => NOK.bind fun m hm => (aSlice_ok t (h x a ha) (evO_rel h lo l hl) (evO_rel h hi g hg) (evO_rel h mx m hm)).nok
  case fieldAddr t x f => exact NOK.bind fun a ha => (aFieldAddr_ok t f (h x a ha)).nok
  case field t x f => exact NOK.bind fun a ha => (aField_ok t f (h x a ha)).nok
  case indexAddr t x i => exact NOK.bind fun a ha => NOK.bind fun n hn => (aIndexAddr_ok t (h x a ha) (h i n hn)).nok
  case index t x i => exact NOK.bind fun a ha => NOK.bind fun n hn => (aIndex_ok t (h x a ha) (h i n hn)).nok
  case lookup t m k ok => exact NOK.bind fun a ha => NOK.bind fun n hn => (aLookup_ok t ok (h m a ha) (h k n hn)).nok
  case insert t m k x => exact NOK.bind fun a ha => NOK.bind fun n hn => NOK.bind fun v hv => (aMapSet_ok t (h m a ha) (h k n hn) (h x v hv)).nok
  case mapUpdate t m k x => exact NOK.bind fun a ha => NOK.bind fun n hn => NOK.bind fun v hv => (aMapSet_ok t (h m a ha) (h k n hn) (h x v hv)).nok
  case extract x i => exact NOK.bind fun a ha => (aExtract_ok i (h x a ha)).nok
  case call c =>
    obtain ⟨callee, args, argTypes⟩ := c
    cases callee with
    | value f => exact NOK.fail
    | invoke r n => exact NOK.fail
    | builtin b =>
      refine NOK.bind fun vs hvs => ?_
      have e1 := evL_rel h _ vs hvs
      have hb := fun cs => aBuiltin_ok (P := P) (w0 := w0) b argTypes type cs (vs := vs) (vs' := args.map ρ) (by rw [Array.toList_map]; exact e1)
      obtain ⟨cs, hcs⟩ : ∃ cs, ∀ w, (Bind.bind (resolve ρ { callee := .builtin b, args := args, argTypes := argTypes } type) fun d => invoke d.target d.args).run P w = (builtin b argTypes type cs (args.map ρ)).run P w := ⟨_, fun w => by unfold resolve invoke; rfl⟩
      intro s w v s' hr hm hf
      obtain ⟨ι', nx, v', w', q1, q2⟩ := hb cs s w v s' hr hm hf
      exact ⟨ι', nx, v', w', by rw [← q1]; exact hcs w, q2⟩
end
end Go.Proofs.YtnpbnpilhmbpoaaGreat

/- The closed run: what an operation does hangs on what it touches alone; calls. -/
namespace Go.Proofs.YtnpbnpilhmbpoaaGreat
open Go.RowKit

def funcOf : Value → Option (FuncId × List Value × List Value)
  | .func (.func g) ⟨a⟩ ⟨b⟩ => some (g, a, b)
  | _ => none
def aCallV (call : FuncId → List Value → M Value) (ev : Ev) (f : Operand) (args : List Operand) : M Value := M.bind (lift (ev f)) fun fv => M.bind (lift (funcOf fv)) fun g => M.bind (lift (evL ev args)) fun vs => call g.1 (g.2.1 ++ vs ++ g.2.2)
def callOf : Op → Option (Operand × List Operand)
  | .call c => match c.callee with
    | .value f => some (f, c.args.toList)
    | _ => none
  | _ => none
theorem callOf_some {op : Op} {r : Operand × List Operand} (h : callOf op = some r) : ∃ args ts, op = .call { callee := .value r.1, args := args, argTypes := ts } ∧ args.toList = r.2 := by
  cases op <;> simp only [callOf] at h <;> try (cases h; done)
  rename_i c
  obtain ⟨callee, args, ts⟩ := c
  cases callee <;> simp only at h <;> try (cases h; done)
  simp only [Option.some.injEq] at h
  subst h
  exact ⟨args, ts, rfl, rfl⟩
def aStep (call : FuncId → List Value → M Value) (P : Program) (ev : Ev) (o : Oper) : M Value := match callOf o.op with
  | some fa => aCallV call ev fa.1 fa.2
  | none => aOp P ev o

theorem Local.cond {α : Type} {c : Bool} {m n : M α} (hm : Local m) (hn : Local n) : Local (_root_.cond c m n) := by
  cases c
  · exact hn
  · exact hm
theorem Local.aAlloc (P : Program) (t : TypeId) : Local (aAlloc P t) := by
  unfold Go.Proofs.YtnpbnpilhmbpoaaGreat.aAlloc
  (repeat (first | exact Local.pure _ | exact Local.fail | exact Local.lift _ | exact Local.getB _ | exact Local.setB _ _ | exact Local.newB _  | (refine Local.bind ?_ fun _ => ?_) | (refine Local.cond ?_ ?_) | split))
theorem Local.aBox (t : TypeId) (x : Value) : Local (aBox t x) := by
  unfold Go.Proofs.YtnpbnpilhmbpoaaGreat.aBox
  (repeat (first | exact Local.pure _ | exact Local.fail | exact Local.lift _ | exact Local.getB _ | exact Local.setB _ _ | exact Local.newB _  | (refine Local.bind ?_ fun _ => ?_) | (refine Local.cond ?_ ?_) | split))
theorem Local.aBuildSliceN (P : Program) (t : TypeId) (n : Nat) (ps : List (Nat × Value)) : Local (aBuildSliceN P t n ps) := by
  unfold Go.Proofs.YtnpbnpilhmbpoaaGreat.aBuildSliceN
  (repeat (first | exact Local.pure _ | exact Local.fail | exact Local.lift _ | exact Local.getB _ | exact Local.setB _ _ | exact Local.newB _  | (refine Local.bind ?_ fun _ => ?_) | (refine Local.cond ?_ ?_) | split))
theorem Local.aBuildSlice0 (P : Program) (t : TypeId) : Local (aBuildSlice0 P t) := by
  unfold Go.Proofs.YtnpbnpilhmbpoaaGreat.aBuildSlice0
  (repeat (first | exact Local.pure _ | exact Local.fail | exact Local.lift _ | exact Local.getB _ | exact Local.setB _ _ | exact Local.newB _  | (refine Local.bind ?_ fun _ => ?_) | (refine Local.cond ?_ ?_) | split))
theorem Local.aBuildSlice (P : Program) (t : TypeId) (n : Nat) (ps : List (Nat × Value)) : Local (aBuildSlice P t n ps) := by
  unfold Go.Proofs.YtnpbnpilhmbpoaaGreat.aBuildSlice
  (repeat (first | exact Local.pure _ | exact Local.fail | exact Local.lift _ | exact Local.getB _ | exact Local.setB _ _ | exact Local.newB _ | exact Local.aBuildSliceN _ _ _ _ | exact Local.aBuildSlice0 _ _ | (refine Local.bind ?_ fun _ => ?_) | (refine Local.cond ?_ ?_) | split))
theorem Local.aLoad (P : Program) (t : TypeId) (v : Value) : Local (aLoad P t v) := by
  unfold Go.Proofs.YtnpbnpilhmbpoaaGreat.aLoad
  (repeat (first | exact Local.pure _ | exact Local.fail | exact Local.lift _ | exact Local.getB _ | exact Local.setB _ _ | exact Local.newB _  | (refine Local.bind ?_ fun _ => ?_) | (refine Local.cond ?_ ?_) | split))
theorem Local.aStore (P : Program) (t : TypeId) (x v : Value) : Local (aStore P t x v) := by
  unfold Go.Proofs.YtnpbnpilhmbpoaaGreat.aStore
  (repeat (first | exact Local.pure _ | exact Local.fail | exact Local.lift _ | exact Local.getB _ | exact Local.setB _ _ | exact Local.newB _  | (refine Local.bind ?_ fun _ => ?_) | (refine Local.cond ?_ ?_) | split))
theorem Local.aMakeSlice (P : Program) (t : TypeId) (l c : Value) : Local (aMakeSlice P t l c) := by
  unfold Go.Proofs.YtnpbnpilhmbpoaaGreat.aMakeSlice
  (repeat (first | exact Local.pure _ | exact Local.fail | exact Local.lift _ | exact Local.getB _ | exact Local.setB _ _ | exact Local.newB _  | (refine Local.bind ?_ fun _ => ?_) | (refine Local.cond ?_ ?_) | split))
theorem Local.aFirst (a : Option Addr) (n : Nat) : Local (aFirst a n) := by
  unfold Go.Proofs.YtnpbnpilhmbpoaaGreat.aFirst
  (repeat (first | exact Local.pure _ | exact Local.fail | exact Local.lift _ | exact Local.getB _ | exact Local.setB _ _ | exact Local.newB _  | (refine Local.bind ?_ fun _ => ?_) | (refine Local.cond ?_ ?_) | split))
theorem Local.getR (b : Nat) : Local (getR b) := by
  unfold Go.Proofs.YtnpbnpilhmbpoaaGreat.getR
  (repeat (first | exact Local.pure _ | exact Local.fail | exact Local.lift _ | exact Local.getB _ | exact Local.setB _ _ | exact Local.newB _  | (refine Local.bind ?_ fun _ => ?_) | (refine Local.cond ?_ ?_) | split))
theorem Local.appRoom (sb : Option Addr) (sl sc size : Nat) (news : List Value) (xl : Nat) : Local (appRoom sb sl sc size news xl) := by
  unfold Go.Proofs.YtnpbnpilhmbpoaaGreat.appRoom
  (repeat (first | exact Local.pure _ | exact Local.fail | exact Local.lift _ | exact Local.getB _ | exact Local.setB _ _ | exact Local.newB _ | exact Local.getR _ | (refine Local.bind ?_ fun _ => ?_) | (refine Local.cond ?_ ?_) | split))
theorem Local.appGrow (e : TypeId) (sb : Option Addr) (sl size : Nat) (news : List Value) (xl : Nat) : Local (appGrow e sb sl size news xl) := by
  unfold Go.Proofs.YtnpbnpilhmbpoaaGreat.appGrow
  (repeat (first | exact Local.pure _ | exact Local.fail | exact Local.lift _ | exact Local.getB _ | exact Local.setB _ _ | exact Local.newB _ | exact Local.aFirst _ _ | (refine Local.bind ?_ fun _ => ?_) | (refine Local.cond ?_ ?_) | split))
theorem Local.appUnk (e : TypeId) (sb : Option Addr) (sl size : Nat) (news : List Value) (xl : Nat) : Local (appUnk e sb sl size news xl) := by
  unfold Go.Proofs.YtnpbnpilhmbpoaaGreat.appUnk
  (repeat (first | exact Local.pure _ | exact Local.fail | exact Local.lift _ | exact Local.getB _ | exact Local.setB _ _ | exact Local.newB _ | exact Local.getR _ | (refine Local.bind ?_ fun _ => ?_) | (refine Local.cond ?_ ?_) | split))
theorem Local.aAppend (P : Program) (ts tx : TypeId) (s x : Value) : Local (aAppend P ts tx s x) := by
  unfold Go.Proofs.YtnpbnpilhmbpoaaGreat.aAppend
  (repeat (first | exact Local.pure _ | exact Local.fail | exact Local.lift _ | exact Local.getB _ | exact Local.setB _ _ | exact Local.newB _ | exact Local.aFirst _ _ | exact Local.appRoom _ _ _ _ _ _ | exact Local.appGrow _ _ _ _ _ _ | exact Local.appUnk _ _ _ _ _ _ | (refine Local.bind ?_ fun _ => ?_) | (refine Local.cond ?_ ?_) | split))
theorem Local.aAppendZ (P : Program) (ts tx : TypeId) (s x : Value) : Local (aAppendZ P ts tx s x) := by
  unfold Go.Proofs.YtnpbnpilhmbpoaaGreat.aAppendZ
  (repeat (first | exact Local.pure _ | exact Local.fail | exact Local.lift _ | exact Local.getB _ | exact Local.setB _ _ | exact Local.newB _ | exact Local.appGrow _ _ _ _ _ _ | (refine Local.bind ?_ fun _ => ?_) | (refine Local.cond ?_ ?_) | split))
theorem Local.aCopy (P : Program) (dt : TypeId) (d x : Value) : Local (aCopy P dt d x) := by
  unfold Go.Proofs.YtnpbnpilhmbpoaaGreat.aCopy
  (repeat (first | exact Local.pure _ | exact Local.fail | exact Local.lift _ | exact Local.getB _ | exact Local.setB _ _ | exact Local.newB _ | exact Local.aFirst _ _ | exact Local.getR _ | (refine Local.bind ?_ fun _ => ?_) | (refine Local.cond ?_ ?_) | split))
theorem Local.aMakeMap  : Local (aMakeMap) := by
  unfold Go.Proofs.YtnpbnpilhmbpoaaGreat.aMakeMap
  (repeat (first | exact Local.pure _ | exact Local.fail | exact Local.lift _ | exact Local.getB _ | exact Local.setB _ _ | exact Local.newB _  | (refine Local.bind ?_ fun _ => ?_) | (refine Local.cond ?_ ?_) | split))
theorem Local.aMapSet (P : Program) (t : TypeId) (m k v : Value) : Local (aMapSet P t m k v) := by
  unfold Go.Proofs.YtnpbnpilhmbpoaaGreat.aMapSet
  (repeat (first | exact Local.pure _ | exact Local.fail | exact Local.lift _ | exact Local.getB _ | exact Local.setB _ _ | exact Local.newB _  | (refine Local.bind ?_ fun _ => ?_) | (refine Local.cond ?_ ?_) | split))
theorem Local.aLookup (P : Program) (t : TypeId) (m k : Value) (ok : Bool) : Local (aLookup P t m k ok) := by
  unfold Go.Proofs.YtnpbnpilhmbpoaaGreat.aLookup
  (repeat (first | exact Local.pure _ | exact Local.fail | exact Local.lift _ | exact Local.getB _ | exact Local.setB _ _ | exact Local.newB _  | (refine Local.bind ?_ fun _ => ?_) | (refine Local.cond ?_ ?_) | split))
theorem Local.aBuiltin (P : Program) (b : Builtin) (ts : List TypeId) (vs : List Value) : Local (aBuiltin P b ts vs) := by
  unfold Go.Proofs.YtnpbnpilhmbpoaaGreat.aBuiltin
  (repeat (first | exact Local.pure _ | exact Local.fail | exact Local.lift _ | exact Local.getB _ | exact Local.setB _ _ | exact Local.newB _ | exact Local.aAppend _ _ _ _ _ | exact Local.aAppendZ _ _ _ _ _ | exact Local.aCopy _ _ _ _ | (refine Local.bind ?_ fun _ => ?_) | (refine Local.cond ?_ ?_) | split))
theorem Local.un (m : M Unit) (h : Local m) : Local (un m) := by
  unfold Go.Proofs.YtnpbnpilhmbpoaaGreat.un
  (repeat (first | exact Local.pure _ | exact Local.fail | exact Local.lift _ | exact Local.getB _ | exact Local.setB _ _ | exact Local.newB _ | exact h | (refine Local.bind ?_ fun _ => ?_) | (refine Local.cond ?_ ?_) | split))
theorem Local.aOp (P : Program) (ev : Ev) (o : Oper) : Local (aOp P ev o) := by
  unfold Go.Proofs.YtnpbnpilhmbpoaaGreat.aOp
  (repeat (first | exact Local.pure _ | exact Local.fail | exact Local.lift _ | exact Local.getB _ | exact Local.setB _ _ | exact Local.newB _ | exact Local.aAlloc _ _ | exact Local.aBox _ _ | exact Local.aBuildSlice _ _ _ _ | exact Local.aLoad _ _ _ | exact Local.un _ (Local.aStore _ _ _ _) | exact Local.un _ (Local.aMapSet _ _ _ _ _) | exact Local.aMakeMap | exact Local.aMakeSlice _ _ _ _ | exact Local.aLookup _ _ _ _ _ | exact Local.aBuiltin _ _ _ _ | (refine Local.bind ?_ fun _ => ?_) | (refine Local.cond ?_ ?_) | split))
theorem Local.aCallV (call : FuncId → List Value → M Value) (ev : Ev) (f : Operand) (args : List Operand) (h : ∀ f vs, Local (call f vs)) : Local (aCallV call ev f args) := by
  unfold Go.Proofs.YtnpbnpilhmbpoaaGreat.aCallV
  (repeat (first | exact Local.pure _ | exact Local.fail | exact Local.lift _ | exact Local.getB _ | exact Local.setB _ _ | exact Local.newB _ | exact h _ _ | (refine Local.bind ?_ fun _ => ?_) | (refine Local.cond ?_ ?_) | split))
theorem Local.aStep (call : FuncId → List Value → M Value) (P : Program) (ev : Ev) (o : Oper) (h : ∀ f vs, Local (call f vs)) : Local (aStep call P ev o) := by
  unfold Go.Proofs.YtnpbnpilhmbpoaaGreat.aStep
  (repeat (first | exact Local.pure _ | exact Local.fail | exact Local.lift _ | exact Local.getB _ | exact Local.setB _ _ | exact Local.newB _ | exact Local.aCallV _ _ _ _ h | exact Local.aOp _ _ _ | (refine Local.bind ?_ fun _ => ?_) | (refine Local.cond ?_ ?_) | split))
end Go.Proofs.YtnpbnpilhmbpoaaGreat

/- The closed run: rows of operations. -/
namespace Go.Proofs.YtnpbnpilhmbpoaaGreat
open Go.RowKit

abbrev Tm := Tr Value
def tget (tm : Tm) (t : Nat) : Value := (tm.get t).getD undef
def evT (tm : Tm) : Ev
  | .tmp t => some (tget tm t)
  | .const v => cond (dataV v) (some v) none
  | .func f => some (.func (.func f) ⟨[]⟩ ⟨[]⟩)
  | .global _ => none
def tput (n : Nat) (tm : Tm) (d : Option Tmp) (v : Value) : Option Tm := match d with
  | none => some tm
  | some d => cond (Nat.blt d n) (cond (Nat.blt d mostB) (some (tm.set fuelT d (some v))) none) none
structure TmR (ι : Re) (n : Nat) (tm : Tm) (a : Act) : Prop where
  size : a.tmps.size = n
  vals : ∀ t, VR ι (tget tm t) (a.tmps.getD t undef)
theorem undef_rel (ι : Re) : VR ι undef undef := .tuple rfl fun i x x' a => by simp at a
theorem TmR.mono {ι ι' : Re} {n : Nat} {tm : Tm} {a : Act} (h : TmR ι n tm a) (hi : ∀ b b', ι b = some b' → ι' b = some b') : TmR ι' n tm a := ⟨h.size, fun t => (h.vals t).mono hi⟩
theorem TmR.ev {ι : Re} {n : Nat} {tm : Tm} {a : Act} (h : TmR ι n tm a) : EvR ι (evT tm) a.eval := fun x v hv => by
  cases x with
  | tmp t => simp only [evT, Option.some.injEq] at hv; subst hv; exact h.vals t
  | const c =>
    simp only [evT] at hv
    cases hd : dataV c
    · simp [hd] at hv
    · simp only [hd, cond_true, Option.some.injEq] at hv; subst hv; exact .data hd
  | global g => simp [evT] at hv
  | func f => simp only [evT, Option.some.injEq] at hv; subst hv; exact .func rfl (fun i x x' a => by simp at a) rfl (fun i x x' a => by simp at a)
theorem tput_get {n : Nat} {tm tm' : Tm} {d : Option Tmp} {v : Value} (h : tput n tm d v = some tm') (t : Nat) : tget tm' t = if d = some t then v else tget tm t := by
  unfold tput at h
  cases d with
  | none => simp only [Option.some.injEq] at h; subst h; simp
  | some d =>
    simp only [cond_blt] at h
    split at h
    · split at h
      · rename_i h1 h2
        simp only [Option.some.injEq] at h
        subst h
        unfold tget
        rw [Tr.get_set _ _ _ _ _ (Nat.lt_of_le_of_lt h2 (by decide))]
        by_cases e : t = d
        · subst e; simp
        · rw [if_neg e, if_neg (by simpa using fun e' => e e'.symm)]
      · cases h
    · cases h
theorem tput_rel {ι : Re} {n : Nat} {tm tm' : Tm} {a : Act} {d : Option Tmp} {v v' : Value} (h : tput n tm d v = some tm') (ha : TmR ι n tm a) (hv : VR ι v v') : TmR ι n tm' (a.put d v') := by
  refine ⟨?_, fun t => ?_⟩
  · cases d with
    | none => exact ha.size
    | some d => simp [Act.put, ha.size]
  · rw [tput_get h t]
    cases d with
    | none => simp only [Act.put]; rw [if_neg (by simp)]; exact ha.vals t
    | some d =>
      have hd : d < n := by
        unfold tput at h
        simp only [cond_blt] at h
        split at h
        · assumption
        · cases h
      by_cases e : d = t
      · subst e
        rw [if_pos rfl]
        have : (a.put (some d) v').tmps.getD d undef = v' := by
          simp only [Act.put]
          rw [Array.getD_eq_getD_getElem?, Array.getElem?_setIfInBounds, if_pos rfl, if_pos (by rw [ha.size]; exact hd)]
          rfl
        rw [this]
        exact hv
      · rw [if_neg (by simpa using e)]
        have : (a.put (some d) v').tmps.getD t undef = a.tmps.getD t undef := by
          simp only [Act.put]
          rw [Array.getD_eq_getD_getElem?, Array.getElem?_setIfInBounds, if_neg e, ← Array.getD_eq_getD_getElem?]
        rw [this]
        exact ha.vals t

/-- Is an operation wanted? -/
def aWanted (ops : List Oper) (tm : Tm) (o : Oper) : Bool := match o.guard with
  | none => true
  | some (j, want) => match ops[j]? with
    | none => false
    | some oj => match oj.dst with
      | none => false
      | some t => match tget tm t with
        | .bool b => b == want
        | _ => false
theorem aWanted_eq {ι : Re} {n : Nat} {tm : Tm} {a : Act} (h : TmR ι n tm a) (ops : Array Oper) (o : Oper) : aWanted ops.toList tm o = Region.wanted o (yielded ops a.tmps) := by
  unfold aWanted Region.wanted
  cases hg : o.guard with
  | none => rfl
  | some g =>
    obtain ⟨j, want⟩ := g
    simp only [Array.getElem?_toList]
    unfold yielded
    cases ho : ops[j]? with
    | none => simp
    | some oj =>
      cases hd : oj.dst with
      | none => simp [hd]
      | some t =>
        have hv := h.vals t
        simp only [Option.bind_some, hd]
        rw [Array.getD_eq_getD_getElem?] at hv
        cases ht : a.tmps[t]? with
        | none =>
          rw [ht] at hv
          simp only [Option.getD_none] at hv
          generalize tget tm t = x at hv
          cases hv with
          | tuple => rfl
          | plain h => simp [plainV, undef] at h
        | some y =>
          rw [ht] at hv
          simp only [Option.getD_some] at hv
          generalize tget tm t = x at hv
          cases hv with
          | plain h => cases y <;> simp
          | _ => rfl

def stepV (call : FuncId → List Value → M Value) (P : Program) (ops : List Oper) (tm : Tm) (o : Oper) : M Value := cond (aWanted ops tm o) (aStep call P (evT tm) o) (M.pure undef)
theorem Local.stepV (call : FuncId → List Value → M Value) (P : Program) (ops : List Oper) (tm : Tm) (o : Oper) (h : ∀ f vs, Local (call f vs)) : Local (stepV call P ops tm o) := Local.cond (Local.aStep call P _ o h) (Local.pure _)

/-- What a call yields. -/
def RetR (P : Program) (w0 : World) (ι : Re) (s : St) (v : Value) (s' : St) (e : Ending) (w' : World) : Prop := ∃ ι' v', e = .returned v' ∧ VR ι' v v' ∧ Rel P w0 ι' s' w' ∧ Grow ι ι' s.next s'.next
def Enters (P : Program) (f : FuncId) : Prop := ∃ fn c, P.funcs[f]? = some fn ∧ (fn.name == "runtime.NumGoroutine") = false ∧ fn.body = some c
def CallOK (P : Program) (w0 : World) (call : FuncId → List Value → M Value) : Prop := ∀ (ι : Re) (s : St) (w : World) (f : FuncId) (vs vs' : List Value) (v : Value) (s' : St), Wf s → Rel P w0 ι s w → LR ι vs vs' → call f vs s = some (v, s') → Free ι s.next s'.next →
  Enters P f ∧ s.next ≤ s'.next ∧ Calls P f ⟨vs'⟩ w (RetR P w0 ι s v s')

section
variable {P : Program} {w0 : World} {ι : Re} {call : FuncId → List Value → M Value}
theorem funcOf_some {v : Value} {r : FuncId × List Value × List Value} (h : funcOf v = some r) : v = .func (.func r.1) ⟨r.2.1⟩ ⟨r.2.2⟩ := by
  unfold funcOf at h
  split at h
  · simp only [Option.some.injEq] at h; subst h; rfl
  · cases h
theorem aStep_ok (hc : CallOK P w0 call) {ev : Ev} {a : Act} {o : Oper} (he : EvR ι ev a.eval) {s s' : St} {w : World} {v : Value} (hwf : Wf s) (hr : Rel P w0 ι s w) (hm : aStep call P ev o s = some (v, s')) (hf : Free ι s.next s'.next) :
    s.next ≤ s'.next ∧ ∀ (K : Act → World → Prop) (Q : Exit → Act → World → Prop), (∀ ι' v' w', VR ι' v v' → Rel P w0 ι' s' w' → Grow ι ι' s.next s'.next → K (a.put o.dst v') w') → o.wp P a w K Q := by
  unfold aStep at hm
  cases hco : callOf o.op with
  | some fa =>
    obtain ⟨f, args0⟩ := fa
    obtain ⟨args, argTypes, hop, hargs0⟩ := callOf_some hco
    simp only at hop hargs0
    subst hargs0
    simp only [hco] at hm
    unfold aCallV at hm
    obtain ⟨fv, s1, h1, hm1⟩ := bind_some hm
    obtain ⟨hfv, rfl⟩ := lift_some h1
    obtain ⟨⟨g, fst, cap⟩, s2, h2, hm2⟩ := bind_some hm1
    obtain ⟨hg, rfl⟩ := lift_some h2
    obtain ⟨vs, s3, h3, hm3⟩ := bind_some hm2
    obtain ⟨hvs, rfl⟩ := lift_some h3
    have hfe := he f fv hfv
    have hfv2 := funcOf_some hg
    subst hfv2
    have hargs := evL_rel he _ vs hvs
    simp only at hm3
    cases hfx : a.eval f with
    | func fn fst' cap' =>
      rw [hfx] at hfe
      cases hfe with
      | plain h => simp [plainV] at h
      | func l1 l2 l3 l4 =>
        rename_i xs' ys'
        have hall : LR ι (fst ++ vs ++ cap) (xs' ++ args.toList.map a.eval ++ ys') := (LR.append (LR.append ⟨l1, l2⟩ hargs) ⟨l3, l4⟩)
        obtain ⟨⟨fn, c, e1, e2, e3⟩, hle, hcalls⟩ := hc ι s3 w g _ _ v s' hwf hr hall hm3 hf
        refine ⟨hle, fun K Q hK => ?_⟩
        unfold Oper.wp execOp
        simp only [hop]
        have hrun : (Bind.bind (resolve a.eval { callee := .value f, args := args, argTypes := argTypes } o.type) fun d => invoke d.target d.args).run P w = .ok (.enter g ⟨xs' ++ args.toList.map a.eval ++ ys'⟩) w := by
          have ha : (⟨xs'⟩ : Array Value) ++ args.map a.eval ++ (⟨ys'⟩ : Array Value) = ⟨xs' ++ args.toList.map a.eval ++ ys'⟩ := by apply Array.ext'; simp
          have hq := Go.MuLone.run_callFunc_enter (P := P) e1 e2 e3 ((⟨xs'⟩ : Array Value) ++ args.map a.eval ++ (⟨ys'⟩ : Array Value)) w
          rw [Sem.run_bind]
          simp only [resolve, hfx, Deferred.ofValue, Sem.run_pure, Result.andThen_ok, invoke]
          rw [hq, ha]
        rw [hrun]
        rw [Oper.upon_enter]
        refine hcalls.mono fun e w' hh => ?_
        obtain ⟨ι', v', rfl, q1, q2, q3⟩ := hh
        exact hK ι' v' w' q1 q2 q3
    | _ => rw [hfx] at hfe; cases hfe <;> simp [plainV] at *
  | none =>
    simp only [hco] at hm
    have := aOp_ok (P := P) (w0 := w0) o he s w v s' hr hm hf
    obtain ⟨ι', nx, v', w', q1, q2, q3, q4, q5, q6⟩ := this
    refine ⟨q5, fun K Q hK => ?_⟩
    unfold Oper.wp
    rw [q1]
    rcases q2 with rfl | ⟨rfl, rfl⟩
    · exact hK ι' v' w' q3 q4 q6
    · exact hK ι' _ w' q3 q4 q6
/-- One operation of a row. -/
theorem stepV_ok (hc : CallOK P w0 call) {ops : Array Oper} {n : Nat} {tm : Tm} {a : Act} {o : Oper} (ht : TmR ι n tm a) {s s' : St} {w : World} {v : Value} (hwf : Wf s) (hr : Rel P w0 ι s w) (hm : stepV call P ops.toList tm o s = some (v, s')) (hf : Free ι s.next s'.next) :
    s.next ≤ s'.next ∧ ∀ (K : Act → World → Prop) (Q : Exit → Act → World → Prop), (∀ ι' v' w', VR ι' v v' → Rel P w0 ι' s' w' → Grow ι ι' s.next s'.next → K (a.put o.dst v') w') →
      (if Region.wanted o (yielded ops a.tmps) then o.wp P a w K Q ∨ (o.asks P a w ∧ LetsOut Q) else K (a.put o.dst undef) w) := by
  unfold stepV at hm
  rw [aWanted_eq ht ops o] at hm
  cases hw : Region.wanted o (yielded ops a.tmps)
  · rw [hw, cond_false] at hm
    obtain ⟨rfl, rfl⟩ := pure_some hm
    exact ⟨Nat.le_refl _, fun K Q hK => by rw [if_neg (by simp)]; exact hK ι _ w (undef_rel ι) hr (Grow.refl ι _ _)⟩
  · rw [hw, cond_true] at hm
    obtain ⟨h1, h2⟩ := aStep_ok hc ht.ev hwf hr hm hf
    exact ⟨h1, fun K Q hK => by rw [if_pos rfl]; exact Or.inl (h2 K Q hK)⟩

/-- A row of operations, one behind the other. -/
def aSeq (call : FuncId → List Value → M Value) (P : Program) (n : Nat) (ops : List Oper) : List Oper → Tm → M Tm
  | [], tm => M.pure tm
  | o :: rest, tm => M.bind (stepV call P ops tm o) fun v => M.bind (lift (tput n tm o.dst v)) fun tm' => aSeq call P n ops rest tm'
theorem Local.aSeq (call : FuncId → List Value → M Value) (P : Program) (n : Nat) (ops : List Oper) (h : ∀ f vs, Local (call f vs)) : ∀ (l : List Oper) (tm : Tm), Local (aSeq call P n ops l tm)
  | [], tm => Local.pure _
  | o :: rest, tm => Local.bind (Local.stepV call P ops tm o h) fun v => Local.bind (Local.lift _) fun tm' => Local.aSeq call P n ops h rest tm'
theorem aSeq_le (hl : ∀ f vs, Local (call f vs)) {n : Nat} {ops : List Oper} (l : List Oper) (tm tm' : Tm) (s s' : St) (hw : Wf s) (h : aSeq call P n ops l tm s = some (tm', s')) : s.next ≤ s'.next := (Local.aSeq call P n ops hl l tm s tm' s' h hw).next
theorem aSeq_ok (hc : CallOK P w0 call) (hl : ∀ f vs, Local (call f vs)) {ops : Array Oper} {n : Nat} : ∀ (l : List Oper) (ι : Re) (tm tm' : Tm) (a : Act) (s s' : St) (w : World), Wf s → TmR ι n tm a → Rel P w0 ι s w → aSeq call P n ops.toList l tm s = some (tm', s') → Free ι s.next s'.next →
    s.next ≤ s'.next ∧ ∀ (Q : Exit → Act → World → Prop), (∀ ι' a' w', TmR ι' n tm' a' → Rel P w0 ι' s' w' → Grow ι ι' s.next s'.next → a'.defers = a.defers → Q .normal a' w') → wpList P ops Q l a w
  | [], ι, tm, tm', a, s, s', w, hwf, ht, hr, hm, hf => by
    obtain ⟨rfl, rfl⟩ := pure_some hm
    exact ⟨Nat.le_refl _, fun Q hQ => hQ ι a w ht hr (Grow.refl ι _ _) rfl⟩
  | o :: rest, ι, tm, tm', a, s, s', w, hwf, ht, hr, hm, hf => by
    unfold aSeq at hm
    obtain ⟨v, s1, h1, hm1⟩ := bind_some hm
    obtain ⟨tm1, s2, h2, hm2⟩ := bind_some hm1
    obtain ⟨hp, rfl⟩ := lift_some h2
    have hwf2 : Wf s2 := (Local.stepV call P ops.toList tm o hl s v s2 h1 hwf).wf
    have hle2 : s2.next ≤ s'.next := (aSeq_le hl rest tm1 tm' s2 s' hwf2 hm2)
    obtain ⟨hle1, hstep⟩ := stepV_ok hc ht hwf hr h1 (hf.left hle2)
    refine ⟨Nat.le_trans hle1 hle2, fun Q hQ => ?_⟩
    unfold wpList
    refine hstep _ Q fun ι1 v1 w1 q1 q2 q3 => ?_
    have ht1 := tput_rel hp (ht.mono (q3.mono (hf.left hle2))) q1
    obtain ⟨-, hrest⟩ := aSeq_ok hc hl rest ι1 tm1 tm' _ s2 s' w1 hwf2 ht1 q2 hm2 (hf.right q3 hle1)
    refine hrest Q fun ι2 a2 w2 r1 r2 r3 r4 => hQ ι2 a2 w2 r1 r2 (q3.trans r3 hle1 hle2) ?_
    rw [r4]
    cases o.dst <;> rfl
end
end Go.Proofs.YtnpbnpilhmbpoaaGreat

/- The closed run: rows of operations whose order Go leaves open. -/
namespace Go.Proofs.YtnpbnpilhmbpoaaGreat
open Go.RowKit

/-! An operation looks at its own operands alone. -/
theorem evL_congr {e1 e2 : Ev} : ∀ (l : List Operand), (∀ x ∈ l, e1 x = e2 x) → evL e1 l = evL e2 l
  | [], _ => rfl
  | x :: l, h => by unfold evL; rw [h x (List.mem_cons_self ..), evL_congr l fun y hy => h y (List.mem_cons_of_mem _ hy)]
theorem evPs_congr {e1 e2 : Ev} : ∀ (l : List (Nat × Operand)), (∀ p ∈ l, e1 p.2 = e2 p.2) → evPs e1 l = evPs e2 l
  | [], _ => rfl
  | (i, x) :: l, h => by unfold evPs; rw [h (i, x) (List.mem_cons_self ..), evPs_congr l fun y hy => h y (List.mem_cons_of_mem _ hy)]
theorem evO_congr {e1 e2 : Ev} (x : Option Operand) (h : ∀ y ∈ x.toArray, e1 y = e2 y) : evO e1 x = evO e2 x := by
  cases x with
  | none => rfl
  | some x => simp only [evO]; rw [h x (by simp)]
theorem aStep_congr (call : FuncId → List Value → M Value) (P : Program) {e1 e2 : Ev} (o : Oper) (h : ∀ x ∈ o.op.operands, e1 x = e2 x) : aStep call P e1 o = aStep call P e2 o := by
  obtain ⟨dst, op, type, pos, after, guard⟩ := o
  unfold aStep
  cases op <;> simp only [Op.operands] at h <;> simp only [callOf]
  case call c =>
    obtain ⟨callee, args, ts⟩ := c
    cases callee with
    | value f =>
      simp only [Call.operands] at h
      unfold aCallV
      simp only
      rw [h f (by simp), evL_congr args.toList fun x hx => h x (by simp; exact Or.inr (by simpa using hx))]
    | invoke r n => rfl
    | builtin b =>
      simp only [Call.operands] at h
      simp only [aOp]
      rw [evL_congr args.toList fun x hx => h x (by simpa using hx)]
  case build t ps => simp only [aOp]; rw [evPs_congr ps.toList fun p hp => h p.2 (by simp; exact ⟨p.1, by simpa using hp⟩)]
  case buildSlice t n ps => simp only [aOp]; rw [evPs_congr ps.toList fun p hp => h p.2 (by simp; exact ⟨p.1, by simpa using hp⟩)]
  case makeFunc fn f c => simp only [aOp]; rw [evL_congr f.toList fun x hx => h x (by simp; exact Or.inl (by simpa using hx)), evL_congr c.toList fun x hx => h x (by simp; exact Or.inr (by simpa using hx))]
  case slice t x lo hi mx => simp only [aOp]; rw [h x (by simp), evO_congr lo fun y hy => h y (by simp only [Array.mem_append]; exact Or.inl (Or.inl (Or.inr hy))), evO_congr hi fun y hy => h y (by simp only [Array.mem_append]; exact Or.inl (Or.inr hy)), evO_congr mx fun y hy => h y (by simp only [Array.mem_append]; exact Or.inr hy)]
  case makeMap t r => cases r <;> rfl
  case pick c a b =>
    simp only [aOp]
    rw [h c (by simp)]
    congr 1
    funext vc
    congr 1
    funext t
    cases t
    · rw [cond_false, h b (by simp)]
    · rw [cond_true, h a (by simp)]
  all_goals simp only [aOp]
  all_goals (first | rfl | simp_all)
theorem evT_congr {t1 t2 : Tm} {x : Operand} (h : ∀ t, x = .tmp t → tget t1 t = tget t2 t) : evT t1 x = evT t2 x := by
  cases x <;> simp only [evT]
  rw [h _ rfl]
theorem stepV_congr (call : FuncId → List Value → M Value) (P : Program) (ops : Array Oper) {t1 t2 : Tm} (o : Oper) (h : ∀ t ∈ o.looksAt ops, tget t1 t = tget t2 t) : stepV call P ops.toList t1 o = stepV call P ops.toList t2 o := by
  have hw : aWanted ops.toList t1 o = aWanted ops.toList t2 o := by
    unfold aWanted
    cases hg : o.guard with
    | none => rfl
    | some g =>
      obtain ⟨j, want⟩ := g
      simp only [Array.getElem?_toList]
      cases ho : ops[j]? with
      | none => rfl
      | some oj =>
        cases hd : oj.dst with
        | none => simp [hd]
        | some t => simp only [hd]; rw [h t (by simp [Oper.looksAt, hg, ho, hd])]
  unfold stepV
  rw [hw, aStep_congr call P o fun x hx => evT_congr fun t ht => h t (by
    subst ht
    exact List.mem_append_left _ (List.mem_filterMap.2 ⟨.tmp t, by simpa using hx, rfl⟩))]

/-! Which operation comes ahead of which one. -/
def edgesOf (o : Oper) : List Nat := (o.after.toList.filter (fun e => Region.binds .any e)).map (·.on)
def orMasks (acc : List Nat) : List Nat → Nat
  | [] => 0
  | e :: l => (2 ^ e ||| (acc[e]?).getD 0) ||| orMasks acc l
/-- For each operation, as bits, those that come ahead of it. -/
def masksL : List Oper → List Nat → List Nat
  | [], acc => acc
  | o :: l, acc => masksL l (acc ++ [orMasks acc (edgesOf o)])
theorem orMasks_bit (acc : List Nat) (i : Nat) : ∀ (l : List Nat), (orMasks acc l).testBit i = true → ∃ e ∈ l, i = e ∨ ((acc[e]?).getD 0).testBit i = true
  | [], h => by simp [orMasks] at h
  | e :: l, h => by
    simp only [orMasks, Nat.testBit_or, Bool.or_eq_true, Nat.testBit_two_pow] at h
    rcases h with (h | h) | h
    · exact ⟨e, List.mem_cons_self .., Or.inl (Eq.symm (by simpa using h : e = i))⟩
    · exact ⟨e, List.mem_cons_self .., Or.inr h⟩
    · obtain ⟨e', h1, h2⟩ := orMasks_bit acc i l h
      exact ⟨e', List.mem_cons_of_mem _ h1, h2⟩
theorem masksL_prefix : ∀ (l : List Oper) (acc : List Nat) (j : Nat), j < acc.length → (masksL l acc)[j]? = acc[j]?
  | [], acc, j, h => rfl
  | o :: l, acc, j, h => by
    unfold masksL
    rw [masksL_prefix l _ j (by simp; omega), List.getElem?_append_left h]
/-- A set of operations that holds with each one what comes right ahead of it, holds all that comes ahead. -/
theorem mask_closed (L : Nat → Prop) (ops : List Oper) (hL : ∀ j o, ops[j]? = some o → L j → ∀ e ∈ edgesOf o, L e) : ∀ (l : List Oper) (acc : List Nat), acc.length + l.length = ops.length → (∀ j, l[j]? = ops[acc.length + j]?) →
    (∀ j i, L j → ((acc[j]?).getD 0).testBit i = true → L i) → ∀ j i, L j → (((masksL l acc)[j]?).getD 0).testBit i = true → L i
  | [], acc, _, _, h, j, i, hj, hb => h j i hj hb
  | o :: l, acc, hlen, hpos, h, j, i, hj, hb => by
    unfold masksL at hb
    refine mask_closed L ops hL l (acc ++ [orMasks acc (edgesOf o)]) (by simp at hlen ⊢; omega) (fun j => ?_) (fun j i hj hb => ?_) j i hj hb
    · have := hpos (j + 1)
      simp at this ⊢
      rw [this]
      congr 1
      omega
    · rcases Nat.lt_trichotomy j acc.length with h1 | h1 | h1
      · rw [List.getElem?_append_left h1] at hb
        exact h j i hj hb
      · subst h1
        simp at hb
        obtain ⟨e, he, hie⟩ := orMasks_bit acc i _ hb
        have ho : ops[acc.length]? = some o := by have := hpos 0; simpa using this.symm
        have hLe := hL _ o ho hj e he
        rcases hie with rfl | hie
        · exact hLe
        · exact h e i hLe hie
      · rw [List.getElem?_append_right (by omega)] at hb
        cases hd : j - acc.length with
        | zero => omega
        | succ n => rw [hd] at hb; simp at hb
/-- What comes ahead of an operation, lies in a set that holds what comes right ahead of it. -/
theorem mask_ready (L : Nat → Prop) (ops : List Oper) (hL : ∀ j o, ops[j]? = some o → L j → ∀ e ∈ edgesOf o, L e) {m : Nat} {o : Oper} (ho : ops[m]? = some o) (hm : ∀ e ∈ edgesOf o, L e) (i : Nat) (hb : (((masksL ops [])[m]?).getD 0).testBit i = true) : L i ∨ i = m := by
  have := mask_closed (fun j => L j ∨ j = m) ops (fun j o' ho' hj e he => by
    rcases hj with hj | rfl
    · exact Or.inl (hL j o' ho' hj e he)
    · rw [ho] at ho'; cases ho'; exact Or.inl (hm e he)) ops [] (by simp) (fun j => by simp) (fun j i _ hb => by simp at hb) m i (Or.inr rfl) hb
  exact this

/-! What is asked of a row once: edges go back; what an operation looks at, and what another one yields, are ordered. -/
def tmpsClash (ops : Array Oper) (x y : Oper) : Bool := (match x.dst with
    | some d => (y.looksAt ops).contains d || y.dst == some d
    | none => false) || (match y.dst with
    | some d => (x.looksAt ops).contains d
    | none => false)
def staticOK (ops : Array Oper) : Bool := (List.range ops.size).all fun k => match ops[k]? with
  | none => true
  | some ok => (edgesOf ok).all (fun e => Nat.blt e k) && (List.range k).all fun j => match ops[j]? with
    | none => true
    | some oj => !(tmpsClash ops oj ok) || (((masksL ops.toList [])[k]?).getD 0).testBit j

/-! What is asked of a run of it. -/
def anyIn (f : Nat → Bool) : List Nat → Bool
  | [] => false
  | b :: l => cond (f b) true (anyIn f l)
theorem anyIn_false {f : Nat → Bool} : ∀ {l : List Nat}, anyIn f l = false → ∀ b ∈ l, f b = false
  | [], _, b, hb => by cases hb
  | c :: l, h, b, hb => by
    unfold anyIn at h
    cases hc : f c
    · rw [hc, cond_false] at h
      rcases List.mem_cons.1 hb with rfl | hb
      · exact hc
      · exact anyIn_false h b hb
    · rw [hc] at h; cases h
def inRange (lo hi b : Nat) : Bool := cond (Nat.ble lo b) (Nat.blt b hi) false
/-- Do two steps touch the same, and one of them changes it? (a comes ahead of b in the text.) -/
def clash (a b : Info) : Bool := anyIn (fun x => memN x b.rd) a.wr || (anyIn (fun x => memN x b.wr) a.wr || (cond (Nat.beq a.lo a.hi) false (anyIn (inRange a.lo a.hi) b.rd || anyIn (inRange a.lo a.hi) b.wr) || anyIn (fun x => memN x a.rd) b.wr))
def restOK (masks : List Nat) (a : Info) (j : Nat) : Nat → List Info → Bool
  | _, [] => true
  | k, b :: l => cond (clash a b) (cond (((masks[k]?).getD 0).testBit j) (restOK masks a j (k + 1) l) false) (restOK masks a j (k + 1) l)
def pairsOK (masks : List Nat) : Nat → List Info → Bool
  | _, [] => true
  | j, a :: l => cond (restOK masks a j (j + 1) l) (pairsOK masks (j + 1) l) false
theorem restOK_spec (masks : List Nat) (a : Info) (j : Nat) : ∀ (l : List Info) (k : Nat), restOK masks a j k l = true → ∀ i b, l[i]? = some b → clash a b = true → ((masks[k + i]?).getD 0).testBit j = true
  | [], k, h, i, b, hb, _ => by simp at hb
  | c :: l, k, h, i, b, hb, hc => by
    unfold restOK at h
    cases i with
    | zero =>
      simp at hb
      subst hb
      rw [hc, cond_true] at h
      rw [Nat.add_zero]
      cases ht : ((masks[k]?).getD 0).testBit j
      · rw [ht] at h; cases h
      · rfl
    | succ i =>
      have h2 : restOK masks a j (k + 1) l = true := by
        cases hcc : clash a c
        · rw [hcc, cond_false] at h; exact h
        · rw [hcc, cond_true] at h
          cases ht : ((masks[k]?).getD 0).testBit j
          · rw [ht] at h; cases h
          · rw [ht, cond_true] at h; exact h
      have := restOK_spec masks a j l (k + 1) h2 i b (by simpa using hb) hc
      rw [show k + (i + 1) = k + 1 + i by omega]
      exact this
theorem pairsOK_spec (masks : List Nat) : ∀ (l : List Info) (s : Nat), pairsOK masks s l = true → ∀ i j a b, i < j → l[i]? = some a → l[j]? = some b → clash a b = true → ((masks[s + j]?).getD 0).testBit (s + i) = true
  | [], s, h, i, j, a, b, _, ha, _, _ => by simp at ha
  | c :: l, s, h, i, j, a, b, hij, ha, hb, hc => by
    unfold pairsOK at h
    cases hr : restOK masks c s (s + 1) l
    · rw [hr] at h; cases h
    rw [hr, cond_true] at h
    cases j with
    | zero => omega
    | succ j =>
      simp at hb
      cases i with
      | zero =>
        simp at ha
        subst ha
        have := restOK_spec masks c s l (s + 1) hr j b hb hc
        rw [show s + (j + 1) = s + 1 + j by omega, Nat.add_zero]
        exact this
      | succ i =>
        simp at ha
        have := pairsOK_spec masks l (s + 1) h i j a b (by omega) ha hb hc
        rw [show s + (j + 1) = s + 1 + j by omega, show s + (i + 1) = s + 1 + i by omega]
        exact this
def aDr (call : FuncId → List Value → M Value) (P : Program) (n : Nat) (ops : List Oper) : List Oper → Tm → M (Tm × List Info)
  | [], tm => M.pure (tm, [])
  | o :: rest, tm => M.bind (withLog (stepV call P ops tm o)) fun r => M.bind (lift (tput n tm o.dst r.1)) fun tm' => M.bind (aDr call P n ops rest tm') fun q => M.pure (q.1, r.2 :: q.2)
def aDrawn (call : FuncId → List Value → M Value) (P : Program) (n : Nat) (ops : List Oper) (tm : Tm) : M Tm := M.bind (aDr call P n ops ops tm) fun q => cond (pairsOK (masksL ops []) 0 q.2) (M.pure q.1) M.fail
theorem Local.aDr (call : FuncId → List Value → M Value) (P : Program) (n : Nat) (ops : List Oper) (h : ∀ f vs, Local (call f vs)) : ∀ (l : List Oper) (tm : Tm), Local (aDr call P n ops l tm)
  | [], tm => Local.pure _
  | o :: rest, tm => Local.bind (Local.withLog (Local.stepV call P ops tm o h)) fun r => Local.bind (Local.lift _) fun tm' => Local.bind (Local.aDr call P n ops h rest tm') fun q => Local.pure _
theorem Local.aDrawn (call : FuncId → List Value → M Value) (P : Program) (n : Nat) (ops : List Oper) (tm : Tm) (h : ∀ f vs, Local (call f vs)) : Local (aDrawn call P n ops tm) := Local.bind (Local.aDr call P n ops h ops tm) fun q => Local.cond (Local.pure _) Local.fail

/-- The run in the text's order, step by step. -/
structure Trace (call : FuncId → List Value → M Value) (P : Program) (n : Nat) (ops : List Oper) (l : List Oper) (T : Nat → Tm) (S : Nat → St) (V : Nat → Value) (S' : Nat → St) (is : List Info) : Prop where
  step : ∀ k o, l[k]? = some o → stepV call P ops (T k) o (S k).fresh = some (V k, S' k) ∧ tput n (T k) o.dst (V k) = some (T (k + 1)) ∧ (∀ b, (S (k + 1)).heap.get b = (S' k).heap.get b) ∧ (S (k + 1)).next = (S' k).next ∧ is[k]? = some ⟨(S k).next, (S' k).next, (S' k).rd, (S' k).wr⟩
theorem trace_of (call : FuncId → List Value → M Value) (P : Program) (n : Nat) (ops : List Oper) : ∀ (l : List Oper) (tm : Tm) (s : St) (q : Tm × List Info) (s' : St), aDr call P n ops l tm s = some (q, s') →
    ∃ T S V S', T 0 = tm ∧ S 0 = s ∧ T l.length = q.1 ∧ S l.length = s' ∧ Trace call P n ops l T S V S' q.2
  | [], tm, s, q, s', h => by
    obtain ⟨rfl, rfl⟩ := pure_some h
    exact ⟨fun _ => tm, fun _ => s', fun _ => undef, fun _ => s', rfl, rfl, rfl, rfl, ⟨fun k o ho => by simp at ho⟩⟩
  | o :: rest, tm, s, q, s', h => by
    unfold aDr at h
    obtain ⟨r, s1, h1, h2⟩ := bind_some h
    obtain ⟨tm', s2, h3, h4⟩ := bind_some h2
    obtain ⟨hp, rfl⟩ := lift_some h3
    obtain ⟨q', s3, h5, h6⟩ := bind_some h4
    obtain ⟨rfl, rfl⟩ := pure_some h6
    obtain ⟨s4, g1, g2, g3⟩ := withLog_some h1
    obtain ⟨T, S, V, S', e1, e2, e3, e4, tr⟩ := trace_of call P n ops rest tm' s2 q' s' h5
    refine ⟨fun k => match k with | 0 => tm | k + 1 => T k, fun k => match k with | 0 => s | k + 1 => S k, fun k => match k with | 0 => r.1 | k + 1 => V k, fun k => match k with | 0 => s4 | k + 1 => S' k, rfl, rfl, by simpa using e3, by simpa using e4, ⟨fun k o' ho' => ?_⟩⟩
    cases k with
    | zero =>
      simp at ho'
      subst ho'
      refine ⟨g1, by simp only; rw [e1]; exact hp, fun b => by simp only; rw [e2, g3], by simp only; rw [e2, g3], by simp [g2]⟩
    | succ k =>
      have := tr.step k o' (by simpa using ho')
      simpa using this
end Go.Proofs.YtnpbnpilhmbpoaaGreat

/- The closed run: a row whose order is open comes, in any order, to what it comes to in the text's order. -/
namespace Go.Proofs.YtnpbnpilhmbpoaaGreat
open Go.RowKit

section
variable {P : Program} {w0 : World} {call : FuncId → List Value → M Value} {n : Nat} {ops : Array Oper} {T : Nat → Tm} {S S' : Nat → St} {V : Nat → Value} {is : List Info}

theorem toL {j : Nat} {o : Oper} (h : ops[j]? = some o) : ops.toList[j]? = some o := by rw [Array.getElem?_toList]; exact h
theorem tput_again {tm tm1 : Tm} {d : Option Tmp} {v : Value} (h : tput n tm d v = some tm1) (tm2 : Tm) : ∃ tm', tput n tm2 d v = some tm' := by
  cases d with
  | none => exact ⟨_, rfl⟩
  | some d =>
    unfold tput at h ⊢
    simp only [cond_blt] at h ⊢
    by_cases h1 : d < n
    · by_cases h2 : d < mostB
      · exact ⟨_, by rw [if_pos h1, if_pos h2]⟩
      · rw [if_pos h1, if_neg h2] at h; cases h
    · rw [if_neg h1] at h; cases h
def Wt (S S' : Nat → St) (j b : Nat) : Prop := b ∈ (S' j).wr ∨ ((S j).next ≤ b ∧ b < (S' j).next)
def Ft (S S' : Nat → St) (j b : Nat) : Prop := b ∈ (S' j).rd ∨ Wt S S' j b

theorem tr_local (hl : ∀ f vs, Local (call f vs)) (tr : Trace call P n ops.toList ops.toList T S V S' is) {j : Nat} {o : Oper} (ho : ops[j]? = some o) : Local1 (stepV call P ops.toList (T j) o) (S j).fresh (V j) (S' j) :=
  Local.stepV call P ops.toList (T j) o hl _ _ _ (tr.step j o (toL ho)).1 (Wf.fresh _)
theorem tr_next (hl : ∀ f vs, Local (call f vs)) (tr : Trace call P n ops.toList ops.toList T S V S' is) {j : Nat} (hj : j < ops.size) : (S j).next ≤ (S' j).next ∧ (S (j + 1)).next = (S' j).next := by
  have ho : ops[j]? = some ops[j] := Array.getElem?_eq_getElem hj
  exact ⟨(tr_local hl tr ho).next, (tr.step j _ (toL ho)).2.2.2.1⟩
theorem tr_le (hl : ∀ f vs, Local (call f vs)) (tr : Trace call P n ops.toList ops.toList T S V S' is) : ∀ (d j : Nat), j + d ≤ ops.size → (S j).next ≤ (S (j + d)).next
  | 0, j, _ => Nat.le_refl _
  | d + 1, j, h => by
    have h1 := tr_le hl tr d j (by omega)
    obtain ⟨h2, h3⟩ := tr_next hl tr (j := j + d) (by omega)
    rw [show j + (d + 1) = j + d + 1 by omega, h3]
    omega
theorem tr_le' (hl : ∀ f vs, Local (call f vs)) (tr : Trace call P n ops.toList ops.toList T S V S' is) {j k : Nat} (hjk : j ≤ k) (hk : k ≤ ops.size) : (S j).next ≤ (S k).next := by
  have := tr_le hl tr (k - j) j (by omega)
  rwa [show j + (k - j) = k by omega] at this
theorem tr_below (hl : ∀ f vs, Local (call f vs)) (tr : Trace call P n ops.toList ops.toList T S V S' is) {j b : Nat} (hj : j < ops.size) (h : b ∈ (S' j).rd ∨ b ∈ (S' j).wr) : b < (S j).next := by
  have ho : ops[j]? = some ops[j] := Array.getElem?_eq_getElem hj
  have l := tr_local hl tr ho
  have hb : (S' j).base = (S j).next := l.base
  rw [← hb]
  rcases h with h | h
  · exact l.wf.rd b h
  · exact l.wf.wr b h
theorem tr_frame (hl : ∀ f vs, Local (call f vs)) (tr : Trace call P n ops.toList ops.toList T S V S' is) {j b : Nat} (hj : j < ops.size) (h : ¬ Wt S S' j b) : (S (j + 1)).heap.get b = (S j).heap.get b := by
  have ho : ops[j]? = some ops[j] := Array.getElem?_eq_getElem hj
  have l := tr_local hl tr ho
  rw [(tr.step j _ (toL ho)).2.2.1 b]
  exact l.frame b (fun h1 => h (Or.inl h1)) (fun h1 => h (Or.inr h1))
theorem tr_foot (hl : ∀ f vs, Local (call f vs)) (tr : Trace call P n ops.toList ops.toList T S V S' is) {j b : Nat} (hj : j < ops.size) : Foot (S' j) b ↔ Ft S S' j b := by
  have ho : ops[j]? = some ops[j] := Array.getElem?_eq_getElem hj
  have l := tr_local hl tr ho
  have hb : (S' j).base = (S j).next := l.base
  unfold Foot Ft Wt
  rw [hb]
theorem tr_clash (hl : ∀ f vs, Local (call f vs)) (tr : Trace call P n ops.toList ops.toList T S V S' is) {j k b : Nat} (hjk : j < k) (hk : k < ops.size) (h : Wt S S' j b ∧ Ft S S' k b ∨ Ft S S' j b ∧ Wt S S' k b) :
    clash ⟨(S j).next, (S' j).next, (S' j).rd, (S' j).wr⟩ ⟨(S k).next, (S' k).next, (S' k).rd, (S' k).wr⟩ = true := by
  cases hc : clash ⟨(S j).next, (S' j).next, (S' j).rd, (S' j).wr⟩ ⟨(S k).next, (S' k).next, (S' k).rd, (S' k).wr⟩
  · exfalso
    unfold clash at hc
    simp only [Bool.or_eq_false_iff] at hc
    obtain ⟨h1, h2, h3, h4⟩ := hc
    have n1 : ∀ x ∈ (S' j).wr, x ∉ (S' k).rd := fun x hx hx2 => by have := anyIn_false h1 x hx; rw [(memN_iff ..).2 hx2] at this; cases this
    have n2 : ∀ x ∈ (S' j).wr, x ∉ (S' k).wr := fun x hx hx2 => by have := anyIn_false h2 x hx; rw [(memN_iff ..).2 hx2] at this; cases this
    have n4 : ∀ x ∈ (S' k).wr, x ∉ (S' j).rd := fun x hx hx2 => by have := anyIn_false h4 x hx; rw [(memN_iff ..).2 hx2] at this; cases this
    have n3 : ∀ x, (S j).next ≤ x → x < (S' j).next → x ∉ (S' k).rd ∧ x ∉ (S' k).wr := fun x hx1 hx2 => by
      rw [cond_beq, if_neg (by omega)] at h3
      simp only [Bool.or_eq_false_iff] at h3
      have hin : inRange (S j).next (S' j).next x = true := by unfold inRange; rw [Nat.ble_eq_true_of_le hx1, cond_true]; exact Nat.ble_eq_true_of_le hx2
      refine ⟨fun h => ?_, fun h => ?_⟩
      · have := anyIn_false h3.1 x h; rw [hin] at this; cases this
      · have := anyIn_false h3.2 x h; rw [hin] at this; cases this
    have hle1 := (tr_next hl tr (j := j) (by omega))
    have hle2 := tr_le' hl tr (j := j + 1) (k := k) (by omega) (by omega)
    have key : ∀ b, Wt S S' j b → Ft S S' k b → False := fun b hw hf => by
      rcases hw with hw | hw
      · have hlt := tr_below hl tr (j := j) (by omega) (Or.inr hw)
        rcases hf with hf | hf | hf
        · exact n1 b hw hf
        · exact n2 b hw hf
        · omega
      · rcases hf with hf | hf | hf
        · exact (n3 b hw.1 hw.2).1 hf
        · exact (n3 b hw.1 hw.2).2 hf
        · omega
    rcases h with ⟨hw, hf⟩ | ⟨hf, hw⟩
    · exact key b hw hf
    · rcases hf with hf | hf
      · have hlt := tr_below hl tr (j := j) (by omega) (Or.inl hf)
        rcases hw with hw | hw
        · exact n4 b hw hf
        · omega
      · exact key b hf (Or.inr hw)
  · rfl

def Ahead (ops : Array Oper) (j k : Nat) : Prop := (((masksL ops.toList [])[k]?).getD 0).testBit j = true
theorem heap_ahead (hl : ∀ f vs, Local (call f vs)) (tr : Trace call P n ops.toList ops.toList T S V S' is) (hp : pairsOK (masksL ops.toList []) 0 is = true) {j k b : Nat} (hjk : j < k) (hk : k < ops.size) (h : Wt S S' j b ∧ Ft S S' k b ∨ Ft S S' j b ∧ Wt S S' k b) : Ahead ops j k := by
  have hj : ops[j]? = some (ops[j]'(by omega)) := Array.getElem?_eq_getElem (by omega)
  have hk' : ops[k]? = some ops[k] := Array.getElem?_eq_getElem hk
  have := pairsOK_spec _ is 0 hp j k _ _ hjk (tr.step j _ (toL hj)).2.2.2.2 (tr.step k _ (toL hk')).2.2.2.2 (tr_clash hl tr hjk hk h)
  simpa [Ahead] using this
theorem static_spec (hs : staticOK ops = true) {k : Nat} {ok : Oper} (hk : ops[k]? = some ok) : (∀ e ∈ edgesOf ok, e < k) ∧ ∀ j oj, j < k → ops[j]? = some oj → tmpsClash ops oj ok = true → Ahead ops j k := by
  have hks : k < ops.size := (Array.getElem?_eq_some_iff.1 hk).1
  unfold staticOK at hs
  rw [List.all_eq_true] at hs
  have h1 := hs k (List.mem_range.2 hks)
  simp only [hk, Bool.and_eq_true, List.all_eq_true] at h1
  refine ⟨fun e he => ?_, fun j oj hj hoj hc => ?_⟩
  · have := h1.1 e he
    exact Nat.le_of_ble_eq_true this
  · have := h1.2 j (List.mem_range.2 hj)
    simp only [hoj, hc, Bool.not_true, Bool.false_or] at this
    exact this

/-- How far a run in another order has come. -/
structure Inv (P : Program) (w0 : World) (n : Nat) (ops : Array Oper) (T : Nat → Tm) (S S' : Nat → St) (ι0 : Re) (d0 : List Deferred) (listed : Array Bool) (TM : Tm) (H : St) (ι : Re) (a : Act) (w : World) : Prop where
  size : listed.size = ops.size
  closed : ∀ j o, ops[j]? = some o → listed.getD j false = true → ∀ e ∈ edgesOf o, listed.getD e false = true
  tm : ∀ k, k ≤ ops.size → ∀ t, (∀ j o, ops[j]? = some o → o.dst = some t → (listed.getD j false = true ↔ j < k)) → tget TM t = tget (T k) t
  heap : ∀ k, k ≤ ops.size → ∀ b, (∀ j, j < ops.size → Wt S S' j b → (listed.getD j false = true ↔ j < k)) → H.heap.get b = (S k).heap.get b
  rel : Rel P w0 ι H w
  act : TmR ι n TM a
  free : ∀ j, j < ops.size → listed.getD j false = false → Free ι (S j).next (S' j).next
  grow : Grow ι0 ι (S 0).next (S ops.size).next
  defers : a.defers = d0

theorem getD_set {listed : Array Bool} {m j : Nat} (hm : m < listed.size) : (listed.setIfInBounds m true).getD j false = true ↔ (j = m ∨ listed.getD j false = true) := by
  rw [Array.getD_eq_getD_getElem?, Array.getElem?_setIfInBounds, Array.getD_eq_getD_getElem?]
  by_cases e : m = j
  · subst e; simp [hm]
  · rw [if_neg e]
    exact ⟨Or.inr, fun h => h.resolve_left (fun e' => e e'.symm)⟩

theorem Inv.next (hl : ∀ f vs, Local (call f vs)) (hc : CallOK P w0 call) (tr : Trace call P n ops.toList ops.toList T S V S' is) (hp : pairsOK (masksL ops.toList []) 0 is = true) (hs : staticOK ops = true)
    {ι0 ι : Re} {d0 : List Deferred} {listed : Array Bool} {TM : Tm} {H : St} {a : Act} {w : World} (h : Inv P w0 n ops T S S' ι0 d0 listed TM H ι a w) {m : Nat} {o : Oper} (ho : ops[m]? = some o) (hun : listed.getD m false = false) (hed : ∀ e ∈ edgesOf o, listed.getD e false = true)
    (K : Act → World → Prop) (Q : Exit → Act → World → Prop) (hK : ∀ TM' H' ι' a' w', Inv P w0 n ops T S S' ι0 d0 (listed.setIfInBounds m true) TM' H' ι' a' w' → K a' w') :
    (if Region.wanted o (yielded ops a.tmps) then o.wp P a w K Q ∨ (o.asks P a w ∧ LetsOut Q) else K (a.put o.dst undef) w) := by
  have hm : m < ops.size := (Array.getElem?_eq_some_iff.1 ho).1
  have hml : m < listed.size := by rw [h.size]; exact hm
  have hnot : ¬ (listed.getD m false = true) := by rw [hun]; simp
  obtain ⟨g1, g2, g3, g4, g5⟩ := tr.step m o (toL ho)
  -- what comes ahead of m is listed; what m is ahead of is not
  have ahead_m : ∀ j, j ≠ m → Ahead ops j m → listed.getD j false = true := fun j hj hA => by
    have := mask_ready (fun j => listed.getD j false = true) ops.toList (fun j o' ho' hL e he => h.closed j o' (by simpa using ho') hL e he) (m := m) (o := o) (by simpa using ho) hed j hA
    exact this.resolve_right hj
  have m_ahead : ∀ j, Ahead ops m j → ¬ (listed.getD j false = true) := fun j hA hL => by
    have := mask_closed (fun j => listed.getD j false = true) ops.toList (fun j o' ho' hL e he => h.closed j o' (by simpa using ho') hL e he) ops.toList [] (by simp) (fun j => by simp) (fun j i _ hb => by simp at hb) j m hL hA
    exact hnot this
  -- the temporaries that m looks at
  have htm : ∀ t ∈ o.looksAt ops, tget TM t = tget (T m) t := fun t ht => h.tm m (Nat.le_of_lt hm) t fun j oj hoj hd => by
    rcases Nat.lt_trichotomy j m with h1 | h1 | h1
    · refine ⟨fun _ => h1, fun _ => ahead_m j (by omega) ((static_spec hs ho).2 j oj h1 hoj ?_)⟩
      unfold tmpsClash
      simp [hd, ht]
    · subst h1
      exact ⟨fun hL => absurd hL hnot, fun hL => absurd hL (Nat.lt_irrefl _)⟩
    · refine ⟨fun hL => absurd hL (m_ahead j ((static_spec hs hoj).2 m o h1 ho ?_)), fun hL => by omega⟩
      unfold tmpsClash
      simp [hd, ht]
  have hstep : stepV call P ops.toList TM o = stepV call P ops.toList (T m) o := stepV_congr call P ops o htm
  -- the blocks that m touches
  have hb : ∀ b, Ft S S' m b → H.heap.get b = (S m).heap.get b := fun b hfb => h.heap m (Nat.le_of_lt hm) b fun j hj hw => by
    rcases Nat.lt_trichotomy j m with h1 | h1 | h1
    · exact ⟨fun _ => h1, fun _ => ahead_m j (by omega) (heap_ahead hl tr hp h1 hm (Or.inl ⟨hw, hfb⟩))⟩
    · subst h1
      exact ⟨fun hL => absurd hL hnot, fun hL => absurd hL (Nat.lt_irrefl _)⟩
    · exact ⟨fun hL => absurd hL (m_ahead j (heap_ahead hl tr hp h1 hj (Or.inr ⟨hfb, hw⟩))), fun hL => by omega⟩
  have loc := tr_local hl tr ho
  -- the run of m, here
  obtain ⟨s', e1, al⟩ := loc.alike { H with next := (S m).next, base := (S m).next, rd := [], wr := [] } ⟨rfl, rfl, rfl, rfl, fun b hfb => hb b ((tr_foot hl tr hm).1 hfb)⟩
  rw [← hstep] at e1
  have loc' := Local.stepV call P ops.toList TM o hl _ _ _ e1 ⟨Nat.le_refl _, (fun b hb => by cases hb), (fun b hb => by cases hb)⟩
  have hn' : s'.next = (S' m).next := al.next
  have hrH : Rel P w0 ι { H with next := (S m).next, base := (S m).next, rd := [], wr := [] } w := h.rel.congr fun b => rfl
  obtain ⟨hle, hrun⟩ := stepV_ok hc h.act ⟨Nat.le_refl _, (fun b hb => by cases hb), (fun b hb => by cases hb)⟩ hrH e1 (by rw [hn']; exact h.free m hm hun)
  refine hrun K Q fun ι' v' w' q1 q2 q3 => ?_
  simp only at q3 hle
  rw [hn'] at q3
  obtain ⟨tm', htp⟩ := tput_again g2 TM
  have hmono := q3.mono (h.free m hm hun)
  refine hK tm' s' ι' _ w' ⟨by rw [Array.size_setIfInBounds]; exact h.size, fun j oj hoj hL e he => ?_, fun k hk t hP => ?_, fun k hk b hP => ?_, q2, tput_rel htp (h.act.mono hmono) q1, fun j hj hL => ?_, ?_, ?_⟩
  · rw [getD_set hml] at hL ⊢
    rcases hL with rfl | hL
    · rw [ho] at hoj; cases hoj; exact Or.inr (hed e he)
    · exact Or.inr (h.closed j oj hoj hL e he)
  · rw [tput_get htp]
    by_cases hd : o.dst = some t
    · rw [if_pos hd]
      have hmk : m < k := ((hP m o ho hd).1 ((getD_set hml).2 (Or.inl rfl)))
      -- none writes it behind m, up to k
      have hkk : ∀ d, m + 1 + d ≤ k → tget (T (m + 1 + d)) t = V m := fun d => by
        induction d with
        | zero => intro _; rw [Nat.add_zero, tput_get g2, if_pos hd]
        | succ d ih =>
          intro hdk
          have hj : m + 1 + d < ops.size := by omega
          have hoj : ops[m + 1 + d]? = some ops[m + 1 + d] := Array.getElem?_eq_getElem hj
          have hst := (tr.step (m + 1 + d) _ (toL hoj)).2.1
          rw [show m + 1 + (d + 1) = m + 1 + d + 1 by omega, tput_get hst, if_neg, ih (by omega)]
          intro hdj
          have hL := (hP _ _ hoj hdj).2 (by omega)
          rw [getD_set hml] at hL
          have hL2 := hL.resolve_left (by omega)
          refine m_ahead _ ((static_spec hs hoj).2 m o (by omega) ho ?_) hL2
          unfold tmpsClash
          simp [hd, hdj]
      have := hkk (k - (m + 1)) (by omega)
      rw [show m + 1 + (k - (m + 1)) = k by omega] at this
      exact this.symm
    · rw [if_neg hd]
      refine h.tm k hk t fun j oj hoj hdj => ?_
      have := hP j oj hoj hdj
      rw [getD_set hml] at this
      have hjm : j ≠ m := fun e => by subst e; rw [ho] at hoj; cases hoj; exact hd hdj
      rw [← this]
      exact ⟨Or.inr, fun h => h.resolve_left hjm⟩
  · by_cases hw : Wt S S' m b
    · have hmk : m < k := ((hP m hm hw).1 ((getD_set hml).2 (Or.inl rfl)))
      have hkk : ∀ d, m + 1 + d ≤ k → (S (m + 1 + d)).heap.get b = (S' m).heap.get b := fun d => by
        induction d with
        | zero => intro _; rw [Nat.add_zero]; exact g3 b
        | succ d ih =>
          intro hdk
          have hj : m + 1 + d < ops.size := by omega
          rw [show m + 1 + (d + 1) = m + 1 + d + 1 by omega, tr_frame hl tr hj, ih (by omega)]
          intro hwj
          have hL := (hP _ hj hwj).2 (by omega)
          rw [getD_set hml] at hL
          have hL2 := hL.resolve_left (by omega)
          exact m_ahead _ (heap_ahead hl tr hp (by omega) hj (Or.inl ⟨hw, Or.inr hwj⟩)) hL2
      have := hkk (k - (m + 1)) (by omega)
      rw [show m + 1 + (k - (m + 1)) = k by omega] at this
      rw [this]
      exact al.heap b ((tr_foot hl tr hm).2 (Or.inr hw))
    · have hw2 : b ∉ s'.wr ∧ ¬ ((S m).next ≤ b ∧ b < s'.next) := by
        rw [al.wr, hn']
        exact ⟨fun h => hw (Or.inl h), fun h => hw (Or.inr h)⟩
      rw [loc'.frame b hw2.1 hw2.2]
      refine h.heap k hk b fun j hj hwj => ?_
      have := hP j hj hwj
      rw [getD_set hml] at this
      have hjm : j ≠ m := fun e => by subst e; exact hw hwj
      rw [← this]
      exact ⟨Or.inr, fun h => h.resolve_left hjm⟩
  · have hL2 : ¬ ((listed.setIfInBounds m true).getD j false = true) := by rw [hL]; simp
    rw [getD_set hml] at hL2
    have hjm : j ≠ m := fun e => hL2 (Or.inl e)
    have hjl : listed.getD j false = false := by cases e : listed.getD j false; rfl; exact absurd (Or.inr e) hL2
    intro b h1 h2
    rw [q3 b]
    · exact h.free j hj hjl b h1 h2
    · rintro ⟨h3, h4⟩
      rcases Nat.lt_or_gt_of_ne hjm with h5 | h5
      · have := tr_le' hl tr (j := j + 1) (k := m) (by omega) (by omega)
        have := tr_next hl tr (j := j) hj
        omega
      · have := tr_le' hl tr (j := m + 1) (k := j) (by omega) (by omega)
        have := tr_next hl tr (j := m) hm
        omega
  · intro b hb0
    have h1 := tr_le' hl tr (j := 0) (k := m) (by omega) (by omega)
    have h2 := tr_le' hl tr (j := m + 1) (k := ops.size) (by omega) (by omega)
    have h3 := tr_next hl tr (j := m) hm
    rw [q3 b (by omega)]
    exact h.grow b hb0
  · rw [← h.defers]
    cases o.dst <;> rfl
end
end Go.Proofs.YtnpbnpilhmbpoaaGreat

/- The closed run: rows of open order, done; code; calls. -/
namespace Go.Proofs.YtnpbnpilhmbpoaaGreat
open Go.RowKit

section
variable {P : Program} {w0 : World} {call : FuncId → List Value → M Value}
theorem edges_mem {o : Oper} {e : Edge} (he : e ∈ o.after) (hb : Region.binds .any e = true) : e.on ∈ edgesOf o := by
  unfold edgesOf
  exact List.mem_map.2 ⟨e, List.mem_filter.2 ⟨by simpa using he, hb⟩, rfl⟩
theorem edges_of {o : Oper} {k : Nat} (h : k ∈ edgesOf o) : ∃ e ∈ o.after, Region.binds .any e = true ∧ e.on = k := by
  unfold edgesOf at h
  obtain ⟨e, h1, h2⟩ := List.mem_map.1 h
  obtain ⟨h3, h4⟩ := List.mem_filter.1 h1
  exact ⟨e, by simpa using h3, h4, h2⟩
theorem drawn_any (hl : ∀ f vs, Local (call f vs)) (hc : CallOK P w0 call) {n : Nat} {ops : Array Oper} {T : Nat → Tm} {S S' : Nat → St} {V : Nat → Value} {is : List Info} (tr : Trace call P n ops.toList ops.toList T S V S' is) (hp : pairsOK (masksL ops.toList []) 0 is = true) (hs : staticOK ops = true)
    {ι0 : Re} {d0 : List Deferred} (Q : Exit → Act → World → Prop) (hQ : ∀ ι' a' w', TmR ι' n (T ops.size) a' → Rel P w0 ι' (S ops.size) w' → Grow ι0 ι' (S 0).next (S ops.size).next → a'.defers = d0 → Q .normal a' w') :
    ∀ (fuel : Nat) (unl : List Nat) (listed : Array Bool) (TM : Tm) (H : St) (ι : Re) (a : Act) (w : World), unl.length = fuel → unl.Nodup → (∀ j, j ∈ unl ↔ (j < ops.size ∧ listed.getD j false = false)) → Inv P w0 n ops T S S' ι0 d0 listed TM H ι a w → wpAny P .any ops Q fuel listed a w := by
  have done : ∀ (listed : Array Bool) (TM : Tm) (H : St) (ι : Re) (a : Act) (w : World), (∀ j, j < ops.size → listed.getD j false = true) → Inv P w0 n ops T S S' ι0 d0 listed TM H ι a w → Q .normal a w := fun listed TM H ι a w hall h => by
    refine hQ ι a w ⟨h.act.size, fun t => ?_⟩ (h.rel.congr fun b => ?_) h.grow h.defers
    · rw [← h.tm ops.size (Nat.le_refl _) t fun j o ho _ => ⟨fun _ => (Array.getElem?_eq_some_iff.1 ho).1, fun _ => hall j (Array.getElem?_eq_some_iff.1 ho).1⟩]
      exact h.act.vals t
    · rw [h.heap ops.size (Nat.le_refl _) b fun j hj _ => ⟨fun _ => hj, fun _ => hall j hj⟩]
  -- the least that is not listed is ready
  have least : ∀ (unl : List Nat) (listed : Array Bool), listed.size = ops.size → (∀ j, j ∈ unl ↔ (j < ops.size ∧ listed.getD j false = false)) → Region.ready .any ops listed = [] → ∀ j, j ∈ unl → False := fun unl listed hsz hun hr j => by
    induction j using Nat.strongRecOn with
    | _ j ih =>
      intro hj
      obtain ⟨h1, h2⟩ := (hun j).1 hj
      have ho : ops[j]? = some ops[j] := Array.getElem?_eq_getElem h1
      have hmem : j ∈ Region.ready .any ops listed := mem_ready.2 ⟨by
        rw [Array.getD_eq_getD_getElem?] at h2 ⊢
        rw [Array.getElem?_eq_getElem (by rw [hsz]; exact h1)] at h2 ⊢
        exact h2, ops[j], ho, fun e he hb => by
          have hlt := (static_spec hs ho).1 _ (edges_mem he hb)
          cases hle : listed.getD e.on false
          · exact (ih _ hlt ((hun _).2 ⟨by omega, hle⟩)).elim
          · rfl⟩
      rw [hr] at hmem
      cases hmem
  intro fuel
  induction fuel with
  | zero =>
    intro unl listed TM H ι a w hlen hnd hun h
    have hnil : unl = [] := List.eq_nil_of_length_eq_zero hlen
    subst hnil
    have hall : ∀ j, j < ops.size → listed.getD j false = true := fun j hj => by
      cases hle : listed.getD j false
      · have := (hun j).2 ⟨hj, hle⟩; cases this
      · rfl
    refine ⟨?_, done listed TM H ι a w hall h⟩
    cases hr : Region.ready .any ops listed with
    | nil => rfl
    | cons j l =>
      have hmem : j ∈ Region.ready .any ops listed := by rw [hr]; exact List.mem_cons_self ..
      obtain ⟨h1, o, ho, _⟩ := mem_ready.1 hmem
      have hj : j < ops.size := (Array.getElem?_eq_some_iff.1 ho).1
      have := hall j hj
      rw [Array.getD_eq_getD_getElem?, Array.getElem?_eq_getElem (by rw [h.size]; exact hj)] at h1 this
      simp at h1 this
      rw [h1] at this
      cases this
  | succ fuel ih =>
    intro unl listed TM H ι a w hlen hnd hun h
    refine ⟨fun hr => ?_, fun m hm => ?_⟩
    · have := least unl listed h.size hun hr
      cases unl with
      | nil => simp at hlen
      | cons j l => exact (this j (List.mem_cons_self ..)).elim
    · obtain ⟨h1, o, ho, hed⟩ := mem_ready.1 hm
      have hms : m < ops.size := (Array.getElem?_eq_some_iff.1 ho).1
      have hml : m < listed.size := by rw [h.size]; exact hms
      have hun1 : listed.getD m false = false := by
        rw [Array.getD_eq_getD_getElem?, Array.getElem?_eq_getElem hml] at h1 ⊢
        exact h1
      have hed1 : ∀ e ∈ edgesOf o, listed.getD e false = true := fun e he => by
        obtain ⟨e', g1, g2, rfl⟩ := edges_of he
        exact hed e' g1 g2
      have hmem := (hun m).2 ⟨hms, hun1⟩
      unfold wpOp
      simp only [ho]
      refine h.next hl hc tr hp hs ho hun1 hed1 _ Q fun TM' H' ι' a' w' hi => ?_
      refine ih (unl.erase m) (listed.setIfInBounds m true) TM' H' ι' a' w' (by rw [List.length_erase_of_mem hmem]; omega) (hnd.erase m) (fun j => ?_) hi
      rw [hnd.mem_erase_iff, hun j]
      constructor
      · rintro ⟨g1, g2, g3⟩
        refine ⟨g2, ?_⟩
        cases hq : (listed.setIfInBounds m true).getD j false
        · rfl
        · rw [getD_set hml] at hq
          rcases hq with hq | hq
          · exact absurd hq g1
          · rw [g3] at hq; cases hq
      · rintro ⟨g2, g3⟩
        have : ¬ ((listed.setIfInBounds m true).getD j false = true) := by rw [g3]; simp
        rw [getD_set hml] at this
        refine ⟨fun e => this (Or.inl e), g2, ?_⟩
        cases hq : listed.getD j false
        · rfl
        · exact absurd (Or.inr hq) this
theorem Free.of_le {ι : Re} {a b c d : Nat} (h : Free ι a d) (h1 : a ≤ b) (h2 : c ≤ d) : Free ι b c := fun x g1 g2 => h x (by omega) (by omega)
theorem aDrawn_ok (hl : ∀ f vs, Local (call f vs)) (hc : CallOK P w0 call) {n : Nat} {ops : Array Oper} (hs : staticOK ops = true) {ι : Re} {tm tm' : Tm} {a : Act} {s s' : St} {w : World} (ht : TmR ι n tm a) (hr : Rel P w0 ι s w)
    (hm : aDrawn call P n ops.toList tm s = some (tm', s')) (hf : Free ι s.next s'.next) (Q : Exit → Act → World → Prop) (hQ : ∀ ι' a' w', TmR ι' n tm' a' → Rel P w0 ι' s' w' → Grow ι ι' s.next s'.next → a'.defers = a.defers → Q .normal a' w') :
    wpAny P .any ops Q ops.size (Array.replicate ops.size false) a w := by
  unfold aDrawn at hm
  obtain ⟨q, s1, h1, h2⟩ := bind_some hm
  obtain ⟨hp, h3⟩ := cond_fail h2
  obtain ⟨rfl, rfl⟩ := pure_some h3
  obtain ⟨T, S, V, S', e1, e2, e3, e4, tr⟩ := trace_of call P n ops.toList ops.toList tm s q s' h1
  rw [Array.length_toList] at e3 e4
  have hgd : ∀ j, (Array.replicate ops.size false).getD j false = false := fun j => by
    rw [Array.getD_eq_getD_getElem?, Array.getElem?_replicate]
    split <;> rfl
  refine drawn_any hl hc tr hp hs (ι0 := ι) (d0 := a.defers) Q (fun ι' a' w' g1 g2 g3 g4 => hQ ι' a' w' (by rw [← e3]; exact g1) (by rw [← e4]; exact g2) (by rw [← e2, ← e4]; exact g3) g4) ops.size (List.range ops.size) _ tm s ι a w (by simp) List.nodup_range (fun j => by rw [List.mem_range, hgd]; simp) ⟨by simp, (fun j o ho hL => by rw [hgd] at hL; cases hL), fun k hk t hP => ?_, fun k hk b hP => ?_, hr, ht, fun j hj _ => ?_, Grow.refl ι _ _, rfl⟩
  · -- none is listed: none ahead of k writes it
    have hkk : ∀ d, d ≤ k → tget (T d) t = tget tm t := fun d => by
      induction d with
      | zero => intro _; rw [e1]
      | succ d ih =>
        intro hd
        have ho : ops[d]? = some (ops[d]'(by omega)) := Array.getElem?_eq_getElem (by omega)
        rw [tput_get (tr.step d _ (toL ho)).2.1, if_neg, ih (by omega)]
        intro hdt
        have := (hP d _ ho hdt).2 (by omega)
        rw [hgd] at this
        cases this
    exact (hkk k (Nat.le_refl _)).symm
  · have hkk : ∀ d, d ≤ k → (S d).heap.get b = s.heap.get b := fun d => by
      induction d with
      | zero => intro _; rw [e2]
      | succ d ih =>
        intro hd
        rw [tr_frame hl tr (by omega), ih (by omega)]
        intro hw
        have := (hP d (by omega) hw).2 (by omega)
        rw [hgd] at this
        cases this
    exact (hkk k (Nat.le_refl _)).symm
  · have h4 := tr_le' hl tr (j := 0) (k := j) (by omega) (by omega)
    have h5 := tr_le' hl tr (j := j + 1) (k := ops.size) (by omega) (by omega)
    have h6 := tr_next hl tr hj
    rw [e2] at h4
    rw [e4] at h5
    exact hf.of_le h4 (by omega)
end
end Go.Proofs.YtnpbnpilhmbpoaaGreat

/- The closed run: code, and calls. -/
namespace Go.Proofs.YtnpbnpilhmbpoaaGreat
open Go.RowKit

inductive AEx where
  | normal
  | exit (id : Nat)
  | ret
def AEx.ex : AEx → Exit
  | .normal => .normal
  | .exit id => .exit id
  | .ret => .ret
def aLoop (run : Tm → M (AEx × Tm)) : Nat → Tm → M (AEx × Tm)
  | 0, _ => M.fail
  | k + 1, tm => M.bind (run tm) fun r => match r.1 with
    | .normal => aLoop run k r.2
    | .exit id => M.pure (.exit id, r.2)
    | .ret => M.pure (.ret, r.2)
def aCode (call : FuncId → List Value → M Value) (P : Program) (n : Nat) : Nat → Code → Tm → M (AEx × Tm)
  | 0, _, _ => M.fail
  | k + 1, c, tm => match c with
    | .skip => M.pure (.normal, tm)
    | .region _ ops draw => cond draw (M.bind (aDrawn call P n ops.toList tm) fun tm' => M.pure (.normal, tm')) (M.bind (aSeq call P n ops.toList ops.toList tm) fun tm' => M.pure (.normal, tm'))
    | .seq a b => M.bind (aCode call P n k a tm) fun r => match r.1 with
      | .normal => aCode call P n k b r.2
      | .exit id => M.pure (.exit id, r.2)
      | .ret => M.pure (.ret, r.2)
    | .cond c t e => M.bind (lift (evT tm c)) fun v => M.bind (lift (boolOf v)) fun b => cond b (aCode call P n k t tm) (aCode call P n k e tm)
    | .block id b => M.bind (aCode call P n k b tm) fun r => match r.1 with
      | .exit j => M.pure (cond (Nat.beq j id) .normal (.exit j), r.2)
      | .normal => M.pure (.normal, r.2)
      | .ret => M.pure (.ret, r.2)
    | .loop b => aLoop (aCode call P n k b) k tm
    | .exit id => M.pure (.exit id, tm)
    | .ret => M.pure (.ret, tm)
    | _ => M.fail
/-- What is asked of code once. -/
def codeOK : Code → Bool
  | .region _ ops draw => cond draw (staticOK ops) true
  | .seq a b => cond (codeOK a) (codeOK b) false
  | .cond _ t e => cond (codeOK t) (codeOK e) false
  | .block _ b => codeOK b
  | .loop b => codeOK b
  | _ => true
theorem Local.aLoop {run : Tm → M (AEx × Tm)} (h : ∀ tm, Local (run tm)) : ∀ (k : Nat) (tm : Tm), Local (aLoop run k tm)
  | 0, tm => Local.fail
  | k + 1, tm => by
    unfold Go.Proofs.YtnpbnpilhmbpoaaGreat.aLoop
    refine Local.bind (h tm) fun r => ?_
    split
    · exact Local.aLoop h k _
    · exact Local.pure _
    · exact Local.pure _
theorem Local.aCode {call : FuncId → List Value → M Value} (P : Program) (n : Nat) (hl : ∀ f vs, Local (call f vs)) : ∀ (k : Nat) (c : Code) (tm : Tm), Local (aCode call P n k c tm)
  | 0, c, tm => Local.fail
  | k + 1, c, tm => by
    unfold Go.Proofs.YtnpbnpilhmbpoaaGreat.aCode
    cases c <;> simp only
    case skip => exact Local.pure _
    case region id ops draw => exact Local.cond (Local.bind (Local.aDrawn call P n _ _ hl) fun _ => Local.pure _) (Local.bind (Local.aSeq call P n _ hl _ _) fun _ => Local.pure _)
    case seq a b =>
      refine Local.bind (Local.aCode P n hl k a tm) fun r => ?_
      split
      · exact Local.aCode P n hl k b _
      · exact Local.pure _
      · exact Local.pure _
    case cond c t e => exact Local.bind (Local.lift _) fun v => Local.bind (Local.lift _) fun b => Local.cond (Local.aCode P n hl k t tm) (Local.aCode P n hl k e tm)
    case block id b =>
      refine Local.bind (Local.aCode P n hl k b tm) fun r => ?_
      split <;> exact Local.pure _
    case loop b => exact Local.aLoop (fun tm => Local.aCode P n hl k b tm) k tm
    case exit id => exact Local.pure _
    case ret => exact Local.pure _
    all_goals exact Local.fail

section
variable {P : Program} {w0 : World} {call : FuncId → List Value → M Value}
/-- What code comes to, told of the small heap, holds of the world. -/
def COK (P : Program) (w0 : World) (n : Nat) (c : Code) (run : Tm → M (AEx × Tm)) : Prop := ∀ (ι : Re) (tm : Tm) (a : Act) (s s' : St) (w : World) (r : AEx × Tm), Wf s → TmR ι n tm a → Rel P w0 ι s w → run tm s = some (r, s') → Free ι s.next s'.next →
  ∀ (Q : Exit → Act → World → Prop), (∀ ι' a' w', TmR ι' n r.2 a' → Rel P w0 ι' s' w' → Grow ι ι' s.next s'.next → a'.defers = a.defers → Q r.1.ex a' w') → c.wp P Q a w
theorem aLoop_ok {n : Nat} {c : Code} {run : Tm → M (AEx × Tm)} (hl : ∀ tm, Local (run tm)) (h : COK P w0 n c run) : ∀ (k : Nat) (ι : Re) (tm : Tm) (a : Act) (s s' : St) (w : World) (r : AEx × Tm), Wf s → TmR ι n tm a → Rel P w0 ι s w → aLoop run k tm s = some (r, s') → Free ι s.next s'.next →
    ∀ (Q : Exit → Act → World → Prop), (∀ ι' a' w', TmR ι' n r.2 a' → Rel P w0 ι' s' w' → Grow ι ι' s.next s'.next → a'.defers = a.defers → Q r.1.ex a' w') → Code.rounds P c Q k a w
  | 0, ι, tm, a, s, s', w, r, hw, ht, hr, hm, hf => by simp [aLoop, M.fail] at hm
  | k + 1, ι, tm, a, s, s', w, r, hw, ht, hr, hm, hf => by
    intro Q hQ
    unfold aLoop at hm
    obtain ⟨r1, s1, h1, h2⟩ := bind_some hm
    have l1 := hl tm s r1 s1 h1 hw
    have l2 : s1.next ≤ s'.next := by
      cases hr1 : r1.1 <;> simp only [hr1] at h2
      · exact (Local.aLoop hl k r1.2 s1 r s' h2 l1.wf).next
      · obtain ⟨-, rfl⟩ := pure_some h2; exact Nat.le_refl _
      · obtain ⟨-, rfl⟩ := pure_some h2; exact Nat.le_refl _
    rw [rounds_succ]
    refine h ι tm a s s1 w r1 hw ht hr h1 (hf.left l2) _ fun ι1 a1 w1 q1 q2 q3 q4 => ?_
    cases hr1 : r1.1 <;> simp only [hr1] at h2
    · exact aLoop_ok hl h k ι1 r1.2 a1 s1 s' w1 r l1.wf q1 q2 h2 (hf.right q3 l1.next) Q fun ι2 a2 w2 g1 g2 g3 g4 => hQ ι2 a2 w2 g1 g2 (q3.trans g3 l1.next l2) (g4.trans q4)
    · obtain ⟨rfl, rfl⟩ := pure_some h2
      exact hQ ι1 a1 w1 q1 q2 q3 q4
    · obtain ⟨rfl, rfl⟩ := pure_some h2
      exact hQ ι1 a1 w1 q1 q2 q3 q4
theorem aCode_ok (hl : ∀ f vs, Local (call f vs)) (hc : CallOK P w0 call) (hmix : P.follows .mixedOrders = true) {n : Nat} : ∀ (k : Nat) (c : Code), codeOK c = true → COK P w0 n c (aCode call P n k c)
  | 0, c, hok => fun ι tm a s s' w r hw ht hr hm hf => by simp [aCode, M.fail] at hm
  | k + 1, c, hok => fun ι tm a s s' w r hw ht hr hm hf Q hQ => by
    cases c <;> simp only [aCode] at hm <;> try (simp [M.fail] at hm; done)
    case skip =>
      obtain ⟨rfl, rfl⟩ := pure_some hm
      exact wp_skip (hQ ι a w ht hr (Grow.refl ι _ _) rfl)
    case exit id =>
      obtain ⟨rfl, rfl⟩ := pure_some hm
      exact wp_exit (hQ ι a w ht hr (Grow.refl ι _ _) rfl)
    case ret =>
      obtain ⟨rfl, rfl⟩ := pure_some hm
      exact wp_ret (hQ ι a w ht hr (Grow.refl ι _ _) rfl)
    case region id ops draw =>
      cases draw
      · rw [cond_false] at hm
        obtain ⟨tm', s1, h1, h2⟩ := bind_some hm
        obtain ⟨rfl, rfl⟩ := pure_some h2
        obtain ⟨-, h3⟩ := aSeq_ok hc hl ops.toList ι tm tm' a s s' w hw ht hr h1 hf
        refine wp_region ?_
        have h4 := wpOps_eq_wpList (P := P) (ops := ops) (Q := Q) ops.toList 0 (fun j => by simp)
        rw [Array.length_toList, ← List.range_eq_range'] at h4
        rw [h4]
        exact h3 Q hQ
      · rw [cond_true] at hm
        obtain ⟨tm', s1, h1, h2⟩ := bind_some hm
        obtain ⟨rfl, rfl⟩ := pure_some h2
        have hst : staticOK ops = true := by simpa [codeOK] using hok
        exact wp_region_any hmix (aDrawn_ok hl hc hst ht hr.drew h1 hf Q fun ι' a' w' g1 g2 g3 g4 => hQ ι' a' w' g1 g2 g3 g4)
    case seq x y =>
      have hok2 : codeOK x = true ∧ codeOK y = true := by
        simp only [codeOK] at hok
        cases hx : codeOK x
        · simp [hx] at hok
        · rw [hx, cond_true] at hok
          cases hy : codeOK y
          · simp [hy] at hok
          · exact ⟨rfl, rfl⟩
      obtain ⟨r1, s1, h1, h2⟩ := bind_some hm
      have l1 := Local.aCode P n hl k x tm s r1 s1 h1 hw
      have l2 : s1.next ≤ s'.next := by
        cases hr1 : r1.1 <;> simp only [hr1] at h2
        · exact (Local.aCode P n hl k y r1.2 s1 r s' h2 l1.wf).next
        · obtain ⟨-, rfl⟩ := pure_some h2; exact Nat.le_refl _
        · obtain ⟨-, rfl⟩ := pure_some h2; exact Nat.le_refl _
      refine wp_seq (aCode_ok hl hc hmix k x hok2.1 ι tm a s s1 w r1 hw ht hr h1 (hf.left l2) _ fun ι1 a1 w1 q1 q2 q3 q4 => ?_)
      cases hr1 : r1.1 <;> simp only [hr1] at h2
      · exact aCode_ok hl hc hmix k y hok2.2 ι1 r1.2 a1 s1 s' w1 r l1.wf q1 q2 h2 (hf.right q3 l1.next) Q fun ι2 a2 w2 g1 g2 g3 g4 => hQ ι2 a2 w2 g1 g2 (q3.trans g3 l1.next l2) (g4.trans q4)
      · obtain ⟨rfl, rfl⟩ := pure_some h2
        exact hQ ι1 a1 w1 q1 q2 q3 q4
      · obtain ⟨rfl, rfl⟩ := pure_some h2
        exact hQ ι1 a1 w1 q1 q2 q3 q4
    case cond x t e =>
      have hok2 : codeOK t = true ∧ codeOK e = true := by
        simp only [codeOK] at hok
        cases hx : codeOK t
        · simp [hx] at hok
        · rw [hx, cond_true] at hok
          cases hy : codeOK e
          · simp [hy] at hok
          · exact ⟨rfl, rfl⟩
      obtain ⟨v, s1, h1, h2⟩ := bind_some hm
      obtain ⟨hv, rfl⟩ := lift_some h1
      obtain ⟨b, s2, h3, h4⟩ := bind_some h2
      obtain ⟨hb, rfl⟩ := lift_some h3
      have hb2 := boolOf_some hb
      subst hb2
      have hx := (ht.ev x _ hv).plain_eq rfl
      cases b
      · rw [cond_false] at h4
        exact wp_cond (t := false) hx.symm (by simp only [Bool.false_eq_true, if_false]; exact aCode_ok hl hc hmix k e hok2.2 ι tm a s2 s' w r hw ht hr h4 hf Q hQ)
      · rw [cond_true] at h4
        exact wp_cond (t := true) hx.symm (by simp only [if_true]; exact aCode_ok hl hc hmix k t hok2.1 ι tm a s2 s' w r hw ht hr h4 hf Q hQ)
    case block id b =>
      obtain ⟨r1, s1, h1, h2⟩ := bind_some hm
      have hs1 : s1 = s' := by
        cases hr1 : r1.1 <;> simp only [hr1] at h2
        · obtain ⟨-, rfl⟩ := pure_some h2; rfl
        · obtain ⟨-, rfl⟩ := pure_some h2; rfl
        · obtain ⟨-, rfl⟩ := pure_some h2; rfl
      subst hs1
      refine wp_block (aCode_ok hl hc hmix k b (by simpa [codeOK] using hok) ι tm a s s1 w r1 hw ht hr h1 hf _ fun ι1 a1 w1 q1 q2 q3 q4 => ?_)
      cases hr1 : r1.1 <;> simp only [hr1] at h2
      · obtain ⟨rfl, -⟩ := pure_some h2
        exact hQ ι1 a1 w1 q1 q2 q3 q4
      · rename_i j
        obtain ⟨rfl, -⟩ := pure_some h2
        have := hQ ι1 a1 w1 q1 q2 q3 q4
        simp only [cond_beq] at this
        simp only [AEx.ex, Exit.inBlock]
        by_cases e : j = id
        · rw [if_pos e] at this ⊢
          exact this
        · rw [if_neg e] at this ⊢
          exact this
      · obtain ⟨rfl, -⟩ := pure_some h2
        exact hQ ι1 a1 w1 q1 q2 q3 q4
    case loop b =>
      exact wp_loop_rounds k (aLoop_ok (fun tm => Local.aCode P n hl k b tm) (aCode_ok hl hc hmix k b (by simpa [codeOK] using hok)) k ι tm a s s' w r hw ht hr hm hf Q hQ)

/-! Calls. -/
def aResults (P : Program) (tm : Tm) : List ResultVar → M (List Value)
  | [] => M.pure []
  | .tmp t :: l => M.bind (aResults P tm l) fun r => M.pure (tget tm t :: r)
  | .cell p ty :: l => M.bind (aLoad P ty (tget tm p)) fun v => M.bind (aResults P tm l) fun r => M.pure (v :: r)
theorem Local.aResults (P : Program) (tm : Tm) : ∀ (l : List ResultVar), Local (aResults P tm l)
  | [] => Local.pure _
  | .tmp t :: l => Local.bind (Local.aResults P tm l) fun r => Local.pure _
  | .cell p ty :: l => Local.bind (Local.aLoad P ty _) fun v => Local.bind (Local.aResults P tm l) fun r => Local.pure _
theorem aLoad_quiet {ι : Re} (t : TypeId) {x x' : Value} (hx : VR ι x x') {s s' : St} {w : World} {v : Value} (hr : Rel P w0 ι s w) (hm : aLoad P t x s = some (v, s')) :
    Rel P w0 ι s' w ∧ s'.next = s.next ∧ ∃ v', (Bind.bind (asAddr x') (loadVar t)).run P w = .ok v' w ∧ VR ι v v' := by
  cases hx with
  | @ptr b b' g o hi =>
    unfold aLoad at hm
    obtain ⟨k, s1, h1, hm1⟩ := bind_some hm
    obtain ⟨e1, e2, e3⟩ := getB_some h1
    cases k with
    | map es => simp [M.fail] at hm1
    | cells c t0 sp =>
      obtain ⟨ha, rfl⟩ := lift_some hm1
      obtain ⟨-, cc, hb, hl, -⟩ := blk_at hr e1 hi
      obtain ⟨v', r1, r2⟩ := aRead_load ha hl hb
      exact ⟨hr.congr (fun b => by rw [e2]), e3, v', by simp only [asAddr, Sem.run_bind, Sem.run_pure, Result.andThen_ok, r1], r2⟩
  | plain h => cases x <;> first | (simp [aLoad, M.fail] at hm; done) | (rename_i a; cases a <;> first | (simp [plainV] at h; done) | (simp [aLoad, M.fail] at hm; done))
  | _ => simp [aLoad, M.fail] at hm
def resOf (tmps : Array Value) : ResultVar → Sem Value
  | .tmp t => pure (tmps.getD t undef)
  | .cell a t => do loadVar t (← asAddr (tmps.getD a undef))
theorem aResults_ok {ι : Re} {n : Nat} {tm : Tm} {a : Act} {w : World} (ht : TmR ι n tm a) : ∀ (l : List ResultVar) (s s' : St) (r : List Value), Wf s → Rel P w0 ι s w → aResults P tm l s = some (r, s') →
    Rel P w0 ι s' w ∧ s'.next = s.next ∧ ∃ r', LR ι r r' ∧ (l.mapM (resOf a.tmps)).run P w = .ok r' w
  | [], s, s', r, hw, hr, hm => by
    obtain ⟨rfl, rfl⟩ := pure_some hm
    exact ⟨hr, rfl, [], LR.nil, rfl⟩
  | .tmp t :: l, s, s', r, hw, hr, hm => by
    unfold aResults at hm
    obtain ⟨r1, s1, h1, h2⟩ := bind_some hm
    obtain ⟨rfl, rfl⟩ := pure_some h2
    obtain ⟨q1, q2, r', q3, q4⟩ := aResults_ok ht l s s' r1 hw hr h1
    exact ⟨q1, q2, a.tmps.getD t undef :: r', .cons (ht.vals t) q3, by rw [List.mapM_cons]; simp [resOf, q4]⟩
  | .cell p ty :: l, s, s', r, hw, hr, hm => by
    unfold aResults at hm
    obtain ⟨v, s1, h1, h2⟩ := bind_some hm
    obtain ⟨r1, s2, h3, h4⟩ := bind_some h2
    obtain ⟨rfl, rfl⟩ := pure_some h4
    have l1 := Local.aLoad P ty _ s v s1 h1 hw
    obtain ⟨g1, g2, v', g3, g4⟩ := aLoad_quiet (P := P) ty (ht.vals p) hr h1
    obtain ⟨q1, q2, r', q3, q4⟩ := aResults_ok ht l s1 s' r1 l1.wf g1 h3
    refine ⟨q1, q2.trans g2, v' :: r', .cons g4 q3, ?_⟩
    rw [List.mapM_cons]
    have : (resOf a.tmps (.cell p ty)).run P w = .ok v' w := g3
    simp [this, q4]
def packV : List Value → Value
  | [v] => v
  | l => .tuple ⟨l⟩
theorem packV_rel {ι : Re} {l l' : List Value} (h : LR ι l l') : VR ι (packV l) (packV l') := by
  match l, l', h with
  | [], [], h => exact h.tupleV
  | [v], [v'], h => exact h.2 0 v v' rfl rfl
  | a :: b :: r, a' :: b' :: r', h => exact h.tupleV
  | [], _ :: _, h => have := h.1; simp at this
  | _ :: _, [], h => have := h.1; simp at this
  | [_], _ :: _ :: _, h => have := h.1; simp at this
  | _ :: _ :: _, [_], h => have := h.1; simp at this
theorem results_run {fn : Func} {tmps : Array Value} {w : World} {l : List Value} (h : (fn.results.toList.mapM (resOf tmps)).run P w = .ok l w) : (results fn tmps).run P w = .ok (packV l) w := by
  have hm : (fn.results.mapM (resOf tmps)).run P w = .ok ⟨l⟩ w := by
    rw [Array.mapM_eq_mapM_toList]
    show (List.toArray <$> fn.results.toList.mapM (resOf tmps)).run P w = _
    rw [← bind_pure_comp, Sem.run_bind, h]
    rfl
  have he : results fn tmps = Bind.bind (fn.results.mapM (resOf tmps)) fun vs => Pure.pure (if h : vs.size = 1 then vs[0] else .tuple vs) := by
    unfold results
    congr 1
  rw [he, Sem.run_bind, hm]
  simp only [Result.andThen_ok, Sem.run_pure]
  cases l with
  | nil => rfl
  | cons a r => cases r with
    | nil => rfl
    | cons b r => rw [dif_neg (by simp)]; rfl
/-- A table of functions: how many temporaries, the code, the results. -/
abbrev Tab := FuncId → Option (Nat × Code × List ResultVar)
def TabOK (P : Program) (tab : Tab) : Prop := ∀ f n c rs, tab f = some (n, c, rs) → codeOK c = true ∧ ∃ fn, P.funcs[f]? = some fn ∧ fn.ntmps = n ∧ fn.body = some c ∧ fn.results.toList = rs ∧ (fn.name == "runtime.NumGoroutine") = false
/-- Functions of which it is known what they answer. -/
abbrev Summ := FuncId → List Value → Option Value
def SummOK (P : Program) (summ : Summ) : Prop := ∀ f vs v, summ f vs = some v → vs.all plainV = true ∧ dataV v = true ∧ Enters P f ∧ ∀ w, Calls P f ⟨vs⟩ w fun e w' => e = .returned v ∧ Ext w w'
def tmOf : List Value → Nat → Tm
  | [], _ => .nil
  | v :: l, i => (tmOf l (i + 1)).set fuelT i (some v)
def aCall (P : Program) (tab : Tab) (summ : Summ) (fuel : Nat) : Nat → FuncId → List Value → M Value
  | 0, _, _ => M.fail
  | k + 1, f, vs => match summ f vs with
    | some v => M.pure v
    | none => M.bind (lift (tab f)) fun t => cond (Nat.ble vs.length t.1) (cond (Nat.blt t.1 mostB) (M.bind (aCode (aCall P tab summ fuel k) P t.1 fuel t.2.1 (tmOf vs 0)) fun r => match r.1 with
      | .exit _ => M.fail
      | .normal => M.bind (aResults P r.2 t.2.2) fun l => M.pure (packV l)
      | .ret => M.bind (aResults P r.2 t.2.2) fun l => M.pure (packV l)) M.fail) M.fail
theorem Local.aCall (P : Program) (tab : Tab) (summ : Summ) (fuel : Nat) : ∀ (k : Nat) (f : FuncId) (vs : List Value), Local (aCall P tab summ fuel k f vs)
  | 0, f, vs => Local.fail
  | k + 1, f, vs => by
    unfold Go.Proofs.YtnpbnpilhmbpoaaGreat.aCall
    split
    · exact Local.pure _
    · refine Local.bind (Local.lift _) fun t => Local.cond (Local.cond (Local.bind (Local.aCode P t.1 (Local.aCall P tab summ fuel k) fuel _ _) fun r => ?_) Local.fail) Local.fail
      split
      · exact Local.fail
      · exact Local.bind (Local.aResults P _ _) fun l => Local.pure _
      · exact Local.bind (Local.aResults P _ _) fun l => Local.pure _
theorem tmOf_get : ∀ (l : List Value) (i t : Nat), i + l.length < mostB → tget (tmOf l i) t = if i ≤ t then (l[t - i]?).getD undef else undef
  | [], i, t, h => by
    unfold tmOf tget
    simp [Tr.get]
  | v :: l, i, t, h => by
    unfold tmOf tget
    simp only [List.length_cons] at h
    rw [Tr.get_set _ _ _ _ _ (Nat.lt_of_le_of_lt (show i + 1 ≤ mostB by omega) (by decide))]
    by_cases e : t = i
    · subst e; simp
    · rw [if_neg e]
      have := tmOf_get l (i + 1) t (by omega)
      unfold tget at this
      rw [this]
      by_cases h1 : i + 1 ≤ t
      · rw [if_pos h1, if_pos (by omega), show t - i = (t - (i + 1)) + 1 by omega]
        rfl
      · rw [if_neg h1, if_neg (by omega)]
theorem args_rel {ι : Re} {n : Nat} {vs vs' : List Value} (h : LR ι vs vs') (hn : vs.length ≤ n) (hb : n < mostB) : TmR ι n (tmOf vs 0) { tmps := ⟨vs'⟩ ++ Array.replicate (n - (⟨vs'⟩ : Array Value).size) undef, defers := [] } := by
  have hsz : (⟨vs'⟩ : Array Value).size = vs.length := by rw [h.1]; rfl
  refine ⟨by rw [hsz]; simp [← h.1]; omega, fun t => ?_⟩
  rw [tmOf_get vs 0 t (by omega), if_pos (Nat.zero_le _), Nat.sub_zero, Array.getD_eq_getD_getElem?, Array.getElem?_append]
  by_cases ht : t < vs.length
  · rw [if_pos (by rw [hsz]; exact ht)]
    obtain ⟨x', h1, h2⟩ := h.get (List.getElem?_eq_getElem ht)
    rw [List.getElem?_eq_getElem ht]
    rw [show (⟨vs'⟩ : Array Value)[t]? = vs'[t]? by simp, h1]
    exact h2
  · rw [if_neg (by rw [hsz]; exact ht), List.getElem?_eq_none (by omega), Array.getElem?_replicate]
    split <;> exact undef_rel ι
theorem Rel.ext {ι : Re} {s : St} {w w' : World} (h : Rel P w0 ι s w) (hx : Ext w w') : Rel P w0 ι s w' := by
  refine ⟨h.x.trans hx, fun b k hk => ?_, h.inj, fun b b' g hb => Nat.lt_of_lt_of_le (h.lt b b' g hb) hx.size⟩
  obtain ⟨b', g, h1, h2, h3⟩ := h.blk b k hk
  exact ⟨b', g, h1, h2, by rw [hx.block b' (h.lt _ _ _ h1)]; exact h3⟩
theorem aCall_ok {tab : Tab} {summ : Summ} (htab : TabOK P tab) (hsumm : SummOK P summ) (hmix : P.follows .mixedOrders = true) (fuel : Nat) : ∀ (k : Nat), CallOK P w0 (aCall P tab summ fuel k)
  | 0 => fun ι s w f vs vs' v s' hwf hr hl hm hf => by simp [aCall, M.fail] at hm
  | k + 1 => fun ι s w f vs vs' v s' hwf hr hl hm hf => by
    unfold aCall at hm
    cases hsm : summ f vs with
    | some v1 =>
      simp only [hsm] at hm
      obtain ⟨rfl, rfl⟩ := pure_some hm
      obtain ⟨h1, h2, h3, h4⟩ := hsumm f vs _ hsm
      have hvs := hl.plain_eq h1
      subst hvs
      refine ⟨h3, Nat.le_refl _, (h4 w).mono fun e w' hh => ?_⟩
      obtain ⟨rfl, hx⟩ := hh
      exact ⟨ι, _, rfl, .data h2, hr.ext hx, Grow.refl ι _ _⟩
    | none =>
      simp only [hsm] at hm
      obtain ⟨⟨n, c, rs⟩, s1, h1, h2⟩ := bind_some hm
      obtain ⟨ht, rfl⟩ := lift_some h1
      obtain ⟨hcode, fn, e1, e2, e3, e4, e5⟩ := htab f n c rs ht
      obtain ⟨c1, h3⟩ := cond_fail h2
      obtain ⟨c2, h4⟩ := cond_fail h3
      have c1 := Nat.le_of_ble_eq_true c1
      have c2 : n < mostB := Nat.le_of_ble_eq_true c2
      obtain ⟨r, s2, h5, h6⟩ := bind_some h4
      simp only at h5 h6 c1
      have hlc := Local.aCall P tab summ fuel k
      have l1 := Local.aCode P n hlc fuel c _ s1 r s2 h5 hwf
      have hres : ∃ l s3, aResults P r.2 rs s2 = some (l, s3) ∧ v = packV l ∧ s' = s3 ∧ (r.1 = .normal ∨ r.1 = .ret) := by
        cases hr1 : r.1 <;> simp only [hr1] at h6
        · obtain ⟨l, s3, g1, g2⟩ := bind_some h6
          obtain ⟨rfl, rfl⟩ := pure_some g2
          exact ⟨l, _, g1, rfl, rfl, Or.inl rfl⟩
        · simp [M.fail] at h6
        · obtain ⟨l, s3, g1, g2⟩ := bind_some h6
          obtain ⟨rfl, rfl⟩ := pure_some g2
          exact ⟨l, _, g1, rfl, rfl, Or.inr rfl⟩
      obtain ⟨l, s3, g1, rfl, rfl, g4⟩ := hres
      have l2 := Local.aResults P r.2 rs s2 l s' g1 l1.wf
      refine ⟨⟨fn, c, e1, e5, e3⟩, Nat.le_trans l1.next l2.next, calls_of_wp e1 e3 ?_⟩
      rw [e2]
      refine aCode_ok hlc (aCall_ok htab hsumm hmix fuel k) hmix fuel c hcode ι _ _ s1 s2 w r hwf (args_rel hl c1 c2) hr h5 (hf.left l2.next) _ fun ι1 a1 w1 q1 q2 q3 q4 => ?_
      obtain ⟨p1, p2, r', p3, p4⟩ := aResults_ok (P := P) q1 rs s2 s' l l1.wf q2 g1
      have hrun : (results fn a1.tmps).run P w1 = .ok (packV r') w1 := results_run (by rw [e4]; exact p4)
      have hend : a1.defers = [] ∧ ∃ v, (results fn a1.tmps).run P w1 = .ok v w1 ∧ RetR P w0 ι s1 (packV l) s' (.returned v) w1 :=
        ⟨q4, packV r', hrun, ι1, packV r', rfl, packV_rel p3, p1, by rw [p2]; exact q3⟩
      rcases g4 with g4 | g4 <;> rw [g4] <;> exact hend
/-- THE CLOSED RUN: a call that the machine brings to a value without a place, in a small heap of its own, answers so in every world. -/
theorem closed_run {tab : Tab} {summ : Summ} (htab : TabOK P tab) (hsumm : SummOK P summ) (hmix : P.follows .mixedOrders = true) (fuel k : Nat) (f : FuncId) (v : Value) (hv : dataV v = true)
    (h : (aCall P tab summ fuel k f [] ⟨.nil, 0, 0, [], []⟩).map (·.1) = some v) (w : World) : Calls P f #[] w fun e w' => e = .returned v ∧ Ext w w' := by
  cases hm : aCall P tab summ fuel k f [] ⟨.nil, 0, 0, [], []⟩ with
  | none => simp [hm] at h
  | some r =>
    obtain ⟨v1, s'⟩ := r
    simp only [hm, Option.map_some, Option.some.injEq] at h
    subst h
    have hr : Rel P w (fun _ => none) ⟨.nil, 0, 0, [], []⟩ w := ⟨Ext.refl w, fun b k hk => by simp [Tr.get] at hk, fun b c b' g g' hb => by simp [Tr.get] at hb, fun b b' g hb => by cases hb⟩
    obtain ⟨-, -, hcalls⟩ := aCall_ok (w0 := w) htab hsumm hmix fuel k (fun _ => none) ⟨.nil, 0, 0, [], []⟩ w f [] [] v1 s' ⟨Nat.le_refl _, (fun b hb => by cases hb), (fun b hb => by cases hb)⟩ hr LR.nil hm (fun b _ _ => rfl)
    refine hcalls.mono fun e w' hh => ?_
    obtain ⟨ι', v', rfl, q1, q2, q3⟩ := hh
    exact ⟨by rw [← q1.data_eq hv], q2.x⟩
end
end Go.Proofs.YtnpbnpilhmbpoaaGreat
