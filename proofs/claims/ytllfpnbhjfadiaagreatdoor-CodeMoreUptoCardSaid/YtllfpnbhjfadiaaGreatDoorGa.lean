/- Ga: several texts in one. -/
import Derived.WalkKit
import Derived.OrdersHeld
import Derived.Maps.AppendAt
import Derived.Laws.CopyRow
import Derived.Laws.IdiomCopy
import Derived.Great.BuildSlice
import Derived.Lib.AppendZeros
import Derived.MapKept
import Derived.Laws.StructEq
import Derived.Laws.BytesArg
import Derived.Lib.ConvBytes
import Derived.Maps.Own
import Derived.Sort.KeysCollected
import Derived.Sort.Walk0
import Derived.Defers
/- A small calculus over the walk's rules: a frame is told by the slots that are still wanted ('Fr'), an operation by its place in its region. Plain theorems. -/
set_option linter.unusedVariables false
set_option linter.unusedSimpArgs false
set_option maxRecDepth 100000
namespace Go.SW
open Go

def sp (P : Program) {α : Type} : Sem α → Option α
  | .pure a => some a
  | .program k => sp P (k P)
  | .mark _ k => sp P k
  | _ => none
theorem sp_run {P : Program} {α : Type} : ∀ {s : Sem α} {a : α}, sp P s = some a → ∀ w, s.run P w = .ok a w := by
  intro s
  induction s with
  | pure b => intro a h w; simp only [sp, Option.some.injEq] at h; subst h; rfl
  | program k ih => intro a h w; simp only [sp] at h; exact ih P h w
  | mark m k ih => intro a h w; simp only [sp] at h; exact ih h w
  | _ => intro a h; simp [sp] at h

abbrev Fr := List (Nat × Value)
abbrev Pp (b o : Nat) : Value := .pointer (some ⟨b, o, none⟩)
abbrev Ni (k : Nat) : Value := .int .i64 ((k : Nat) : Int)
def gt : Fr → Nat → Option Value
  | [], _ => none
  | (j, v) :: r, i => bif Nat.beq j i then some v else gt r i
def ev (fr : Fr) : Operand → Value
  | .tmp t => (gt fr t).getD undef
  | .const v => v
  | .global g => .pointer (some ⟨g, 0, none⟩)
  | .func f => .func (.func f) #[] #[]
def kn (fr : Fr) : Operand → Bool
  | .tmp t => (gt fr t).isSome
  | _ => true
def knowns (fr : Fr) (op : Op) : Bool := op.operands.toList.all (kn fr)
def pf (fr : Fr) : Option Tmp → Value → Fr
  | some d, v => (d, v) :: fr
  | none, _ => fr
/-- An activation: how many slots it has, what it has put off. -/
structure Sh where
  n : Nat
  ds : List Deferred
  ks : List Nat
def dok (n : Sh) : Option Tmp → Bool
  | some d => Nat.blt d n.n && n.ks.all fun k => !Nat.beq k d
  | none => true

theorem gt_cons (j : Nat) (v : Value) (r : Fr) (i : Nat) : gt ((j, v) :: r) i = if j = i then some v else gt r i := by
  simp only [gt]
  by_cases h : j = i
  · simp [h]
  · have : Nat.beq j i = false := by rw [← Bool.not_eq_true, Nat.beq_eq]; exact h
    simp [this, h]
structure Fits (n : Sh) (fr : Fr) (a : Act) : Prop where
  size : a.tmps.size = n.n
  dfs : a.defers = n.ds
  get : ∀ i v, gt fr i = some v → a.tmps.getD i undef = v

theorem Fits.eval {n : Sh} {fr : Fr} {a : Act} (h : Fits n fr a) {x : Operand} (hk : kn fr x = true) : a.eval x = ev fr x := by
  cases x with
  | tmp t =>
    simp only [kn, Option.isSome_iff_exists] at hk
    obtain ⟨v, hv⟩ := hk
    simp [Act.eval, ev, hv, h.get t v hv]
  | _ => rfl
theorem Fits.put {n : Sh} {fr : Fr} {a : Act} (h : Fits n fr a) {d : Option Tmp} (hd : dok n d = true) (v : Value) : Fits n (pf fr d v) (a.put d v) := by
  cases d with
  | none => exact h
  | some d =>
    have hd' : d < n.n := by simp only [dok, Bool.and_eq_true, Nat.blt_eq] at hd; exact hd.1
    refine ⟨by simp [Act.put, h.size], h.dfs, fun i u hu => ?_⟩
    simp only [pf, gt_cons] at hu
    simp only [Act.put]
    by_cases hi : d = i
    · subst hi
      simp only [if_true, Option.some.injEq] at hu
      subst hu
      simp [Array.getD_eq_getD_getElem?, h.size, hd']
    · simp only [hi, if_false] at hu
      have := h.get i u hu
      rw [Array.getD_eq_getD_getElem?] at this ⊢
      rw [Array.getElem?_setIfInBounds_ne hi]
      exact this
def Sub (fr' fr : Fr) : Prop := ∀ i v, gt fr' i = some v → gt fr i = some v
theorem Fits.sub {n : Sh} {fr fr' : Fr} {a : Act} (h : Fits n fr a) (hs : Sub fr' fr) : Fits n fr' a := ⟨h.size, h.dfs, fun i v hv => h.get i v (hs i v hv)⟩
def sees (fr : Fr) : Fr → Prop
  | [] => True
  | (i, v) :: r => gt fr i = some v ∧ sees fr r
theorem Sub.of_sees {fr : Fr} : ∀ {fr' : Fr}, sees fr fr' → Sub fr' fr
  | [], _ => fun i v h => by simp [gt] at h
  | (j, u) :: r, h => fun i v hv => by
    rw [gt_cons] at hv
    by_cases hj : j = i
    · subst hj
      simp only [if_true, Option.some.injEq] at hv
      subst hv
      exact h.1
    · simp only [hj, if_false] at hv
      exact Sub.of_sees h.2 i v hv
theorem Sub.of_eq {fr fr' : Fr} (h : (fr'.map fun p => gt fr p.1) = fr'.map fun p => some p.2) : Sub fr' fr := by
  refine Sub.of_sees ?_
  induction fr' with
  | nil => trivial
  | cons p r ih =>
    simp only [List.map_cons, List.cons.injEq] at h
    exact ⟨h.1, ih h.2⟩
theorem Sub.refl (fr : Fr) : Sub fr fr := fun _ _ h => h

theorem map_congr_arr {α β : Type} {f g : α → β} {xs : Array α} (h : ∀ x ∈ xs, f x = g x) : xs.map f = xs.map g := by
  apply Array.ext
  · simp
  · intro i h1 h2
    simp only [Array.getElem_map]
    exact h _ (by simp)
theorem resolve_congr {ρ ρ' : Operand → Value} (c : Call) (t : TypeId) (h : ∀ x ∈ c.operands, ρ x = ρ' x) : resolve ρ c t = resolve ρ' c t := by
  have ha : c.args.map ρ = c.args.map ρ' := map_congr_arr fun x hx => h x (by simp [Call.operands, hx])
  unfold resolve
  rw [ha]
  cases hc : c.callee with
  | builtin b => rfl
  | value f =>
    have h1 : ρ f = ρ' f := h f (by simp [Call.operands, hc])
    simp only [h1]
  | invoke r m =>
    have h1 : ρ r = ρ' r := h r (by simp [Call.operands, hc])
    simp only [h1]
theorem execOp_congr {ρ ρ' : Operand → Value} (o : Oper) (hs : ∀ cs b, o.op ≠ .select cs b) (h : ∀ x ∈ o.op.operands, ρ x = ρ' x) : execOp ρ o = execOp ρ' o := by
  obtain ⟨d, op, ty, pos, aft, g⟩ := o
  simp only at h
  unfold execOp
  cases op with
  | select cs b => exact absurd rfl (hs cs b)
  | call c => simp only; rw [resolve_congr c ty (fun x hx => h x (by simpa [Op.operands] using hx))]
  | go c => simp only; rw [resolve_congr c ty (fun x hx => h x (by simpa [Op.operands] using hx))]
  | defer c => simp only; rw [resolve_congr c ty (fun x hx => h x (by simpa [Op.operands] using hx))]
  | build t ps =>
    have : (ps.map fun (i, x) => (i, ρ x)) = ps.map fun (i, x) => (i, ρ' x) := map_congr_arr fun ⟨i, x⟩ hp => by
      show (i, ρ x) = (i, ρ' x)
      rw [h x (by simp only [Op.operands, List.mem_toArray, List.mem_map]; exact ⟨(i, x), by simpa using hp, rfl⟩)]
    simp only [this]
  | buildSlice t l ps =>
    have : (ps.map fun (i, x) => (i, ρ x)) = ps.map fun (i, x) => (i, ρ' x) := map_congr_arr fun ⟨i, x⟩ hp => by
      show (i, ρ x) = (i, ρ' x)
      rw [h x (by simp only [Op.operands, List.mem_toArray, List.mem_map]; exact ⟨(i, x), by simpa using hp, rfl⟩)]
    simp only [this]
  | makeFunc fn a b =>
    have h1 : a.map ρ = a.map ρ' := map_congr_arr fun x hx => h x (by simp [Op.operands, hx])
    have h2 : b.map ρ = b.map ρ' := map_congr_arr fun x hx => h x (by simp [Op.operands, hx])
    simp only [h1, h2]
  | makeMap t r =>
    cases r with
    | none => rfl
    | some x => simp only [Option.map_some, h x (by simp [Op.operands])]
  | slice t x lo hi mx =>
    have h0 : ρ x = ρ' x := h x (by simp [Op.operands])
    have h1 : lo.map ρ = lo.map ρ' := by cases lo with | none => rfl | some y => simp [h y (by simp [Op.operands])]
    have h2 : hi.map ρ = hi.map ρ' := by cases hi with | none => rfl | some y => simp [h y (by simp [Op.operands])]
    have h3 : mx.map ρ = mx.map ρ' := by cases mx with | none => rfl | some y => simp [h y (by simp [Op.operands])]
    simp only [h0, h1, h2, h3]
  | _ => simp_all [Op.operands]
def noSel : Op → Bool
  | .select _ _ => false
  | _ => true
theorem Fits.exec {n : Sh} {fr : Fr} {a : Act} (h : Fits n fr a) {o : Oper} (hk : knowns fr o.op = true) (hs : noSel o.op = true) : execOp a.eval o = execOp (ev fr) o := by
  refine execOp_congr o (fun cs b e => by rw [e] at hs; simp [noSel] at hs) fun x hx => h.eval ?_
  simp only [knowns, List.all_eq_true] at hk
  exact hk x (by simpa using hx)

section
variable {P : Program} {n : Sh}
def GL (P : Program) (n : Sh) (ops : Array Oper) (Q : Exit → Act → World → Prop) (i : Nat) (fr : Fr) (w : World) : Prop :=
  ∀ a, Fits n fr a → wpList P ops Q (ops.toList.drop i) a w
def SW (P : Program) (n : Sh) (c : Code) (Q : Exit → Act → World → Prop) (fr : Fr) (w : World) : Prop := ∀ a, Fits n fr a → c.wp P Q a w
def At (n : Sh) (Q : Exit → Act → World → Prop) (e : Exit) (fr : Fr) (w : World) : Prop := ∀ a, Fits n fr a → Q e a w

variable {ops : Array Oper} {Q : Exit → Act → World → Prop} {i : Nat} {fr : Fr} {w : World} {x y : Code}
theorem sw_sub (fr' : Fr) (hs : Sub fr' fr) (h : SW P n x Q fr' w) : SW P n x Q fr w := fun a ha => h a (ha.sub hs)
theorem gl_sub (fr' : Fr) (hs : Sub fr' fr) (h : GL P n ops Q i fr' w) : GL P n ops Q i fr w := fun a ha => h a (ha.sub hs)
theorem at_sub {e : Exit} (fr' : Fr) (hs : Sub fr' fr) (h : At n Q e fr' w) : At n Q e fr w := fun a ha => h a (ha.sub hs)
theorem sw_keep (fr' : Fr) (hs : (fr'.map fun p => gt fr p.1) = fr'.map fun p => some p.2) (h : SW P n x Q fr' w) : SW P n x Q fr w := sw_sub fr' (Sub.of_eq hs) h
theorem sw_seq (h : SW P n x (Exit.then (fun a w => y.wp P Q a w) Q) fr w) : SW P n (x.seq y) Q fr w := fun a ha => wp_seq (h a ha)
theorem sw_next (h : SW P n y Q fr w) : At n (Exit.then (fun a w => y.wp P Q a w) Q) .normal fr w := fun a ha => h a ha
theorem sw_region {id : Nat} {l : List Oper} (h : GL P n l.toArray Q 0 fr w) : SW P n (.region id l.toArray false) Q fr w := fun a ha => wp_region_list (by simpa using h a ha)
theorem sw_sr {id : Nat} {l : List Oper} (h : GL P n l.toArray (Exit.then (fun a w => y.wp P Q a w) Q) 0 fr w) : SW P n ((Code.region id l.toArray false).seq y) Q fr w := sw_seq (sw_region h)
theorem gl_done (hi : Nat.beq ops.size i = true) (h : At n Q .normal fr w) : GL P n ops Q i fr w := by
  intro a ha
  have : ops.toList.drop i = [] := by
    have := Nat.eq_of_beq_eq_true hi
    rw [List.drop_eq_nil_iff]; simp; omega
  rw [this]
  exact wpList_nil (h a ha)
theorem gl_dn (hi : Nat.beq ops.size i = true) (h : SW P n y Q fr w) : GL P n ops (Exit.then (fun a w => y.wp P Q a w) Q) i fr w := gl_done hi (sw_next h)
theorem sw_skip (h : At n Q .normal fr w) : SW P n .skip Q fr w := fun a ha => wp_skip (h a ha)
theorem sw_exit {id : Nat} (h : At n Q (.exit id) fr w) : SW P n (.exit id) Q fr w := fun a ha => wp_exit (h a ha)
theorem sw_ret (h : At n Q .ret fr w) : SW P n .ret Q fr w := fun a ha => wp_ret (h a ha)
theorem sw_block {id : Nat} (h : SW P n x (Exit.inBlock id Q) fr w) : SW P n (.block id x) Q fr w := fun a ha => wp_block (h a ha)
theorem sw_cond {c : Operand} {b : Bool} (hc : ev fr c = .bool b) (hk : kn fr c = true) (ht : b = true → SW P n x Q fr w) (hf : b = false → SW P n y Q fr w) : SW P n (.cond c x y) Q fr w := by
  intro a ha
  have he : a.eval c = .bool b := (ha.eval hk).trans hc
  exact wp_cond_split he (fun h => ht h a ha) (fun h => hf h a ha)
theorem sw_true {c : Operand} (hc : ev fr c = .bool true) (hk : kn fr c = true) (h : SW P n x Q fr w) : SW P n (.cond c x y) Q fr w := sw_cond hc hk (fun _ => h) (fun h => by cases h)
theorem sw_false {c : Operand} (hc : ev fr c = .bool false) (hk : kn fr c = true) (h : SW P n y Q fr w) : SW P n (.cond c x y) Q fr w := sw_cond hc hk (fun h => by cases h) (fun _ => h)
theorem sw_cut {γ : Type} (F : γ → Fr) (I : γ → World → Prop) (hx : SW P n x (Exit.then (fun a w' => ∃ g, Fits n (F g) a ∧ I g w') Q) fr w)
    (hy : ∀ g w', I g w' → SW P n y Q (F g) w') : SW P n (x.seq y) Q fr w := by
  intro a ha
  refine wp_seq (Code.wp_mono ?_ (hx a ha))
  intro e a' w' h
  cases e with
  | normal => obtain ⟨g, hf, hI⟩ := h; exact hy g w' hI a' hf
  | _ => exact h
theorem cut_end {γ : Type} {F : γ → Fr} {I : γ → World → Prop} (g : γ) (hs : Sub (F g) fr) (hI : I g w) : At n (Exit.then (fun a w' => ∃ g, Fits n (F g) a ∧ I g w') Q) .normal fr w :=
  fun a ha => ⟨g, ha.sub hs, hI⟩
theorem sw_loop {γ : Type} (F : γ → Fr) (I : γ → World → Prop) (μ : γ → Nat) (g0 : γ) (hs : Sub (F g0) fr) (h0 : I g0 w)
    (round : ∀ g w, I g w → SW P n x (Exit.then (fun a w' => ∃ g', Fits n (F g') a ∧ I g' w' ∧ μ g' < μ g) Q) (F g) w) : SW P n (.loop x) Q fr w := by
  have key : ∀ (b : Frame) (k : List Item) (cs : List Frame) m g w a, μ g < m → I g w → Fits n (F g) a →
      ∃ e a' w', Q e a' w' ∧ Arrives P (lone (b.at a (.code x :: .inLoop x :: k)) cs w) b k cs e a' w' := by
    intro b k cs m
    induction m with
    | zero => intro g w a h; omega
    | succ m ih =>
      intro g w a hm hI ha
      obtain ⟨e, a₁, w₁, hq, harr⟩ := round g w hI a ha b (.inLoop x :: k) cs
      cases e with
      | normal =>
        obtain ⟨g', hf, hI', hlt⟩ := hq
        obtain ⟨e₂, a₂, w₂, hq₂, harr₂⟩ := ih g' w₁ a₁ (by omega) hI' hf
        exact ⟨e₂, a₂, w₂, hq₂, .of_steps (Steps.trans harr (.one step_inLoop)) harr₂⟩
      | exit id => exact ⟨_, a₁, w₁, hq, .pass (x := .inLoop x) rfl (fun _ _ => .inl (by simp)) harr⟩
      | goto l => exact ⟨_, a₁, w₁, hq, .pass (x := .inLoop x) rfl (fun _ _ => .inl (by simp)) harr⟩
      | ret => exact ⟨_, a₁, w₁, hq, .pass (x := .inLoop x) rfl (fun _ _ => .inl (by simp)) harr⟩
      | panic ch => exact ⟨_, a₁, w₁, hq, .pass (x := .inLoop x) rfl (fun _ _ => .inl (by simp)) harr⟩
      | outgrown => exact ⟨_, a₁, w₁, hq, .pass (x := .inLoop x) rfl (fun _ _ => .inl (by simp)) harr⟩
  intro a ha b k cs
  obtain ⟨e, a', w', hq, harr⟩ := key b k cs (μ g0 + 1) g0 w a (by omega) h0 (ha.sub hs)
  exact ⟨e, a', w', hq, .of_steps (.one step_loop) harr⟩

def RW (P : Program) (x : Code) (Q : Exit → Act → World → Prop) (a : Act) (w : World) : Prop :=
  ∀ (b : Frame) (k : List Item) (cs : List Frame), ∃ e a' w', Q e a' w' ∧ Arrives P (lone (b.at a (.code x :: .inLoop x :: k)) cs w) b k cs e a' w'
theorem rw_of_round {a : Act} (h : x.wp P (Exit.then (fun a w => RW P x Q a w) Q) a w) : RW P x Q a w := by
  intro b k cs
  obtain ⟨e, a₁, w₁, hq, harr⟩ := h b (.inLoop x :: k) cs
  cases e with
  | normal =>
    obtain ⟨e₂, a₂, w₂, hq₂, harr₂⟩ := hq b k cs
    exact ⟨e₂, a₂, w₂, hq₂, .of_steps (Steps.trans harr (.one step_inLoop)) harr₂⟩
  | exit id => exact ⟨_, a₁, w₁, hq, .pass (x := .inLoop x) rfl (fun _ _ => .inl (by simp)) harr⟩
  | goto l => exact ⟨_, a₁, w₁, hq, .pass (x := .inLoop x) rfl (fun _ _ => .inl (by simp)) harr⟩
  | ret => exact ⟨_, a₁, w₁, hq, .pass (x := .inLoop x) rfl (fun _ _ => .inl (by simp)) harr⟩
  | panic ch => exact ⟨_, a₁, w₁, hq, .pass (x := .inLoop x) rfl (fun _ _ => .inl (by simp)) harr⟩
  | outgrown => exact ⟨_, a₁, w₁, hq, .pass (x := .inLoop x) rfl (fun _ _ => .inl (by simp)) harr⟩
theorem sw_unroll (h : SW P n x (Exit.then (fun a w => RW P x Q a w) Q) fr w) : SW P n (.loop x) Q fr w := by
  intro a ha b k cs
  obtain ⟨e, a', w', hq, harr⟩ := rw_of_round (h a ha) b k cs
  exact ⟨e, a', w', hq, .of_steps (.one step_loop) harr⟩
theorem sw_again (h : SW P n x (Exit.then (fun a w => RW P x Q a w) Q) fr w) : At n (Exit.then (fun a w => RW P x Q a w) Q) .normal fr w := fun a ha => rw_of_round (h a ha)

theorem drop_at {o : Oper} (hi : ops[i]? = some o) : ops.toList.drop i = o :: ops.toList.drop (i + 1) := by
  have hlt : i < ops.toList.length := by simpa using (Array.getElem?_eq_some_iff.1 hi).1
  rw [List.drop_eq_getElem_cons hlt]
  congr 1
  have := (Array.getElem?_eq_some_iff.1 hi).2
  simpa using this
def guardV (ops : Array Oper) (fr : Fr) (o : Oper) : Option Bool :=
  match o.guard with
  | none => some true
  | some (j, b) => match (ops[j]?).bind (·.dst) with
    | some t => match gt fr t with
      | some (.bool c) => some (c == b)
      | some _ => some false
      | none => none
    | none => none
theorem guard_wanted {o : Oper} {b : Bool} (h : guardV ops fr o = some b) {a : Act} (ha : Fits n fr a) : Region.wanted o (yielded ops a.tmps) = b := by
  unfold guardV at h
  unfold Region.wanted
  cases hg : o.guard with
  | none => simp only [hg, Option.some.injEq] at h; exact h
  | some p =>
    obtain ⟨j, want⟩ := p
    simp only [hg] at h ⊢
    cases hd : (ops[j]?).bind (·.dst) with
    | none => simp [hd] at h
    | some t =>
      simp only [hd] at h
      cases hv : gt fr t with
      | none => simp [hv] at h
      | some v =>
        have hget := ha.get t v hv
        cases v with
        | bool c =>
          simp only [hv, Option.some.injEq] at h
          have : a.tmps[t]? = some (.bool c) := by
            rw [Array.getD_eq_getD_getElem?] at hget
            cases hq : a.tmps[t]? with
            | none => simp [hq, undef] at hget
            | some u => simp [hq] at hget; rw [hget]
          simp only [yielded, hd, Option.bind_some, this]
          rw [← h]
          cases c <;> cases want <;> rfl
        | _ =>
          simp only [hv, Option.some.injEq] at h
          rw [← h]
          rw [Array.getD_eq_getD_getElem?] at hget
          cases hq : a.tmps[t]? with
          | none => simp [yielded, hd, hq]
          | some u =>
            simp only [hq, Option.getD_some] at hget
            subst hget
            simp [yielded, hd, hq]
def ST (P : Program) (n : Sh) (ops : Array Oper) (Q : Exit → Act → World → Prop) (i : Nat) (K : Fr → World → Prop) (fr : Fr) (w : World) : Prop :=
  ∀ a, Fits n fr a → ∀ K' : Act → World → Prop, (∀ fr' w' a', Fits n fr' a' → K fr' w' → K' a' w') → ∃ o, ops[i]? = some o ∧ if Region.wanted o (yielded ops a.tmps) then o.wp P a w K' Q else K' (a.put o.dst undef) w
def Runs (P : Program) (fr : Fr) (o : Oper) (v : Value) (w : World) : Prop := (execOp (ev fr) o).run P w = .ok (.value v) w
theorem gl_st (h : ST P n ops Q i (GL P n ops Q (i + 1)) fr w) : GL P n ops Q i fr w := by
  intro a ha
  obtain ⟨o, ho, hw⟩ := h a ha (fun a' w' => wpList P ops Q (ops.toList.drop (i + 1)) a' w') (fun fr' w' a' hf hk => hk a' hf)
  rw [drop_at ho]
  refine wpList_step fun K hK => ?_
  split
  · rename_i hc; rw [if_pos hc] at hw; exact Oper.wp_mono hK hw
  · rename_i hc; rw [if_neg hc] at hw; exact hK _ _ hw
variable {K : Fr → World → Prop}
theorem st_step {o : Oper} (hi : ops[i]? = some o) (hg : guardV ops fr o = some true)
    (h : ∀ a, Fits n fr a → ∀ K' : Act → World → Prop, (∀ fr' w' a', Fits n fr' a' → K fr' w' → K' a' w') → o.wp P a w K' Q) : ST P n ops Q i K fr w := by
  intro a ha K' hK'
  exact ⟨o, hi, by rw [if_pos (by rw [guard_wanted hg ha])]; exact h a ha K' hK'⟩
theorem gl_not {o : Oper} (hi : ops[i]? = some o) (hg : guardV ops fr o = some false) (hd : dok n o.dst = true) (h : GL P n ops Q (i + 1) (pf fr o.dst undef) w) : GL P n ops Q i fr w := by
  intro a ha
  rw [drop_at hi]
  refine wpList_step fun K hK => ?_
  rw [if_neg (by rw [guard_wanted hg ha]; simp)]
  exact hK _ _ (h _ (ha.put hd _))
theorem st_run {o : Oper} (hi : ops[i]? = some o) (hg : guardV ops fr o = some true) (hs : (dok n o.dst && knowns fr o.op && noSel o.op) = true) (v : Value) (w' : World)
    (hr : (execOp (ev fr) o).run P w = .ok (.value v) w') (h : K (pf fr o.dst v) w') : ST P n ops Q i K fr w := by
  simp only [Bool.and_eq_true] at hs
  refine st_step hi hg fun a ha K' hK => ?_
  unfold Oper.wp
  rw [ha.exec hs.1.2 hs.2, hr]
  exact hK _ _ _ (ha.put hs.1.1 v) h
theorem st_run0 {o : Oper} (hi : ops[i]? = some o) (hg : guardV ops fr o = some true) (hs : (dok n o.dst && knowns fr o.op && noSel o.op) = true) (w' : World)
    (hr : (execOp (ev fr) o).run P w = .ok .skip w') (h : K (pf fr o.dst undef) w') : ST P n ops Q i K fr w := by
  simp only [Bool.and_eq_true] at hs
  refine st_step hi hg fun a ha K' hK => ?_
  unfold Oper.wp
  rw [ha.exec hs.1.2 hs.2, hr]
  exact hK _ _ _ (ha.put hs.1.1 _) h
theorem gl_q {o : Oper} (hi : ops[i]? = some o) (hg : guardV ops fr o = some true) (hs : (dok n o.dst && knowns fr o.op && noSel o.op) = true) {v : Value}
    (hr : Runs P fr o v w) (h : GL P n ops Q (i + 1) (pf fr o.dst v) w) : GL P n ops Q i fr w := gl_st (st_run hi hg hs v w hr h)
theorem gl_pure {o : Oper} (hi : ops[i]? = some o) (hg : guardV ops fr o = some true) (hs : (dok n o.dst && knowns fr o.op && noSel o.op) = true) (v : Value)
    (hr : sp P (execOp (ev fr) o) = some (.value v)) (h : GL P n ops Q (i + 1) (pf fr o.dst v) w) : GL P n ops Q i fr w :=
  gl_q hi hg hs (sp_run hr w) h

/-- Panics do not hang on slots. -/
class PQ (n : Sh) (Q : Exit → Act → World → Prop) : Prop where
  no : ∀ c a d v w, dok n d = true → Q (.panic c) (Act.put a d v) w → Q (.panic c) a w
instance PQ.th {Z : Act → World → Prop} [h : PQ n Q] : PQ n (Exit.then Z Q) := ⟨h.no⟩
instance PQ.bk {id : Nat} [h : PQ n Q] : PQ n (Exit.inBlock id Q) := ⟨h.no⟩
instance PQ.body {fn : Func} {R : Ending → World → Prop} : PQ n (bodyPost P fn R) := ⟨by
  intro c a d v w _ h
  cases d <;> exact h⟩
def GD (P : Program) (n : Sh) (ops : Array Oper) (Q : Exit → Act → World → Prop) (S : World → Prop) (k : Nat) (listed : Array Bool) (fr : Fr) (w : World) : Prop :=
  ∀ a, Fits n fr a → wpAnyH P .any ops Q S k listed a w
variable {S : World → Prop} {k : Nat} {listed : Array Bool}
theorem sw_draw {id : Nat} {l : List Oper} (hm : P.follows .mixedOrders = true) (S : World → Prop) (h : GD P n l.toArray Q S l.toArray.size (Array.replicate l.toArray.size false) fr { w with drawn := w.drawn + 1 }) : SW P n (.region id l.toArray true) Q fr w :=
  fun a ha => wp_region_held (S := S) hm (h a ha)
def canTake (ops : Array Oper) (listed : Array Bool) (i : Nat) : Bool := Region.noSelect ops && Region.free .any ops listed i && (Region.ready .any ops listed).contains i
theorem gd_take (i : Nat) {o : Oper} (hi : ops[i]? = some o) (hb : canTake ops listed i = true) [hQ : PQ n Q] {v : Value} (hS : S w) (hd : dok n o.dst = true)
    (hr : ∀ a, Fits n fr a → YieldsIf P ops S o v a) (h : GD P n ops Q S k (listed.setIfInBounds i true) (pf fr o.dst v) w) : GD P n ops Q S (k + 1) listed fr w := by
  intro a ha
  simp only [canTake, Bool.and_eq_true] at hb
  exact wpAnyH_take hi hb.1.1 hb.1.2 hb.2 (fun c a w => hQ.no c a _ _ w hd) (hr a ha) hS (h _ (ha.put hd v))
theorem gd_q (i : Nat) {o : Oper} (hi : ops[i]? = some o) (hb : canTake ops listed i = true) [hQ : PQ n Q] (hS : S w) (hg : guardV ops fr o = some true) (hs : (dok n o.dst && knowns fr o.op && noSel o.op) = true)
    {v : Value} (hr : ∀ w, S w → Runs P fr o v w) (h : GD P n ops Q S k (listed.setIfInBounds i true) (pf fr o.dst v) w) : GD P n ops Q S (k + 1) listed fr w := by
  simp only [Bool.and_eq_true] at hs
  refine gd_take i hi hb hS hs.1.1 (fun a ha => .inl ⟨guard_wanted hg ha, fun w hw => ?_⟩) h
  rw [ha.exec hs.1.2 hs.2]
  exact hr w hw
theorem gd_not (i : Nat) {o : Oper} (hi : ops[i]? = some o) (hb : canTake ops listed i = true) [hQ : PQ n Q] (hS : S w) (hg : guardV ops fr o = some false) (hd : dok n o.dst = true)
    (h : GD P n ops Q S k (listed.setIfInBounds i true) (pf fr o.dst undef) w) : GD P n ops Q S (k + 1) listed fr w :=
  gd_take i hi hb hS hd (fun a ha => .inr ⟨guard_wanted hg ha, rfl⟩) h
theorem gd_pure (i : Nat) {o : Oper} (hi : ops[i]? = some o) (hb : canTake ops listed i = true) [hQ : PQ n Q] (hS : S w) (hg : guardV ops fr o = some true) (hs : (dok n o.dst && knowns fr o.op && noSel o.op) = true)
    (v : Value) (hr : sp P (execOp (ev fr) o) = some (.value v)) (h : GD P n ops Q S k (listed.setIfInBounds i true) (pf fr o.dst v) w) : GD P n ops Q S (k + 1) listed fr w :=
  gd_q i hi hb hS hg hs (fun w _ => sp_run hr w) h
theorem gd_st (i : Nat) (hr : (Region.ready .any ops listed == [i]) = true) (h : ST P n ops Q i (fun fr' w' => S w' ∧ GD P n ops Q S k (listed.setIfInBounds i true) fr' w') fr w) : GD P n ops Q S (k + 1) listed fr w := by
  intro a ha
  refine wpAnyH_all (beq_iff_eq.1 hr) (by simp) fun j hj => ?_
  simp only [List.mem_singleton] at hj
  subst hj
  obtain ⟨o, ho, hw⟩ := h a ha (fun a' w' => S w' ∧ wpAnyH P .any ops Q S k (listed.setIfInBounds j true) a' w') (fun fr' w' a' hf hk => ⟨hk.1, hk.2 a' hf⟩)
  unfold wpOp
  simp only [ho]
  split
  · rename_i hc; rw [if_pos hc] at hw; exact .inl hw
  · rename_i hc; rw [if_neg hc] at hw; exact hw
theorem gd_done (hr : (Region.ready .any ops listed).isEmpty = true) (h : At n Q .normal fr w) : GD P n ops Q S k listed fr w :=
  fun a ha => wpAnyH_done (List.isEmpty_iff.1 hr) (h a ha) k
theorem gd_sub (fr' : Fr) (hs : Sub fr' fr) (h : GD P n ops Q S k listed fr' w) : GD P n ops Q S k listed fr w := fun a ha => h a (ha.sub hs)
theorem gd_keep (fr' : Fr) (hs : (fr'.map fun p => gt fr p.1) = fr'.map fun p => some p.2) (h : GD P n ops Q S k listed fr' w) : GD P n ops Q S k listed fr w := gd_sub fr' (Sub.of_eq hs) h

theorem gl_split (t : Nat) {b : Bool} (hv : gt fr t = some (.bool b)) (ht : b = true → GL P n ops Q i (pf fr (some t) (.bool true)) w) (hf : b = false → GL P n ops Q i (pf fr (some t) (.bool false)) w) : GL P n ops Q i fr w := by
  have key : ∀ c, b = c → Sub (pf fr (some t) (.bool c)) fr := by
    intro c hc
    subst hc
    intro j u hj
    simp only [pf, gt_cons] at hj
    by_cases ht : t = j
    · subst ht; simp only [if_true, Option.some.injEq] at hj; subst hj; exact hv
    · simpa [ht] using hj
  cases hb : b with
  | true => exact gl_sub _ (key true hb) (ht hb)
  | false => exact gl_sub _ (key false hb) (hf hb)

def evOps (P : Program) (n : Sh) (ops : Array Oper) : List Oper → Fr → Option Fr
  | [], fr => some fr
  | o :: r, fr =>
    bif dok n o.dst && knowns fr o.op && noSel o.op then
      match guardV ops fr o with
      | some true => match sp P (execOp (ev fr) o) with
        | some (.value v) => evOps P n ops r (pf fr o.dst v)
        | _ => none
      | some false => evOps P n ops r (pf fr o.dst undef)
      | none => none
    else match guardV ops fr o with
      | some false => bif dok n o.dst then evOps P n ops r (pf fr o.dst undef) else none
      | _ => none
theorem evOps_sound : ∀ (k i : Nat) {fr fr' : Fr}, evOps P n ops ((ops.toList.drop i).take k) fr = some fr' → GL P n ops Q (i + k) fr' w → GL P n ops Q i fr w := by
  intro k
  induction k with
  | zero => intro i fr fr' h hk; simp only [List.take_zero, evOps, Option.some.injEq] at h; subst h; exact hk
  | succ k ih =>
    intro i fr fr' h hk
    cases hd : ops[i]? with
    | none =>
      have hle : ops.size ≤ i := by simpa using hd
      have h0 : ops.toList.drop i = [] := by rw [List.drop_eq_nil_iff]; simpa using hle
      rw [h0] at h
      simp only [List.take_nil, evOps, Option.some.injEq] at h
      subst h
      intro a ha
      have h1 : ops.toList.drop (i + (k + 1)) = [] := by rw [List.drop_eq_nil_iff]; simp; omega
      have := hk a ha
      rw [h1] at this
      rw [h0]
      exact this
    | some o =>
      rw [drop_at hd, List.take_succ_cons, evOps] at h
      have hk' : GL P n ops Q (i + 1 + k) fr' w := by rw [show i + 1 + k = i + (k + 1) from by omega]; exact hk
      cases hs : (dok n o.dst && knowns fr o.op && noSel o.op) with
      | true =>
        simp only [hs, cond_true] at h
        cases hg : guardV ops fr o with
        | none => simp [hg] at h
        | some b =>
          cases b with
          | true =>
            simp only [hg] at h
            cases hv : sp P (execOp (ev fr) o) with
            | none => simp [hv] at h
            | some nx =>
              cases nx with
              | value v => simp only [hv] at h; exact gl_pure hd hg hs v hv (ih (i + 1) h hk')
              | _ => simp [hv] at h
          | false =>
            simp only [hg] at h
            simp only [Bool.and_eq_true] at hs
            exact gl_not hd hg hs.1.1 (ih (i + 1) h hk')
      | false =>
        simp only [hs, cond_false] at h
        cases hg : guardV ops fr o with
        | none => simp [hg] at h
        | some b =>
          cases b with
          | true => simp [hg] at h
          | false =>
            simp only [hg] at h
            cases hdk : dok n o.dst with
            | false => simp [hdk] at h
            | true => simp only [hdk, cond_true] at h; exact gl_not hd hg hdk (ih (i + 1) h hk')
theorem gl_ops (k : Nat) (fr' : Fr) (h : (evOps P n ops ((ops.toList.drop i).take k) fr).map (fun f => fr'.map fun p => gt f p.1) = some (fr'.map fun p => some p.2))
    (hk : GL P n ops Q (i + k) fr' w) : GL P n ops Q i fr w := by
  cases he : evOps P n ops ((ops.toList.drop i).take k) fr with
  | none => simp [he] at h
  | some f =>
    simp only [he, Option.map_some, Option.some.injEq] at h
    exact evOps_sound k i he (gl_sub fr' (Sub.of_eq h) hk)

theorem gd_one (i : Nat) {o : Oper} {fr' : Fr} (hi : ops[i]? = some o) (hb : canTake ops listed i = true) [hQ : PQ n Q] (hS : S w) (h : evOps P n ops [o] fr = some fr') (hk : GD P n ops Q S k (listed.setIfInBounds i true) fr' w) : GD P n ops Q S (k + 1) listed fr w := by
  rw [evOps] at h
  cases hs : (dok n o.dst && knowns fr o.op && noSel o.op) with
  | true =>
    simp only [hs, cond_true] at h
    cases hg : guardV ops fr o with
    | none => simp [hg] at h
    | some b =>
      cases b with
      | true =>
        simp only [hg] at h
        cases hv : sp P (execOp (ev fr) o) with
        | none => simp [hv] at h
        | some nx =>
          cases nx with
          | value v => simp only [hv, evOps, Option.some.injEq] at h; subst h; exact gd_pure i hi hb hS hg hs v hv hk
          | _ => simp [hv] at h
      | false =>
        simp only [hg, evOps, Option.some.injEq] at h
        subst h
        simp only [Bool.and_eq_true] at hs
        exact gd_not i hi hb hS hg hs.1.1 hk
  | false =>
    simp only [hs, cond_false] at h
    cases hg : guardV ops fr o with
    | none => simp [hg] at h
    | some b =>
      cases b with
      | true => simp [hg] at h
      | false =>
        simp only [hg] at h
        cases hdk : dok n o.dst with
        | false => simp [hdk] at h
        | true => simp only [hdk, cond_true, evOps, Option.some.injEq] at h; subst h; exact gd_not i hi hb hS hg hdk hk
def evD (P : Program) (n : Sh) (ops : Array Oper) : List Nat → Array Bool → Fr → Option Fr
  | [], _, fr => some fr
  | i :: r, listed, fr =>
    bif canTake ops listed i then
      match ops[i]? with
      | some o => match evOps P n ops [o] fr with
        | some fr' => evD P n ops r (listed.setIfInBounds i true) fr'
        | none => none
      | none => none
    else none
theorem evD_sound [hQ : PQ n Q] (hS : S w) : ∀ (l : List Nat) {listed : Array Bool} {fr fr' : Fr}, evD P n ops l listed fr = some fr' → GD P n ops Q S k (l.foldl (fun b i => b.setIfInBounds i true) listed) fr' w → GD P n ops Q S (k + l.length) listed fr w
  | [], _, _, _, h, hk => by
    simp only [evD, Option.some.injEq] at h
    subst h
    exact hk
  | i :: r, listed, fr, fr', h, hk => by
    rw [evD] at h
    cases hc : canTake ops listed i with
    | false => simp [hc] at h
    | true =>
      simp only [hc, cond_true] at h
      cases hi : ops[i]? with
      | none => simp [hi] at h
      | some o =>
        simp only [hi] at h
        cases h1 : evOps P n ops [o] fr with
        | none => simp [h1] at h
        | some f1 =>
          simp only [h1] at h
          exact gd_one i hi hc hS h1 (evD_sound hS r h hk)
theorem gds (i : Nat) (h : ST P n ops Q i (fun fr' w' => S w' ∧ GD P n ops Q S k (listed.setIfInBounds i true) fr' w') fr w) (hr : (Region.ready .any ops listed == [i]) = true := by kernel_rfl) : GD P n ops Q S (k + 1) listed fr w := gd_st i hr h
theorem gdk (fr' : Fr) (h : GD P n ops Q S k listed fr' w) (hs : (fr'.map fun p => gt fr p.1) = fr'.map fun p => some p.2 := by kernel_rfl) : GD P n ops Q S k listed fr w := gd_keep fr' hs h
theorem gdn (fr' : Fr) (h : At n Q .normal fr' w) (hr : (Region.ready .any ops listed).isEmpty = true := by kernel_rfl) (hs : (fr'.map fun p => gt fr p.1) = fr'.map fun p => some p.2 := by kernel_rfl) : GD P n ops Q S k listed fr w := gd_done hr (at_sub fr' (Sub.of_eq hs) h)
theorem glo (k : Nat) (fr' : Fr) (hk : GL P n ops Q (i + k) fr' w) (h : (evOps P n ops ((ops.toList.drop i).take k) fr).map (fun f => fr'.map fun p => gt f p.1) = some (fr'.map fun p => some p.2) := by kernel_rfl) : GL P n ops Q i fr w := gl_ops k fr' h hk
theorem swk {c : Code} (fr' : Fr) (h : SW P n c Q fr' w) (hs : (fr'.map fun p => gt fr p.1) = fr'.map fun p => some p.2 := by kernel_rfl) : SW P n c Q fr w := sw_keep fr' hs h
theorem gt_app : ∀ (d r : Fr) (i : Nat), gt (d ++ r) i = (gt d i).or (gt r i)
  | [], r, i => by simp [gt]
  | (j, v) :: d, r, i => by
    rw [List.cons_append, gt_cons, gt_cons, gt_app d r i]
    split <;> simp
theorem gt_pf (fr : Fr) (d : Option Tmp) (v : Value) (i : Nat) (h : d ≠ some i) : gt (pf fr d v) i = gt fr i := by
  cases d with
  | none => rfl
  | some j => rw [pf, gt_cons, if_neg (fun e => h (by rw [e]))]
theorem evOps_keep : ∀ (l : List Oper) {fr f : Fr}, evOps P n ops l fr = some f → ∀ i, (∀ o ∈ l, o.dst ≠ some i) → gt f i = gt fr i
  | [], fr, f, h, i, _ => by simp only [evOps, Option.some.injEq] at h; rw [h]
  | o :: r, fr, f, h, i, hi => by
    have h0 := hi o (by simp)
    have hr : ∀ o ∈ r, o.dst ≠ some i := fun q hq => hi q (by simp [hq])
    rw [evOps] at h
    have key : ∀ v, evOps P n ops r (pf fr o.dst v) = some f → gt f i = gt fr i := fun v hv => (evOps_keep r hv i hr).trans (gt_pf _ _ _ _ h0)
    cases hs : (dok n o.dst && knowns fr o.op && noSel o.op) <;> simp only [hs, cond_true, cond_false] at h <;> cases hg : guardV ops fr o with
    | none => simp [hg] at h
    | some b =>
      cases b <;> simp only [hg] at h
      all_goals first
        | exact key _ h
        | cases h
        | (cases hd : dok n o.dst <;> simp only [hd, cond_true, cond_false] at h <;> first | exact key _ h | cases h)
        | (cases hv : sp P (execOp (ev fr) o) with
           | none => simp [hv] at h
           | some nx => cases nx <;> simp only [hv] at h <;> first | exact key _ h | cases h)
theorem evD_keep : ∀ (l : List Nat) {listed : Array Bool} {fr f : Fr}, evD P n ops l listed fr = some f → ∀ i, (∀ o ∈ l.filterMap (ops[·]?), o.dst ≠ some i) → gt f i = gt fr i
  | [], _, fr, f, h, i, _ => by simp only [evD, Option.some.injEq] at h; rw [h]
  | j :: r, listed, fr, f, h, i, hi => by
    rw [evD] at h
    cases hc : canTake ops listed j with
    | false => simp [hc] at h
    | true =>
      simp only [hc, cond_true] at h
      cases ho : ops[j]? with
      | none => simp [ho] at h
      | some o =>
        simp only [ho] at h
        cases h1 : evOps P n ops [o] fr with
        | none => simp [h1] at h
        | some f1 =>
          simp only [h1] at h
          rw [evD_keep r h i (fun q hq => hi q (by rw [List.filterMap_cons, ho]; exact List.mem_cons_of_mem _ hq))]
          exact evOps_keep [o] h1 i (fun q hq => hi q (by rw [List.filterMap_cons, ho]; simp only [List.mem_singleton] at hq; rw [hq]; exact List.mem_cons_self ..))
def clr (d fr : Fr) : List Oper → Bool
  | [] => true
  | o :: r => (match o.dst with
    | none => true
    | some t => (gt d t).isSome || (gt fr t).isNone) && clr d fr r
theorem clr_mem {d fr : Fr} : ∀ {l : List Oper}, clr d fr l = true → ∀ o ∈ l, ∀ t, o.dst = some t → (gt d t).isSome = true ∨ gt fr t = none
  | [], _, o, ho, _, _ => by cases ho
  | q :: r, h, o, ho, t, ht => by
    rw [clr, Bool.and_eq_true] at h
    rcases List.mem_cons.1 ho with rfl | ho
    · have := h.1
      rw [ht] at this
      simpa using this
    · exact clr_mem h.2 o ho t ht
theorem sub_new {d fr f : Fr} {l : List Oper} (hf : ∀ i, (∀ o ∈ l, o.dst ≠ some i) → gt f i = gt fr i) (h : (d.map fun p => gt f p.1) = d.map fun p => some p.2) (hc : clr d fr l = true) : Sub (d ++ fr) f := by
  intro i v hv
  rw [gt_app] at hv
  cases hd : gt d i with
  | some u =>
    rw [hd] at hv
    simp only [Option.or, Option.some.injEq] at hv
    subst hv
    exact Sub.of_eq h i u hd
  | none =>
    rw [hd, Option.none_or] at hv
    rw [hf i (fun o ho e => ?_)]
    · exact hv
    · rcases clr_mem hc o ho i e with h1 | h1
      · rw [hd] at h1; cases h1
      · rw [h1] at hv; cases hv
def gpv (P : Program) (n : Sh) (ops : Array Oper) (l : List Oper) (fr d : Fr) : Bool × Option (List (Option Value)) := (clr d fr l, (evOps P n ops l fr).map (fun f => d.map fun p => gt f p.1))
def gpd (P : Program) (n : Sh) (ops : Array Oper) (listed : Array Bool) (l : List Nat) (fr d : Fr) : Bool × Option (List (Option Value)) := (clr d fr (l.filterMap (ops[·]?)), (evD P n ops l listed fr).map (fun f => d.map fun p => gt f p.1))
theorem gop (k : Nat) (d : Fr) (hk : GL P n ops Q (i + k) (d ++ fr) w) (h : gpv P n ops ((ops.toList.drop i).take k) fr d = (true, some (d.map fun p => some p.2))) : GL P n ops Q i fr w := by
  simp only [gpv, Prod.mk.injEq] at h
  cases he : evOps P n ops ((ops.toList.drop i).take k) fr with
  | none => rw [he] at h; cases h.2
  | some f =>
    rw [he, Option.map_some, Option.some.injEq] at h
    exact evOps_sound k i he (gl_sub _ (sub_new (evOps_keep _ he) h.2 h.1) hk)
theorem Go0 (k : Nat) (hk : GL P n ops Q (i + k) fr w) (h : gpv P n ops ((ops.toList.drop i).take k) fr [] = (true, some []) := by kernel_rfl) : GL P n ops Q i fr w := gop k [] hk h
theorem Go1 (k t : Nat) (v : Value) (hk : GL P n ops Q (i + k) ((t, v) :: fr) w) (h : gpv P n ops ((ops.toList.drop i).take k) fr [(t, v)] = (true, some [some v]) := by kernel_rfl) : GL P n ops Q i fr w := gop k [(t, v)] hk h
theorem Go2 (k t : Nat) (v : Value) (t2 : Nat) (v2 : Value) (hk : GL P n ops Q (i + k) ((t, v) :: (t2, v2) :: fr) w) (h : gpv P n ops ((ops.toList.drop i).take k) fr [(t, v), (t2, v2)] = (true, some [some v, some v2]) := by kernel_rfl) : GL P n ops Q i fr w := gop k [(t, v), (t2, v2)] hk h
theorem Go3 (k t : Nat) (v : Value) (t2 : Nat) (v2 : Value) (t3 : Nat) (v3 : Value) (hk : GL P n ops Q (i + k) ((t, v) :: (t2, v2) :: (t3, v3) :: fr) w) (h : gpv P n ops ((ops.toList.drop i).take k) fr [(t, v), (t2, v2), (t3, v3)] = (true, some [some v, some v2, some v3]) := by kernel_rfl) : GL P n ops Q i fr w := gop k [(t, v), (t2, v2), (t3, v3)] hk h
theorem gpp [PQ n Q] (m : Nat) (l : List Nat) (d : Fr) (hS : S w) (hk : GD P n ops Q S k (l.foldl (fun b i => b.setIfInBounds i true) listed) (d ++ fr) w) (hm : l.length = m)
    (h : gpd P n ops listed l fr d = (true, some (d.map fun p => some p.2))) : GD P n ops Q S (k + m) listed fr w := by
  subst hm
  simp only [gpd, Prod.mk.injEq] at h
  cases he : evD P n ops l listed fr with
  | none => rw [he] at h; cases h.2
  | some f =>
    rw [he, Option.map_some, Option.some.injEq] at h
    exact evD_sound hS l he (gd_sub _ (sub_new (evD_keep _ he) h.2 h.1) hk)
theorem Gp1 [PQ n Q] (m : Nat) (l : List Nat) (t : Nat) (v : Value) (hS : S w) (hk : GD P n ops Q S k (l.foldl (fun b i => b.setIfInBounds i true) listed) ((t, v) :: fr) w) (hm : l.length = m := by kernel_rfl) (h : gpd P n ops listed l fr [(t, v)] = (true, some [some v]) := by kernel_rfl) : GD P n ops Q S (k + m) listed fr w := gpp m l [(t, v)] hS hk hm h
theorem Gp2 [PQ n Q] (m : Nat) (l : List Nat) (t : Nat) (v : Value) (t2 : Nat) (v2 : Value) (hS : S w) (hk : GD P n ops Q S k (l.foldl (fun b i => b.setIfInBounds i true) listed) ((t, v) :: (t2, v2) :: fr) w) (hm : l.length = m := by kernel_rfl) (h : gpd P n ops listed l fr [(t, v), (t2, v2)] = (true, some [some v, some v2]) := by kernel_rfl) : GD P n ops Q S (k + m) listed fr w := gpp m l [(t, v), (t2, v2)] hS hk hm h
theorem Gp3 [PQ n Q] (m : Nat) (l : List Nat) (t : Nat) (v : Value) (t2 : Nat) (v2 : Value) (t3 : Nat) (v3 : Value) (hS : S w) (hk : GD P n ops Q S k (l.foldl (fun b i => b.setIfInBounds i true) listed) ((t, v) :: (t2, v2) :: (t3, v3) :: fr) w) (hm : l.length = m := by kernel_rfl) (h : gpd P n ops listed l fr [(t, v), (t2, v2), (t3, v3)] = (true, some [some v, some v2, some v3]) := by kernel_rfl) : GD P n ops Q S (k + m) listed fr w := gpp m l [(t, v), (t2, v2), (t3, v3)] hS hk hm h
theorem Gp4 [PQ n Q] (m : Nat) (l : List Nat) (t : Nat) (v : Value) (t2 : Nat) (v2 : Value) (t3 : Nat) (v3 : Value) (t4 : Nat) (v4 : Value) (hS : S w) (hk : GD P n ops Q S k (l.foldl (fun b i => b.setIfInBounds i true) listed) ((t, v) :: (t2, v2) :: (t3, v3) :: (t4, v4) :: fr) w) (hm : l.length = m := by kernel_rfl) (h : gpd P n ops listed l fr [(t, v), (t2, v2), (t3, v3), (t4, v4)] = (true, some [some v, some v2, some v3, some v4]) := by kernel_rfl) : GD P n ops Q S (k + m) listed fr w := gpp m l [(t, v), (t2, v2), (t3, v3), (t4, v4)] hS hk hm h
theorem Gq {o : Oper} (hi : ops[i]? = some o) {v : Value} (hr : Runs P fr o v w) (h : GL P n ops Q (i + 1) (pf fr o.dst v) w) (hg : guardV ops fr o = some true := by kernel_rfl) (hs : (dok n o.dst && knowns fr o.op && noSel o.op) = true := by kernel_rfl) : GL P n ops Q i fr w := gl_q hi hg hs hr h
theorem Dq (i : Nat) [PQ n Q] {o : Oper} {v : Value} (hi : ops[i]? = some o) (hr : ∀ w, S w → Runs P fr o v w) (hS : S w) (h : GD P n ops Q S k (listed.setIfInBounds i true) (pf fr o.dst v) w) (hb : canTake ops listed i = true := by kernel_rfl)
    (hg : guardV ops fr o = some true := by kernel_rfl) (hs : (dok n o.dst && knowns fr o.op && noSel o.op) = true := by kernel_rfl) : GD P n ops Q S (k + 1) listed fr w := gd_q i hi hb hS hg hs hr h
theorem Nl {a b : Prop} (x : a) (h : a → b) : a ∧ b := ⟨x, h x⟩
/-- A Bool that is told by propositions. -/
class BP (b : Bool) (p q : outParam Prop) : Prop where
  t : b = true → p
  f : b = false → q
instance (priority := 10) BP.any (b : Bool) : BP b (b = true) (b = false) := ⟨id, id⟩
instance (priority := 50) BP.dec {p : Prop} [Decidable p] : BP (decide p) p (¬ p) := ⟨of_decide_eq_true, of_decide_eq_false⟩
instance BP.lt {x y : Int} [Decidable (x < y)] : BP (decide (x < y)) (x < y) (y ≤ x) := ⟨of_decide_eq_true, fun h => Int.not_lt.1 (of_decide_eq_false h)⟩
instance BP.le {x y : Int} [Decidable (x ≤ y)] : BP (decide (x ≤ y)) (x ≤ y) (y < x) := ⟨of_decide_eq_true, fun h => Int.not_le.1 (of_decide_eq_false h)⟩
instance BP.eq {α : Type} [BEq α] [LawfulBEq α] {x y : α} : BP (x == y) (x = y) (¬ x = y) := ⟨fun h => eq_of_beq h, fun h e => by rw [e, beq_self_eq_true] at h; cases h⟩
instance BP.ne {α : Type} [BEq α] [LawfulBEq α] {x y : α} : BP (x != y) (¬ x = y) (x = y) := ⟨(fun h e => by rw [e, bne_self_eq_false] at h; cases h), (fun h => by simpa using h)⟩
instance (priority := 20) BP.not {b : Bool} {p q : Prop} [h : BP b p q] : BP (!b) q p := ⟨fun e => h.f (by simpa using e), fun e => h.t (by simpa using e)⟩
theorem If {c : Operand} {b : Bool} {p q : Prop} [h : BP b p q] (hc : ev fr c = .bool b) (ht : p → SW P n x Q fr w) (hf : q → SW P n y Q fr w) (hk : kn fr c = true := by kernel_rfl) : SW P n (.cond c x y) Q fr w := sw_cond hc hk (fun e => ht (h.t e)) (fun e => hf (h.f e))
theorem It {c : Operand} (h : SW P n x Q fr w) (hc : ev fr c = .bool true := by kernel_rfl) (hk : kn fr c = true := by kernel_rfl) : SW P n (.cond c x y) Q fr w := sw_true hc hk h
theorem Iz {c : Operand} (h : SW P n y Q fr w) (hc : ev fr c = .bool false := by kernel_rfl) (hk : kn fr c = true := by kernel_rfl) : SW P n (.cond c x y) Q fr w := sw_false hc hk h
theorem Gi (t : Nat) {b : Bool} {p q : Prop} [h : BP b p q] (hv : gt fr t = some (.bool b)) (ht : p → GL P n ops Q i (pf fr (some t) (.bool true)) w) (hf : q → GL P n ops Q i (pf fr (some t) (.bool false)) w) : GL P n ops Q i fr w := gl_split t hv (fun e => ht (h.t e)) (fun e => hf (h.f e))
theorem Sk (h : SW P n y Q fr w) : SW P n .skip (Exit.then (fun a w => y.wp P Q a w) Q) fr w := sw_skip (sw_next h)
theorem Dn (h : SW P n y Q fr w) (hi : Nat.beq ops.size i = true := by kernel_rfl) : GL P n ops (Exit.then (fun a w => y.wp P Q a w) Q) i fr w := gl_dn hi h
theorem Dd (h : At n Q .normal fr w) (hi : Nat.beq ops.size i = true := by kernel_rfl) : GL P n ops Q i fr w := gl_done hi h
/-- From a return to the function's end. -/
class UR (Q : Exit → Act → World → Prop) (R : outParam (Exit → Act → World → Prop)) : Prop where
  of : ∀ a w, R .ret a w → Q .ret a w
instance UR.th {Z : Act → World → Prop} {R : Exit → Act → World → Prop} [h : UR Q R] : UR (Exit.then Z Q) R := ⟨h.of⟩
instance UR.bk {id : Nat} {R : Exit → Act → World → Prop} [h : UR Q R] : UR (Exit.inBlock id Q) R := ⟨h.of⟩
instance UR.body {fn : Func} {R : Ending → World → Prop} : UR (bodyPost P fn R) (bodyPost P fn R) := ⟨fun _ _ h => h⟩
theorem ur {R : Exit → Act → World → Prop} [h : UR Q R] (hr : At n R .ret fr w) : SW P n .ret Q fr w := sw_ret fun a ha => h.of a w (hr a ha)
def Fun (P : Program) (f : FuncId) (args : List Value) (w : World) (Post : Value → World → Prop) : Prop :=
  Calls P f args.toArray w fun e w' => ∃ v, e = .returned v ∧ Post v w'
theorem Fun.mono {f : FuncId} {args : List Value} {Post Post' : Value → World → Prop} (h : Fun P f args w Post) (hp : ∀ v w', Post v w' → Post' v w') : Fun P f args w Post' :=
  Calls.mono h fun e w' ⟨v, he, hv⟩ => ⟨v, he, hp v w' hv⟩
def callable (P : Program) (f : FuncId) : Bool :=
  match P.funcs[f]? with
  | some fn => !fn.body.isNone && !(fn.name == "runtime.NumGoroutine")
  | none => false
theorem run_callFunc_of {f : FuncId} (h : callable P f = true) (args : Array Value) (w : World) : (callFunc f args).run P w = .ok (.enter f args) w := by
  unfold callable at h
  unfold callFunc
  cases hf : P.funcs[f]? with
  | none => simp [hf] at h
  | some fn =>
    simp only [hf, Bool.and_eq_true, Bool.not_eq_true'] at h
    have h1 : fn.body ≠ none := by intro e; rw [e] at h; simp at h
    have h2 : fn.name ≠ "runtime.NumGoroutine" := by simpa using h.2
    simp [hf, h1, h2, Result.andThen]
theorem st_call {d : Option Tmp} {f : FuncId} {ags : Array Operand} {tys : Array TypeId} {ty : TypeId} {pos : String} {aft : Array Edge} {g : Option (Nat × Bool)}
    (hi : ops[i]? = some ⟨d, .call ⟨.value (.func f), ags, tys⟩, ty, pos, aft, g⟩) (hg : guardV ops fr ⟨d, .call ⟨.value (.func f), ags, tys⟩, ty, pos, aft, g⟩ = some true)
    (hs : (dok n d && ags.toList.all (kn fr)) = true) (hc : callable P f = true) {args : List Value} (ha : ags.toList.map (ev fr) = args)
    {Post : Value → World → Prop} (hf : Fun P f args w Post) (h : ∀ v w', Post v w' → K (pf fr d v) w') : ST P n ops Q i K fr w := by
  simp only [Bool.and_eq_true] at hs
  refine st_step hi hg fun a hfit K' hK => ?_
  unfold Oper.wp
  rw [hfit.exec (by simp only [knowns, Op.operands, Call.operands, Array.toList_append, List.all_append, hs.2, Bool.and_true]; rfl) rfl]
  have hr : (execOp (ev fr) ⟨d, .call ⟨.value (.func f), ags, tys⟩, ty, pos, aft, g⟩).run P w = .ok (.enter f args.toArray) w := by
    have hm : ags.map (ev fr) = args.toArray := by rw [← ha]; apply Array.ext'; simp
    simp only [execOp, resolve, Deferred.ofValue, ev, invoke, Sem.run_bind, Sem.run_pure, Result.andThen_ok]
    rw [show (#[] : Array Value) ++ ags.map (ev fr) ++ #[] = args.toArray from by rw [hm]; simp]
    exact run_callFunc_of hc _ w
  rw [hr]
  simp only [Oper.upon]
  refine Calls.mono hf ?_
  rintro e w' ⟨v, rfl, hv⟩
  exact hK _ _ _ (hfit.put hs.1 v) (h v w' hv)

theorem Sc {d : Option Tmp} {f : FuncId} {ags : Array Operand} {tys : Array TypeId} {ty : TypeId} {pos : String} {aft : Array Edge} {g : Option (Nat × Bool)}
    (hi : ops[i]? = some ⟨d, .call ⟨.value (.func f), ags, tys⟩, ty, pos, aft, g⟩) {args : List Value} (ha : ags.toList.map (ev fr) = args) {Post : Value → World → Prop} (hf : Fun P f args w Post) (h : ∀ v w', Post v w' → K (pf fr d v) w')
    (hg : guardV ops fr ⟨d, .call ⟨.value (.func f), ags, tys⟩, ty, pos, aft, g⟩ = some true := by kernel_rfl) (hs : (dok n d && ags.toList.all (kn fr)) = true := by kernel_rfl) (hc : callable P f = true := by kernel_rfl) : ST P n ops Q i K fr w := st_call hi hg hs hc ha hf h
theorem Cl {d : Option Tmp} {f : FuncId} {ags : Array Operand} {tys : Array TypeId} {ty : TypeId} {pos : String} {aft : Array Edge} {g : Option (Nat × Bool)}
    (hi : ops[i]? = some ⟨d, .call ⟨.value (.func f), ags, tys⟩, ty, pos, aft, g⟩) {args : List Value} (ha : ags.toList.map (ev fr) = args) {Post : Value → World → Prop} (hf : Fun P f args w Post) (h : ∀ v w', Post v w' → GL P n ops Q (i + 1) (pf fr d v) w')
    (hg : guardV ops fr ⟨d, .call ⟨.value (.func f), ags, tys⟩, ty, pos, aft, g⟩ = some true := by kernel_rfl) (hs : (dok n d && ags.toList.all (kn fr)) = true := by kernel_rfl) (hc : callable P f = true := by kernel_rfl) : GL P n ops Q i fr w := gl_st (st_call hi hg hs hc ha hf h)

theorem st_callv {d : Option Tmp} {f : FuncId} {x : Operand} {ags : Array Operand} {tys : Array TypeId} {ty : TypeId} {pos : String} {aft : Array Edge} {g : Option (Nat × Bool)}
    (hi : ops[i]? = some ⟨d, .call ⟨.value x, ags, tys⟩, ty, pos, aft, g⟩) (hg : guardV ops fr ⟨d, .call ⟨.value x, ags, tys⟩, ty, pos, aft, g⟩ = some true)
    (hs : (dok n d && (kn fr x && ags.toList.all (kn fr))) = true) (hc : callable P f = true) {cap : Array Value} (hx : ev fr x = .func (.func f) #[] cap) {args : List Value} (ha : ags.toList.map (ev fr) ++ cap.toList = args)
    {Post : Value → World → Prop} (hf : Fun P f args w Post) (h : ∀ v w', Post v w' → K (pf fr d v) w') : ST P n ops Q i K fr w := by
  simp only [Bool.and_eq_true] at hs
  refine st_step hi hg fun a hfit K' hK => ?_
  unfold Oper.wp
  rw [hfit.exec (by simp only [knowns, Op.operands, Call.operands, Array.toList_append, List.all_append, hs.2.2, Bool.and_true]; simpa using hs.2.1) rfl]
  have hr : (execOp (ev fr) ⟨d, .call ⟨.value x, ags, tys⟩, ty, pos, aft, g⟩).run P w = .ok (.enter f args.toArray) w := by
    have hm : ags.map (ev fr) ++ cap = args.toArray := by rw [← ha]; apply Array.ext'; simp
    simp only [execOp, resolve, hx, Deferred.ofValue, invoke, Sem.run_bind, Sem.run_pure, Result.andThen_ok]
    rw [show (#[] : Array Value) ++ ags.map (ev fr) ++ cap = args.toArray from by rw [← hm]; simp]
    exact run_callFunc_of hc _ w
  rw [hr]
  simp only [Oper.upon]
  refine Calls.mono hf ?_
  rintro e w' ⟨v, rfl, hv⟩
  exact hK _ _ _ (hfit.put hs.1 v) (h v w' hv)

def ent : Nat → List Value → Fr
  | _, [] => []
  | i, v :: r => (i, v) :: ent (i + 1) r
theorem gt_ent : ∀ (l : List Value) (k i : Nat) (v : Value), gt (ent k l) i = some v → k ≤ i ∧ l[i - k]? = some v
  | [], k, i, v, h => by simp [ent, gt] at h
  | u :: r, k, i, v, h => by
    simp only [ent, gt_cons] at h
    by_cases hk : k = i
    · subst hk; simp at h; simp [h]
    · simp only [hk, if_false] at h
      obtain ⟨h1, h2⟩ := gt_ent r (k + 1) i v h
      refine ⟨by omega, ?_⟩
      rw [show i - k = (i - (k + 1)) + 1 from by omega]
      simpa using h2
theorem fun_of_sw {f : FuncId} {fn : Func} {c : Code} {args : List Value} {Post : Value → World → Prop} (hf : P.funcs[f]? = some fn) (hb : fn.body = some c) (n : Nat) (hn : fn.ntmps = n) (hl : Nat.ble args.length n = true)
    (h : SW P ⟨n, [], []⟩ c (bodyPost P fn fun e w' => ∃ v, e = .returned v ∧ Post v w') (ent 0 args) w) : Fun P f args w Post := by
  refine calls_of_wp hf hb (h _ ⟨?_, rfl, fun i v hv => ?_⟩)
  · have := Nat.le_of_ble_eq_true hl
    simp [hn]; omega
  · obtain ⟨h1, h2⟩ := gt_ent args 0 i v hv
    simp only [Nat.sub_zero] at h2
    have hlt : i < args.length := (List.getElem?_eq_some_iff.1 h2).1
    simp only [Array.getD_eq_getD_getElem?]
    rw [Array.getElem?_append_left (by simpa using hlt)]
    simp [h2]
theorem ret0 {fn : Func} {Post : Value → World → Prop} (hr : fn.results = #[]) (h : Post (.tuple #[]) w) (hn : n.ds = [] := by kernel_rfl) : At n (bodyPost P fn fun e w' => ∃ v, e = .returned v ∧ Post v w') .ret fr w :=
  fun a ha => ⟨ha.dfs.trans hn, _, results_none hr _ _ _, _, rfl, h⟩
theorem end0 {fn : Func} {Post : Value → World → Prop} (hr : fn.results = #[]) (h : Post (.tuple #[]) w) (hn : n.ds = [] := by kernel_rfl) : At n (bodyPost P fn fun e w' => ∃ v, e = .returned v ∧ Post v w') .normal fr w :=
  fun a ha => ⟨ha.dfs.trans hn, _, results_none hr _ _ _, _, rfl, h⟩
theorem ret1 {fn : Func} {Post : Value → World → Prop} {t : Tmp} {v : Value} (hr : fn.results = #[.tmp t]) (hv : gt fr t = some v) (h : Post v w) (hn : n.ds = [] := by kernel_rfl) :
    At n (bodyPost P fn fun e w' => ∃ v, e = .returned v ∧ Post v w') .ret fr w :=
  fun a ha => ⟨ha.dfs.trans hn, _, results_tmp hr _ _ _, _, rfl, by rw [ha.get t v hv]; exact h⟩
theorem ret2 {fn : Func} {Post : Value → World → Prop} {t u : Tmp} {v v' : Value} (hr : fn.results = #[.tmp t, .tmp u]) (hv : gt fr t = some v) (hv' : gt fr u = some v') (h : Post (.tuple #[v, v']) w) (hn : n.ds = [] := by kernel_rfl) :
    At n (bodyPost P fn fun e w' => ∃ v, e = .returned v ∧ Post v w') .ret fr w :=
  fun a ha => ⟨ha.dfs.trans hn, _, results_tmp2 hr _ _ _, _, rfl, by rw [ha.get t v hv, ha.get u v' hv']; exact h⟩
theorem ret3 {fn : Func} {Post : Value → World → Prop} {t u s : Tmp} {v v' v'' : Value} (hr : fn.results = #[.tmp t, .tmp u, .tmp s]) (hv : gt fr t = some v) (hv' : gt fr u = some v') (hv'' : gt fr s = some v'') (h : Post (.tuple #[v, v', v'']) w) (hn : n.ds = [] := by kernel_rfl) :
    At n (bodyPost P fn fun e w' => ∃ v, e = .returned v ∧ Post v w') .ret fr w :=
  fun a ha => ⟨ha.dfs.trans hn, _, by simp [results, hr]; rfl, _, rfl, by
    have e1 := ha.get t v hv; have e2 := ha.get u v' hv'; have e3 := ha.get s v'' hv''
    simp only [Array.getD_eq_getD_getElem?] at e1 e2 e3
    simp only [e1, e2, e3]; exact h⟩
theorem Rt0 {fn : Func} {Post : Value → World → Prop} [UR Q (bodyPost P fn fun e w' => ∃ v, e = .returned v ∧ Post v w')] (hr : fn.results = #[]) (h : Post (.tuple #[]) w) (hn : n.ds = [] := by kernel_rfl) : SW P n .ret Q fr w := ur (ret0 hr h hn)
theorem Rt1 {fn : Func} {Post : Value → World → Prop} [UR Q (bodyPost P fn fun e w' => ∃ v, e = .returned v ∧ Post v w')] {t : Tmp} {v : Value} (hr : fn.results = #[.tmp t]) (hv : gt fr t = some v) (h : Post v w) (hn : n.ds = [] := by kernel_rfl) : SW P n .ret Q fr w := ur (ret1 hr hv h hn)
theorem Rt2 {fn : Func} {Post : Value → World → Prop} [UR Q (bodyPost P fn fun e w' => ∃ v, e = .returned v ∧ Post v w')] {t u : Tmp} {v v' : Value} (hr : fn.results = #[.tmp t, .tmp u]) (hv : gt fr t = some v) (hv' : gt fr u = some v') (h : Post (.tuple #[v, v']) w) (hn : n.ds = [] := by kernel_rfl) : SW P n .ret Q fr w := ur (ret2 hr hv hv' h hn)
theorem Rt3 {fn : Func} {Post : Value → World → Prop} [UR Q (bodyPost P fn fun e w' => ∃ v, e = .returned v ∧ Post v w')] {t u s : Tmp} {v v' v'' : Value} (hr : fn.results = #[.tmp t, .tmp u, .tmp s]) (hv : gt fr t = some v) (hv' : gt fr u = some v') (hv'' : gt fr s = some v'') (h : Post (.tuple #[v, v', v'']) w) (hn : n.ds = [] := by kernel_rfl) : SW P n .ret Q fr w := ur (ret3 hr hv hv' hv'' h hn)
def resOf (a : Act) : ResultVar → Sem Value
  | .tmp t => pure (a.tmps.getD t undef)
  | .cell x t => do loadVar t (← asAddr (a.tmps.getD x undef))
def RS (P : Program) (n : Sh) (fr : Fr) (w : World) (r : ResultVar) (v : Value) : Prop := ∀ a, Fits n fr a → (resOf a r).run P w = .ok v w
theorem RS.tmp {t : Tmp} {v : Value} (hv : gt fr t = some v) : RS P n fr w (.tmp t) v := by
  intro a ha
  simp [resOf, ha.get t v hv]
theorem results_of (fn : Func) (a : Act) : results fn a.tmps = (do let vs ← fn.results.mapM (resOf a); pure (if h : vs.size = 1 then vs[0] else .tuple vs)) := by
  unfold results
  congr 1

theorem retC1 {fn : Func} {Post : Value → World → Prop} {r : ResultVar} {v : Value} (hr : fn.results = #[r]) (h1 : RS P n fr w r v) (h : Post v w) (hn : n.ds = [] := by kernel_rfl) :
    At n (bodyPost P fn fun e w' => ∃ v, e = .returned v ∧ Post v w') .ret fr w :=
  fun a ha => ⟨ha.dfs.trans hn, _, by rw [results_of, hr]; simp [h1 a ha], _, rfl, h⟩
theorem retC2 {fn : Func} {Post : Value → World → Prop} {r1 r2 : ResultVar} {v1 v2 : Value} (hr : fn.results = #[r1, r2]) (h1 : RS P n fr w r1 v1) (h2 : RS P n fr w r2 v2) (h : Post (.tuple #[v1, v2]) w) (hn : n.ds = [] := by kernel_rfl) :
    At n (bodyPost P fn fun e w' => ∃ v, e = .returned v ∧ Post v w') .ret fr w :=
  fun a ha => ⟨ha.dfs.trans hn, _, by rw [results_of, hr]; simp [h1 a ha, h2 a ha], _, rfl, h⟩
theorem retC3 {fn : Func} {Post : Value → World → Prop} {r1 r2 r3 : ResultVar} {v1 v2 v3 : Value} (hr : fn.results = #[r1, r2, r3]) (h1 : RS P n fr w r1 v1) (h2 : RS P n fr w r2 v2) (h3 : RS P n fr w r3 v3) (h : Post (.tuple #[v1, v2, v3]) w) (hn : n.ds = [] := by kernel_rfl) :
    At n (bodyPost P fn fun e w' => ∃ v, e = .returned v ∧ Post v w') .ret fr w :=
  fun a ha => ⟨ha.dfs.trans hn, _, by rw [results_of, hr]; simp [h1 a ha, h2 a ha, h3 a ha], _, rfl, h⟩
end
end Go.SW
/- The calculus of SW, memory: loads, stores, new blocks, slices that the call makes; plain theorems. -/
set_option linter.unusedVariables false
set_option linter.unusedSimpArgs false
set_option maxRecDepth 100000
namespace Go.SW
open Go Go.RowKit
section
variable {P : Program} {n : Sh} {ops : Array Oper} {Q : Exit → Act → World → Prop} {i : Nat} {fr : Fr} {w : World}
variable {d : Option Tmp} {ty : TypeId} {pos : String} {aft : Array Edge} {g : Option (Nat × Bool)}

variable {K : Fr → World → Prop} {S : World → Prop} {k : Nat} {listed : Array Bool}
theorem sub_cv (t : Nat) {v : Value} (v' : Value) (e : v = v') (hv : gt fr t = some v) : Sub (pf fr (some t) v') fr := by
  subst e
  intro j u hj
  simp only [pf, gt_cons] at hj
  by_cases ht : t = j
  · subst ht; simp only [if_true, Option.some.injEq] at hj; subst hj; exact hv
  · simpa [ht] using hj
theorem gl_cv (t : Nat) {v : Value} (v' : Value) (e : v = v') (hv : gt fr t = some v) (h : GL P n ops Q i (pf fr (some t) v') w) : GL P n ops Q i fr w := gl_sub _ (sub_cv t v' e hv) h
theorem sw_cv {x : Code} (t : Nat) {v : Value} (v' : Value) (e : v = v') (hv : gt fr t = some v) (h : SW P n x Q (pf fr (some t) v') w) : SW P n x Q fr w := sw_sub _ (sub_cv t v' e hv) h
theorem gd_cv (t : Nat) {v : Value} (v' : Value) (e : v = v') (hv : gt fr t = some v) (h : GD P n ops Q S k listed (pf fr (some t) v') w) : GD P n ops Q S k listed fr w := gd_sub _ (sub_cv t v' e hv) h
theorem Gc0 (k t : Nat) (v v' : Value) (e : v = v') (hk : GL P n ops Q (i + k) ((t, v') :: fr) w) (h : gpv P n ops ((ops.toList.drop i).take k) fr [(t, v)] = (true, some [some v]) := by kernel_rfl) : GL P n ops Q i fr w := by subst e; exact Go1 k t v hk h
theorem Dc0 [PQ n Q] (m : Nat) (l : List Nat) (t : Nat) (v v' : Value) (e : v = v') (hS : S w) (hk : GD P n ops Q S k (l.foldl (fun b i => b.setIfInBounds i true) listed) ((t, v') :: fr) w) (hm : l.length = m := by kernel_rfl) (h : gpd P n ops listed l fr [(t, v)] = (true, some [some v]) := by kernel_rfl) : GD P n ops Q S (k + m) listed fr w := by subst e; exact Gp1 m l t v hS hk hm h
theorem Gc1 (k t : Nat) (v v' : Value) (e : v = v') (t2 : Nat) (v2 : Value) (hk : GL P n ops Q (i + k) ((t, v') :: (t2, v2) :: fr) w) (h : gpv P n ops ((ops.toList.drop i).take k) fr [(t, v), (t2, v2)] = (true, some [some v, some v2]) := by kernel_rfl) : GL P n ops Q i fr w := by subst e; exact Go2 k t v t2 v2 hk h
theorem Dc1 [PQ n Q] (m : Nat) (l : List Nat) (t : Nat) (v v' : Value) (e : v = v') (t2 : Nat) (v2 : Value) (hS : S w) (hk : GD P n ops Q S k (l.foldl (fun b i => b.setIfInBounds i true) listed) ((t, v') :: (t2, v2) :: fr) w) (hm : l.length = m := by kernel_rfl) (h : gpd P n ops listed l fr [(t, v), (t2, v2)] = (true, some [some v, some v2]) := by kernel_rfl) : GD P n ops Q S (k + m) listed fr w := by subst e; exact Gp2 m l t v t2 v2 hS hk hm h
theorem Gc2 (k t : Nat) (v v' : Value) (e : v = v') (t2 : Nat) (v2 : Value) (t3 : Nat) (v3 : Value) (hk : GL P n ops Q (i + k) ((t, v') :: (t2, v2) :: (t3, v3) :: fr) w) (h : gpv P n ops ((ops.toList.drop i).take k) fr [(t, v), (t2, v2), (t3, v3)] = (true, some [some v, some v2, some v3]) := by kernel_rfl) : GL P n ops Q i fr w := by subst e; exact Go3 k t v t2 v2 t3 v3 hk h
theorem Dc2 [PQ n Q] (m : Nat) (l : List Nat) (t : Nat) (v v' : Value) (e : v = v') (t2 : Nat) (v2 : Value) (t3 : Nat) (v3 : Value) (hS : S w) (hk : GD P n ops Q S k (l.foldl (fun b i => b.setIfInBounds i true) listed) ((t, v') :: (t2, v2) :: (t3, v3) :: fr) w) (hm : l.length = m := by kernel_rfl) (h : gpd P n ops listed l fr [(t, v), (t2, v2), (t3, v3)] = (true, some [some v, some v2, some v3]) := by kernel_rfl) : GD P n ops Q S (k + m) listed fr w := by subst e; exact Gp3 m l t v t2 v2 t3 v3 hS hk hm h

def scalarT (P : Program) (t : TypeId) : Bool :=
  match P.underlying t with
  | some (.struct _) | some (.array _ _) | none => false
  | _ => true
def aggT (P : Program) (t : TypeId) : Bool :=
  match P.underlying t with
  | some (.struct _) | some (.array _ _) => true
  | _ => false
theorem run_isAgg_false {t : TypeId} (h : scalarT P t = true) : (isAgg t).run P w = .ok false w := by
  unfold scalarT at h
  unfold isAgg underlying
  cases hu : P.underlying t with
  | none => simp [hu] at h
  | some d => cases d <;> simp_all [Result.andThen]
theorem run_isAgg_true {t : TypeId} (h : aggT P t = true) : (isAgg t).run P w = .ok true w := by
  unfold aggT at h
  unfold isAgg underlying
  cases hu : P.underlying t with
  | none => simp [hu] at h
  | some d => cases d <;> simp_all [Result.andThen]
def sizeT (P : Program) (t : TypeId) : Option Nat := (P.info? t).map (·.size)
theorem run_sizeOf_of {t : TypeId} {m : Nat} (h : sizeT P t = some m) : (sizeOf t).run P w = .ok m w := by
  obtain ⟨i, hi, hs⟩ := Option.map_eq_some_iff.1 h
  simp [sizeOf, typeInfo, hi, hs, Result.andThen]

theorem rd_load {t : TypeId} {x : Operand} (ht : scalarT P t = true) {ad : Addr} (hx : ev fr x = .pointer (some ad)) {v : Value} (hc : w.cell? ad = some v) : Runs P fr ⟨d, .load t x, ty, pos, aft, g⟩ v w := by
  simp [Runs, execOp, hx, Instr.loadAt, Instr.sureAddr, loadVar, run_isAgg_false ht, hc, Result.andThen]
theorem rd_loadA {t : TypeId} {x : Operand} (ht : aggT P t = true) {ad : Addr} (hx : ev fr x = .pointer (some ad)) (cs : List Value) (hz : sizeT P t = some cs.length) (hc : ∀ j u, cs[j]? = some u → w.cell? (ad.add j) = some u) :
    Runs P fr ⟨d, .load t x, ty, pos, aft, g⟩ (.agg cs.toArray) w := by
  have hl := run_loadCells_list (P := P) (w := w) ad cs hc
  simp [Runs, execOp, hx, Instr.loadAt, Instr.sureAddr, loadVar, run_isAgg_true ht, run_sizeOf_of hz, hl, Result.andThen]

theorem st_store {t : TypeId} {x y : Operand} (hi : ops[i]? = some ⟨d, .store t x y, ty, pos, aft, g⟩) (hg : guardV ops fr ⟨d, .store t x y, ty, pos, aft, g⟩ = some true) (hs : (dok n d && knowns fr (.store t x y) && true) = true)
    {ad : Addr} (hx : ev fr x = .pointer (some ad)) {v : Value} (hy : ev fr y = v) (hv : v.oneCell' = true) (hz : sizeT P t = some 1) {u : Value} (hc : w.cell? ad = some u) (hf : w.frozen? ad = false)
    (h : K (pf fr d undef) (w.setCell ad v)) : ST P n ops Q i K fr w := by
  refine st_run0 hi hg hs (w.setCell ad v) ?_ h
  have hcs : v.cells = #[v] := by cases v <;> simp_all [Value.cells, Value.oneCell']
  have hst := run_store P w ad v .plain hv
  simp [execOp, hx, hy, Instr.storeAt, Instr.sureAddr, storeVar, run_sizeOf_of hz, hcs, storeCells, Addr.add, hst, stored, hc, hf, Result.andThen]
theorem st_box {e : TypeId} {x : Operand} (hi : ops[i]? = some ⟨d, .box e x, ty, pos, aft, g⟩) (hg : guardV ops fr ⟨d, .box e x, ty, pos, aft, g⟩ = some true) (hs : (dok n d && knowns fr (.box e x) && true) = true)
    {v : Value} (hx : ev fr x = v) (h : K (pf fr d (.pointer (some ⟨w.heap.size, 0, none⟩))) (w.alloc (.cells v.cells e))) : ST P n ops Q i K fr w := by
  refine st_run hi hg hs _ _ ?_ h
  simp [execOp, hx, Instr.box, newVar, newRow, Result.andThen]
def zeroT (P : Program) (t : TypeId) : Option Value := (P.info? t).bind (·.zero)
theorem st_alloc {e : TypeId} (hi : ops[i]? = some ⟨d, .alloc e, ty, pos, aft, g⟩) (hg : guardV ops fr ⟨d, .alloc e, ty, pos, aft, g⟩ = some true) (hs : (dok n d && true && true) = true)
    {z : Value} (hz : zeroT P e = some z) (h : K (pf fr d (.pointer (some ⟨w.heap.size, 0, none⟩))) (w.alloc (.cells z.cells e))) : ST P n ops Q i K fr w := by
  refine st_run hi hg hs _ _ ?_ h
  obtain ⟨inf, h1, h2⟩ := Option.bind_eq_some_iff.1 hz
  simp [execOp, Instr.alloc, zeroValue, typeInfo, h1, h2, newVar, newRow, Result.andThen]

def elemT (P : Program) (t : TypeId) : Option TypeId :=
  match P.underlying t with
  | some (.slice e) => some e
  | _ => none
theorem underlying_of_elem {t e : TypeId} (h : elemT P t = some e) : P.underlying t = some (.slice e) := by
  unfold elemT at h
  cases hu : P.underlying t with
  | none => simp [hu] at h
  | some d => cases d <;> simp_all
theorem rd_index {t e : TypeId} {x y : Operand} (ht : elemT P t = some e) {m : Nat} (hz : sizeT P e = some m) {A : Addr} {l c : Nat} (hx : ev fr x = .slice (some A) l c) {k : IntKind} (j : Nat) (hy : ev fr y = .int k j) (hj : j < l) :
    Runs P fr ⟨d, .indexAddr t x y, ty, pos, aft, g⟩ (.pointer (some (A.add (j * m)))) w := by
  have hlt : (j : Int) < (l : Int) := by omega
  have hnn : (0 : Int) ≤ (j : Int) := by omega
  simp [Runs, execOp, hx, hy, Instr.indexAt, asIntOf, run_underlying (underlying_of_elem ht), hlt, hnn, hj, run_sizeOf_of hz, Result.andThen]
end
end Go.SW
/- The calculus of SW, what a call owns: 'Hp w0 w z F os': since w0 nothing but the blocks of F and new ones has turned; the cells of z read as z says; the rows and boxes of os are the call's own, each in a block of its own. Plain theorems. -/
set_option linter.unusedVariables false
set_option linter.unusedSimpArgs false
set_option maxRecDepth 100000
namespace Go.SW
open Go Go.RowKit

abbrev Zone := Addr → Option Value
def Zone.le (c c' : Zone) : Prop := ∀ a v, c a = some v → c' a = some v
theorem Zone.le.refl (c : Zone) : c.le c := fun _ _ h => h
theorem Zone.le.trans {a b c : Zone} (h : a.le b) (k : b.le c) : a.le c := fun p v hp => k p v (h p v hp)
def Row (c : Zone) (v : Value) (m n : Nat) (cs : List Value) : Prop :=
  cs.length = n * m ∧ ∃ A cap, v = .slice A n cap ∧ n ≤ cap ∧ cap ≤ maxLen ∧ ∀ j u, cs[j]? = some u → ∃ ad, A = some ad ∧ c (ad.add j) = some u
theorem Row.mono {c c' : Zone} {v : Value} {m n : Nat} {cs : List Value} (h : Row c v m n cs) (hc : c.le c') : Row c' v m n cs := by
  obtain ⟨h0, A, cap, h1, h3, h4, h5⟩ := h
  exact ⟨h0, A, cap, h1, h3, h4, fun j u hu => let ⟨ad, e, hp⟩ := h5 j u hu; ⟨ad, e, hc _ _ hp⟩⟩
theorem Row.nil (c : Zone) (m : Nat) : Row c (.slice none 0 0) m 0 [] := ⟨by simp, none, 0, rfl, Nat.le_refl _, by simp [maxLen], fun j u h => by simp at h⟩
theorem Row.of_own {w : World} {base : Nat} {e : TypeId} {m n : Nat} {v : Value} {xs : List Value} (h : w.ownsRow base e m v n xs) : Row w.cell? v m n xs := by
  obtain ⟨h1, h2⟩ := h
  rcases h2 with ⟨rfl, rfl⟩ | ⟨g, cap, cur, rfl, hb, hg, hn, hm, hs, ht⟩
  · refine ⟨h1, none, 0, rfl, Nat.le_refl _, by simp [maxLen], fun j u hu => ?_⟩
    have : xs = [] := List.eq_nil_of_length_eq_zero (by simpa using h1)
    simp [this] at hu
  · refine ⟨h1, some ⟨g, 0, none⟩, cap, rfl, hn, hm, fun j u hu => ⟨_, rfl, ?_⟩⟩
    have hown : w.ownsRow base e m (.slice (some ⟨g, 0, none⟩) n cap) n xs := ⟨h1, .inr ⟨g, cap, cur, rfl, hb, hg, hn, hm, hs, ht⟩⟩
    exact hown.cells rfl j u hu

/-- A resource: blocks, and what is in them. -/
structure Own where
  blks : List Nat
  at' : World → Prop
  lt' : ∀ w, at' w → ∀ g ∈ blks, g < w.heap.size
  kept' : ∀ w w', at' w → (∀ g ∈ blks, w'.heap[g]? = w.heap[g]?) → at' w'
def Own.at (w : World) (o : Own) : Prop := o.at' w
theorem Own.lt {w : World} {o : Own} (h : o.at w) : ∀ g ∈ o.blks, g < w.heap.size := o.lt' w h
theorem Own.kept {w w' : World} {o : Own} (h : o.at w) (hk : ∀ g ∈ o.blks, w'.heap[g]? = w.heap[g]?) : o.at w' := o.kept' w w' h hk
def Own.row (v : Value) (e : TypeId) (m n : Nat) (xs : List Value) : Own where
  blks := v.ownBlock.toList
  at' w := w.ownsRow 0 e m v n xs
  lt' w h g hg := by
    simp only [Option.mem_toList] at hg
    exact (h.lt g hg).2
  kept' w w' h hk := by
    refine ⟨h.1, ?_⟩
    rcases h.2 with hn | ⟨g, cap, cur, rfl, hb, hg, rest⟩
    · exact .inl hn
    · exact .inr ⟨g, cap, cur, rfl, hb, by rw [hk g (by simp [Value.ownBlock])]; exact hg, rest⟩
def Own.obj (g : Nat) (o : Obj) : Own where
  blks := [g]
  at' w := w.heap[g]? = some o
  lt' w h b hb := by
    simp only [List.mem_singleton] at hb
    subst hb
    exact (Array.getElem?_eq_some_iff.1 h).1
  kept' w w' h hk := (hk g (by simp)).trans h
def Own.blk (g : Nat) (e : TypeId) (cs : List Value) : Own := .obj g (.cells cs.toArray e (0, 0))
def blksOf (os : List Own) : List Nat := os.flatMap Own.blks
def Own.grp (l : List Own) : Own where
  blks := blksOf l
  at' w := ∀ o ∈ l, o.at w
  lt' w h g hg := by
    obtain ⟨o, ho, hgo⟩ := List.mem_flatMap.1 hg
    exact Own.lt (h o ho) g hgo
  kept' w w' h hk o ho := Own.kept (h o ho) fun g hg => hk g (List.mem_flatMap.2 ⟨o, ho, hg⟩)

structure Hp (w0 w : World) (z : Zone) (F : List Nat) (os : List Own) : Prop where
  os_ : w.os = w0.os
  tape : w.tape = w0.tape
  output : w.output = w0.output
  size : w0.heap.size ≤ w.heap.size
  keep : ∀ k, k < w0.heap.size → k ∉ F → w.heap[k]? = w0.heap[k]?
  zin : z.le w.cell?
  own : ∀ o ∈ os, o.at w
  nodup : (blksOf os).Nodup
  new : ∀ g ∈ blksOf os, (w0.heap.size ≤ g ∨ g ∈ F) ∧ ∀ off sp, z ⟨g, off, sp⟩ = none

def Fresh (w w' : World) (os : List Own) : Prop := Hp w w' (fun _ => none) [] os

section
variable {w0 w w' : World} {z : Zone} {F : List Nat} {os os' : List Own}
theorem Hp.start (w : World) : Hp w w w.cell? [] [] :=
  ⟨rfl, rfl, rfl, Nat.le_refl _, fun _ _ _ => rfl, Zone.le.refl _, by simp, by simp [blksOf], by simp [blksOf]⟩
theorem Hp.below (h : Hp w0 w z [] os) : Below w0.heap.size w0 w := ⟨h.os_, h.tape, h.output, h.size, fun k hk => h.keep k hk (by simp)⟩
theorem Hp.lt (h : Hp w0 w z F os) : ∀ g ∈ blksOf os, g < w.heap.size := by
  intro g hg
  obtain ⟨o, ho, hgo⟩ := List.mem_flatMap.1 hg
  exact Own.lt (h.own o ho) g hgo
theorem cell?_congr {w w' : World} {a : Addr} (h : w'.heap[a.block]? = w.heap[a.block]?) : w'.cell? a = w.cell? a := World.cell?_of_block h
theorem Hp.zlt (h : Hp w0 w z F os) {a : Addr} {v : Value} (ha : z a = some v) : a.block < w.heap.size := World.block_lt_of_cell? w a (h.zin a v ha)
theorem Hp.call (h : Hp w0 w z F os) (hf : Fresh w w' os') : Hp w0 w' z F (os ++ os') := by
  refine ⟨hf.os_.trans h.os_, hf.tape.trans h.tape, hf.output.trans h.output, Nat.le_trans h.size hf.size, fun k hk hF => ?_, fun a v ha => ?_, fun o ho => ?_, ?_, ?_⟩
  · rw [hf.keep k (Nat.lt_of_lt_of_le hk h.size) (by simp)]; exact h.keep k hk hF
  · rw [cell?_congr (hf.keep _ (h.zlt ha) (by simp))]; exact h.zin a v ha
  · rcases List.mem_append.1 ho with ho | ho
    · exact Own.kept (h.own o ho) fun g hg => hf.keep g (Own.lt (h.own o ho) g hg) (by simp)
    · exact hf.own o ho
  · rw [blksOf, List.flatMap_append]
    refine List.nodup_append.2 ⟨h.nodup, hf.nodup, fun a ha b hb e => ?_⟩
    subst e
    have h1 := h.lt a ha
    rcases (hf.new a hb).1 with h2 | h2
    · omega
    · simp at h2
  · intro g hg
    rw [blksOf, List.flatMap_append] at hg
    rcases List.mem_append.1 hg with hg | hg
    · exact h.new g hg
    · have h2 : w.heap.size ≤ g := by
        rcases (hf.new g hg).1 with h2 | h2
        · exact h2
        · simp at h2
      refine ⟨.inl (Nat.le_trans h.size h2), fun off sp => ?_⟩
      cases hz : z ⟨g, off, sp⟩ with
      | none => rfl
      | some v => have := h.zlt hz; simp at this; omega
theorem Hp.same (h : Hp w0 w z F os) (h1 : w'.heap = w.heap) (h2 : w'.os = w.os) (h3 : w'.tape = w.tape) (h4 : w'.output = w.output) : Hp w0 w' z F os := by
  refine ⟨h2.trans h.os_, h3.trans h.tape, h4.trans h.output, by rw [h1]; exact h.size, fun k hk hF => by rw [h1]; exact h.keep k hk hF, fun a v ha => ?_, fun o ho => Own.kept (h.own o ho) fun g _ => by rw [h1], h.nodup, h.new⟩
  have : w'.cell? a = w.cell? a := cell?_congr (by rw [h1])
  rw [this]; exact h.zin a v ha
theorem Fresh.alloc (w : World) (cs : List Value) (e : TypeId) : Fresh w (w.alloc (.cells cs.toArray e)) [.blk w.heap.size e cs] := by
  refine ⟨rfl, rfl, rfl, by simp, fun k hk _ => Below.heap_alloc _ _ _ hk, fun a v h => by simp at h, ?_, by simp [blksOf, Own.blk, Own.obj], ?_⟩
  · intro o ho
    simp only [List.mem_singleton] at ho
    subst ho
    exact heap_alloc_new w _
  · intro g hg
    simp only [blksOf, List.flatMap_cons, Own.blk, Own.obj, List.flatMap_nil, List.append_nil, List.mem_singleton] at hg
    exact ⟨.inl (by omega), fun _ _ => rfl⟩
theorem ownsRow_base {base : Nat} {e : TypeId} {m n : Nat} {v : Value} {xs : List Value} (h : w.ownsRow base e m v n xs) : w.ownsRow 0 e m v n xs := by
  refine ⟨h.1, ?_⟩
  rcases h.2 with hn | ⟨g, cap, cur, hv, hb, rest⟩
  · exact .inl hn
  · exact .inr ⟨g, cap, cur, hv, Nat.zero_le _, rest⟩
theorem Fresh.row {v : Value} {e : TypeId} {m n : Nat} {xs : List Value} (hb : Below w.heap.size w w') (h : w'.ownsRow w.heap.size e m v n xs) : Fresh w w' [.row v e m n xs] := by
  refine ⟨hb.os, hb.tape, hb.output, hb.size, fun k hk _ => hb.block k hk, fun a v h => by simp at h, ?_, ?_, ?_⟩
  · intro o ho
    simp only [List.mem_singleton] at ho
    subst ho
    exact ownsRow_base h
  · simp only [blksOf, List.flatMap_cons, Own.row, List.flatMap_nil, List.append_nil]
    cases v.ownBlock <;> simp
  · intro g hg
    simp only [blksOf, List.flatMap_cons, Own.row, List.flatMap_nil, List.append_nil, Option.mem_toList] at hg
    exact ⟨.inl (h.lt g hg).1, fun _ _ => rfl⟩
theorem Fresh.none (hb : Below w.heap.size w w') : Fresh w w' [] :=
  ⟨hb.os, hb.tape, hb.output, hb.size, fun k hk _ => hb.block k hk, fun a v h => by simp at h, by simp, by simp [blksOf], by simp [blksOf]⟩
theorem blksOf_sublist {os os' : List Own} (hs : os'.Sublist os) : (blksOf os').Sublist (blksOf os) := by
  induction hs with
  | slnil => exact List.Sublist.refl _
  | cons a _ ih => exact ih.trans (List.sublist_append_right _ _)
  | cons_cons a _ ih => exact (List.Sublist.refl _).append ih
theorem Hp.sublist (h : Hp w0 w z F os) (hs : os'.Sublist os) : Hp w0 w z F os' :=
  ⟨h.os_, h.tape, h.output, h.size, h.keep, h.zin, fun o ho => h.own o (hs.subset ho), h.nodup.sublist (blksOf_sublist hs), fun g hg => h.new g ((blksOf_sublist hs).subset hg)⟩
theorem Hp.perm (h : Hp w0 w z F os) (hs : os.Perm os') : Hp w0 w z F os' :=
  ⟨h.os_, h.tape, h.output, h.size, h.keep, h.zin, fun o ho => h.own o (hs.mem_iff.2 ho), (hs.flatMap_right _).nodup_iff.1 h.nodup, fun g hg => h.new g ((hs.flatMap_right _).mem_iff.2 hg)⟩
theorem Hp.fresh (h : Hp w0 w z [] os) : Fresh w0 w os :=
  ⟨h.os_, h.tape, h.output, h.size, h.keep, fun a v h => by simp at h, h.own, h.nodup, fun g hg => ⟨(h.new g hg).1, fun _ _ => rfl⟩⟩
theorem Hp.turn (h : Hp w0 w z F os) (k : Nat) {o o' : Own} (hk : os[k]? = some o) (row : Option Nat) (hrow : ∀ g, row = some g → g ∈ o.blks) (hg : w.grownBy w' row) (ho' : o'.at w')
    (hb : ∀ g ∈ o'.blks, g ∈ o.blks ∨ w.heap.size ≤ g) (hn : o'.blks.Nodup) : Hp w0 w' z F (os.set k o') := by
  have hmem : o ∈ os := List.mem_of_getElem? hk
  have hklt : k < os.length := (List.getElem?_eq_some_iff.1 hk).1
  have hok : os[k] = o := (List.getElem?_eq_some_iff.1 hk).2
  have hsplit : os = os.take k ++ o :: os.drop (k + 1) := by
    rw [← hok]; simp
  have hset : os.set k o' = os.take k ++ o' :: os.drop (k + 1) := List.set_eq_take_append_cons_drop .. |>.trans (by simp [hklt])
  have hnd := h.nodup
  have hold : ∀ g, g ∈ o.blks → g ∈ blksOf os := fun g hgo => List.mem_flatMap.2 ⟨o, hmem, hgo⟩
  have hother : ∀ x ∈ os.take k ++ os.drop (k + 1), x ∈ os := by
    intro x hx
    rcases List.mem_append.1 hx with hx | hx
    · exact List.mem_of_mem_take hx
    · exact List.mem_of_mem_drop hx
  have hdisj : ∀ x ∈ os.take k ++ os.drop (k + 1), ∀ g ∈ x.blks, g ∉ o.blks := by
    intro x hx g hgx hgo
    rw [hsplit] at hnd
    simp only [blksOf, List.flatMap_append, List.flatMap_cons] at hnd
    rcases List.mem_append.1 hx with hx | hx
    · have := (List.nodup_append.1 hnd).2.2 g (List.mem_flatMap.2 ⟨x, hx, hgx⟩) g (List.mem_append_left _ hgo)
      exact this rfl
    · have h2 := (List.nodup_append.1 hnd).2.1
      have := (List.nodup_append.1 h2).2.2 g hgo g (List.mem_flatMap.2 ⟨x, hx, hgx⟩)
      exact this rfl
  refine ⟨hg.os.trans h.os_, hg.tape.trans h.tape, hg.output.trans h.output, Nat.le_trans h.size hg.size, fun j hj hF => ?_, fun a v ha => ?_, fun x hx => ?_, ?_, ?_⟩
  · rw [hg.block j (Nat.lt_of_lt_of_le hj h.size) ?_]; exact h.keep j hj hF
    intro e
    have h1 := hold j (hrow j e.symm)
    rcases (h.new j h1).1 with h2 | h2
    · omega
    · exact hF h2
  · rw [cell?_congr (hg.block _ (h.zlt ha) ?_)]; exact h.zin a v ha
    intro e
    have h1 := hold _ (hrow _ e.symm)
    have h2 := (h.new _ h1).2 a.off a.spot
    rw [show (⟨a.block, a.off, a.spot⟩ : Addr) = a from rfl, ha] at h2
    cases h2
  · rw [hset] at hx
    rcases List.mem_append.1 hx with hx | hx
    · have hx' : x ∈ os.take k ++ os.drop (k + 1) := List.mem_append_left _ hx
      exact Own.kept (h.own x (hother x hx')) fun g hgx => hg.block g (Own.lt (h.own x (hother x hx')) g hgx) fun e => hdisj x hx' g hgx (hrow g e.symm)
    · rcases List.mem_cons.1 hx with rfl | hx
      · exact ho'
      · have hx' : x ∈ os.take k ++ os.drop (k + 1) := List.mem_append_right _ hx
        exact Own.kept (h.own x (hother x hx')) fun g hgx => hg.block g (Own.lt (h.own x (hother x hx')) g hgx) fun e => hdisj x hx' g hgx (hrow g e.symm)
  · rw [hset]
    rw [hsplit] at hnd
    simp only [blksOf, List.flatMap_append, List.flatMap_cons] at hnd ⊢
    have n1 := List.nodup_append.1 hnd
    have n2 := List.nodup_append.1 n1.2.1
    have hfar : ∀ x ∈ os.take k ++ os.drop (k + 1), ∀ g ∈ x.blks, g ∉ o'.blks := by
      intro x hx g hgx hgo
      rcases hb g hgo with h1 | h1
      · exact hdisj x hx g hgx h1
      · have := Own.lt (h.own x (hother x hx)) g hgx; omega
    refine List.nodup_append.2 ⟨n1.1, List.nodup_append.2 ⟨hn, n2.2.1, fun a ha b hb' e => ?_⟩, fun a ha b hb' e => ?_⟩
    · subst e
      obtain ⟨x, hx, hgx⟩ := List.mem_flatMap.1 hb'
      exact hfar x (List.mem_append_right _ hx) a hgx ha
    · subst e
      obtain ⟨x, hx, hgx⟩ := List.mem_flatMap.1 ha
      rcases List.mem_append.1 hb' with hb' | hb'
      · exact hfar x (List.mem_append_left _ hx) a hgx hb'
      · exact n1.2.2 a ha a (List.mem_append_right _ hb') rfl
  · intro g hgm
    rw [hset] at hgm
    simp only [blksOf, List.flatMap_append, List.flatMap_cons] at hgm
    have hcase : g ∈ o'.blks ∨ g ∈ blksOf os := by
      rcases List.mem_append.1 hgm with h1 | h1
      · obtain ⟨x, hx, hgx⟩ := List.mem_flatMap.1 h1
        exact .inr (List.mem_flatMap.2 ⟨x, List.mem_of_mem_take hx, hgx⟩)
      · rcases List.mem_append.1 h1 with h1 | h1
        · exact .inl h1
        · obtain ⟨x, hx, hgx⟩ := List.mem_flatMap.1 h1
          exact .inr (List.mem_flatMap.2 ⟨x, List.mem_of_mem_drop hx, hgx⟩)
    have hnew : w.heap.size ≤ g → (w0.heap.size ≤ g ∨ g ∈ F) ∧ ∀ off sp, z ⟨g, off, sp⟩ = none := by
      intro h2
      refine ⟨.inl (Nat.le_trans h.size h2), fun off sp => ?_⟩
      cases hz : z ⟨g, off, sp⟩ with
      | none => rfl
      | some v => have := h.zlt hz; simp at this; omega
    rcases hcase with h1 | h1
    · rcases hb g h1 with h2 | h2
      · exact h.new g (hold g h2)
      · exact hnew h2
    · exact h.new g h1

def Turn (w w' : World) (mine mine' : List Own) : Prop := Hp w w' (fun _ => none) (blksOf mine) mine'
theorem Fresh.turn (h : Fresh w w' os) : Turn w w' [] os := h
def Mine (w : World) (mine : List Own) : Prop := (∀ o ∈ mine, o.at w) ∧ (blksOf mine).Nodup
def off (w : World) (bs : List Nat) : Zone := fun a => if a.block ∈ bs then none else w.cell? a
theorem off_le (w : World) (bs : List Nat) : (off w bs).le w.cell? := by
  intro a v h
  unfold off at h
  split at h
  · cases h
  · exact h
theorem Hp.start_mine {mine : List Own} (h : Mine w mine) : Hp w w (off w (blksOf mine)) (blksOf mine) mine :=
  ⟨rfl, rfl, rfl, Nat.le_refl _, fun _ _ _ => rfl, off_le _ _, h.1, h.2, fun g hg => ⟨.inr hg, fun off sp => by simp [Go.SW.off, hg]⟩⟩
theorem Hp.mine {mine : List Own} (h : Hp w0 w z F (mine ++ os)) : Mine w mine :=
  ⟨fun o ho => h.own o (List.mem_append_left _ ho), h.nodup.sublist (blksOf_sublist (List.sublist_append_left _ _))⟩
theorem Hp.zoff {mine : List Own} (h : Hp w0 w z F (mine ++ os)) : z.le (off w (blksOf mine)) := by
  intro a v ha
  have h1 := h.zin a v ha
  have : a.block ∉ blksOf mine := fun hm => by
    have := (h.new a.block (by rw [blksOf, List.flatMap_append]; exact List.mem_append_left _ hm)).2 a.off a.spot
    rw [show (⟨a.block, a.off, a.spot⟩ : Addr) = a from rfl, ha] at this
    cases this
  simp [off, this, h1]
theorem Hp.turned {mine : List Own} (h : Hp w0 w z (blksOf mine) os) : Turn w0 w mine os :=
  ⟨h.os_, h.tape, h.output, h.size, h.keep, fun a v h => by simp at h, h.own, h.nodup, fun g hg => ⟨(h.new g hg).1, fun _ _ => rfl⟩⟩
theorem Hp.turns {mine mine' : List Own} (h : Hp w0 w z F (mine ++ os)) (ht : Turn w w' mine mine') : Hp w0 w' z F (os ++ mine') := by
  have hsplit : blksOf (mine ++ os) = blksOf mine ++ blksOf os := List.flatMap_append
  have hnd := h.nodup
  rw [hsplit] at hnd
  have nd := List.nodup_append.1 hnd
  have hin : ∀ g, g ∈ blksOf mine → (w0.heap.size ≤ g ∨ g ∈ F) ∧ ∀ off sp, z ⟨g, off, sp⟩ = none := fun g hg => h.new g (by rw [hsplit]; exact List.mem_append_left _ hg)
  have hio : ∀ g, g ∈ blksOf os → (w0.heap.size ≤ g ∨ g ∈ F) ∧ ∀ off sp, z ⟨g, off, sp⟩ = none := fun g hg => h.new g (by rw [hsplit]; exact List.mem_append_right _ hg)
  have hlo : ∀ g, g ∈ blksOf os → g < w.heap.size := fun g hg => h.lt g (by rw [hsplit]; exact List.mem_append_right _ hg)
  refine ⟨ht.os_.trans h.os_, ht.tape.trans h.tape, ht.output.trans h.output, Nat.le_trans h.size ht.size, fun k hk hF => ?_, fun a v ha => ?_, fun o ho => ?_, ?_, ?_⟩
  · rw [ht.keep k (Nat.lt_of_lt_of_le hk h.size) (fun hm => ?_)]; exact h.keep k hk hF
    rcases (hin k hm).1 with h1 | h1
    · omega
    · exact hF h1
  · rw [cell?_congr (ht.keep _ (h.zlt ha) (fun hm => ?_))]; exact h.zin a v ha
    have := (hin _ hm).2 a.off a.spot
    rw [show (⟨a.block, a.off, a.spot⟩ : Addr) = a from rfl, ha] at this
    cases this
  · rcases List.mem_append.1 ho with ho | ho
    · refine Own.kept (h.own o (List.mem_append_right _ ho)) fun g hg => ht.keep g (Own.lt (h.own o (List.mem_append_right _ ho)) g hg) fun hm => ?_
      exact nd.2.2 g hm g (List.mem_flatMap.2 ⟨o, ho, hg⟩) rfl
    · exact ht.own o ho
  · rw [blksOf, List.flatMap_append]
    refine List.nodup_append.2 ⟨nd.2.1, ht.nodup, fun a ha b hb e => ?_⟩
    subst e
    rcases (ht.new a hb).1 with h1 | h1
    · have := hlo a ha; omega
    · exact nd.2.2 a h1 a ha rfl
  · intro g hg
    rw [blksOf, List.flatMap_append] at hg
    rcases List.mem_append.1 hg with hg | hg
    · exact hio g hg
    · rcases (ht.new g hg).1 with h1 | h1
      · refine ⟨.inl (Nat.le_trans h.size h1), fun off sp => ?_⟩
        cases hz : z ⟨g, off, sp⟩ with
        | none => rfl
        | some v => have := h.zlt hz; simp at this; omega
      · exact hin g h1
theorem Turn.trans {w'' : World} {a b c : List Own} (h : Turn w w' a b) (k : Turn w' w'' b c) : Turn w w'' a c := by
  have h' : Hp w w' (fun _ => none) (blksOf a) (b ++ []) := by rw [List.append_nil]; exact h
  have := h'.turns k
  rwa [List.nil_append] at this
theorem Hp.freeze (h : Hp w0 w z F os) (hs : os'.Sublist os) : Hp w0 w (off w (blksOf os')) F os' := by
  have h' := h.sublist hs
  exact ⟨h'.os_, h'.tape, h'.output, h'.size, h'.keep, off_le _ _, h'.own, h'.nodup, fun g hg => ⟨(h'.new g hg).1, fun a b => by simp [off, hg]⟩⟩
theorem Hp.fr2 {a1 a2 : Own} {r : List Own} (h : Hp w0 w z F (a1 :: a2 :: r)) : Hp w0 w z F (a2 :: a1 :: r) := h.perm (List.perm_middle (l₁ := [a1]))
theorem Hp.fr3 {a1 a2 a3 : Own} {r : List Own} (h : Hp w0 w z F (a1 :: a2 :: a3 :: r)) : Hp w0 w z F (a3 :: a1 :: a2 :: r) := h.perm (List.perm_middle (l₁ := [a1, a2]))
theorem Hp.fr4 {a1 a2 a3 a4 : Own} {r : List Own} (h : Hp w0 w z F (a1 :: a2 :: a3 :: a4 :: r)) : Hp w0 w z F (a4 :: a1 :: a2 :: a3 :: r) := h.perm (List.perm_middle (l₁ := [a1, a2, a3]))
theorem Hp.fr5 {a1 a2 a3 a4 a5 : Own} {r : List Own} (h : Hp w0 w z F (a1 :: a2 :: a3 :: a4 :: a5 :: r)) : Hp w0 w z F (a5 :: a1 :: a2 :: a3 :: a4 :: r) := h.perm (List.perm_middle (l₁ := [a1, a2, a3, a4]))
theorem Hp.fr6 {a1 a2 a3 a4 a5 a6 : Own} {r : List Own} (h : Hp w0 w z F (a1 :: a2 :: a3 :: a4 :: a5 :: a6 :: r)) : Hp w0 w z F (a6 :: a1 :: a2 :: a3 :: a4 :: a5 :: r) := h.perm (List.perm_middle (l₁ := [a1, a2, a3, a4, a5]))
theorem Hp.fr7 {a1 a2 a3 a4 a5 a6 a7 : Own} {r : List Own} (h : Hp w0 w z F (a1 :: a2 :: a3 :: a4 :: a5 :: a6 :: a7 :: r)) : Hp w0 w z F (a7 :: a1 :: a2 :: a3 :: a4 :: a5 :: a6 :: r) := h.perm (List.perm_middle (l₁ := [a1, a2, a3, a4, a5, a6]))
theorem Hp.fr8 {a1 a2 a3 a4 a5 a6 a7 a8 : Own} {r : List Own} (h : Hp w0 w z F (a1 :: a2 :: a3 :: a4 :: a5 :: a6 :: a7 :: a8 :: r)) : Hp w0 w z F (a8 :: a1 :: a2 :: a3 :: a4 :: a5 :: a6 :: a7 :: r) := h.perm (List.perm_middle (l₁ := [a1, a2, a3, a4, a5, a6, a7]))
theorem Hp.fr9 {a1 a2 a3 a4 a5 a6 a7 a8 a9 : Own} {r : List Own} (h : Hp w0 w z F (a1 :: a2 :: a3 :: a4 :: a5 :: a6 :: a7 :: a8 :: a9 :: r)) : Hp w0 w z F (a9 :: a1 :: a2 :: a3 :: a4 :: a5 :: a6 :: a7 :: a8 :: r) := h.perm (List.perm_middle (l₁ := [a1, a2, a3, a4, a5, a6, a7, a8]))
theorem Hp.fr10 {a1 a2 a3 a4 a5 a6 a7 a8 a9 a10 : Own} {r : List Own} (h : Hp w0 w z F (a1 :: a2 :: a3 :: a4 :: a5 :: a6 :: a7 :: a8 :: a9 :: a10 :: r)) : Hp w0 w z F (a10 :: a1 :: a2 :: a3 :: a4 :: a5 :: a6 :: a7 :: a8 :: a9 :: r) := h.perm (List.perm_middle (l₁ := [a1, a2, a3, a4, a5, a6, a7, a8, a9]))
theorem Hp.fr11 {a1 a2 a3 a4 a5 a6 a7 a8 a9 a10 a11 : Own} {r : List Own} (h : Hp w0 w z F (a1 :: a2 :: a3 :: a4 :: a5 :: a6 :: a7 :: a8 :: a9 :: a10 :: a11 :: r)) : Hp w0 w z F (a11 :: a1 :: a2 :: a3 :: a4 :: a5 :: a6 :: a7 :: a8 :: a9 :: a10 :: r) := h.perm (List.perm_middle (l₁ := [a1, a2, a3, a4, a5, a6, a7, a8, a9, a10]))
theorem slk {α : Type _} {a : α} {x y : List α} (h : x.Sublist y) : (a :: x).Sublist (a :: y) := h.cons_cons a
theorem slc {α : Type _} {a : α} {x y : List α} (h : x.Sublist y) : x.Sublist (a :: y) := h.cons a
theorem sln {α : Type _} {y : List α} : ([] : List α).Sublist y := List.nil_sublist y
def picks (os : List Own) (ks : List Nat) : List Own := ks.filterMap (os[·]?)
theorem Hp.pick (h : Hp w0 w z F os) (ks : List Nat) (hk : (ks.isPerm (List.range os.length)) = true) {os' : List Own} (e : picks os ks = os') : Hp w0 w z F os' := by
  subst e
  refine h.perm ?_
  have h1 : os = (List.range os.length).filterMap (os[·]?) := by
    apply List.ext_getElem?
    intro i
    by_cases hi : i < os.length
    · have : (List.range os.length).filterMap (os[·]?) = os := by
        have : ∀ (l : List Own), (List.range l.length).filterMap (l[·]?) = l := by
          intro l
          induction l with
          | nil => rfl
          | cons a l ih =>
            rw [List.length_cons, List.range_succ_eq_map, List.filterMap_cons]
            simp only [List.getElem?_cons_zero, List.filterMap_map, Function.comp_def, List.getElem?_cons_succ]
            rw [ih]
        exact this os
      rw [this]
    · have : (List.range os.length).filterMap (os[·]?) = os := by
        have : ∀ (l : List Own), (List.range l.length).filterMap (l[·]?) = l := by
          intro l
          induction l with
          | nil => rfl
          | cons a l ih =>
            rw [List.length_cons, List.range_succ_eq_map, List.filterMap_cons]
            simp only [List.getElem?_cons_zero, List.filterMap_map, Function.comp_def, List.getElem?_cons_succ]
            rw [ih]
        exact this os
      rw [this]
  have h2 := (List.isPerm_iff.1 hk).symm.filterMap (os[·]?)
  rw [← h1] at h2
  exact h2
theorem blksOf_append (a b : List Own) : blksOf (a ++ b) = blksOf a ++ blksOf b := List.flatMap_append
theorem Hp.open_ {l r : List Own} (h : Hp w0 w z F (.grp l :: r)) : Hp w0 w z F (l ++ r) := by
  have e : blksOf (.grp l :: r) = blksOf (l ++ r) := by rw [blksOf_append]; rfl
  refine ⟨h.os_, h.tape, h.output, h.size, h.keep, h.zin, fun o ho => ?_, e ▸ h.nodup, fun g hg => h.new g (e ▸ hg)⟩
  rcases List.mem_append.1 ho with ho | ho
  · exact (h.own (.grp l) (by simp)) o ho
  · exact h.own o (List.mem_cons_of_mem _ ho)
theorem Hp.close {l r : List Own} (h : Hp w0 w z F (l ++ r)) : Hp w0 w z F (.grp l :: r) := by
  have e : blksOf (.grp l :: r) = blksOf (l ++ r) := by rw [blksOf_append]; rfl
  refine ⟨h.os_, h.tape, h.output, h.size, h.keep, h.zin, fun o ho => ?_, e ▸ h.nodup, fun g hg => h.new g (e ▸ hg)⟩
  rcases List.mem_cons.1 ho with rfl | ho
  · exact fun o ho => h.own o (List.mem_append_left _ ho)
  · exact h.own o (List.mem_append_right _ ho)
theorem Hp.merge {l r : List Own} {o : Own} (h : Hp w0 w z F (.grp l :: o :: r)) : Hp w0 w z F (.grp (l ++ [o]) :: r) := by
  have h1 : Hp w0 w z F (l ++ (o :: r)) := h.open_
  have h2 : Hp w0 w z F ((l ++ [o]) ++ r) := by rw [List.append_assoc]; exact h1
  exact h2.close
theorem Hp.nogrp (h : Hp w0 w z F os) : Hp w0 w z F (os ++ [.grp []]) :=
  h.call ⟨rfl, rfl, rfl, Nat.le_refl _, fun _ _ _ => rfl, fun a v h => by simp at h, by intro o ho; simp only [List.mem_singleton] at ho; subst ho; intro o ho; simp at ho, by simp [blksOf, Own.grp], by simp [blksOf, Own.grp]⟩
theorem Hp.cast (h : Hp w0 w z F os) (e : os = os') : Hp w0 w z F os' := e ▸ h
end
end Go.SW
/- The calculus of SW: rules over what is owned. Plain theorems. -/
set_option linter.unusedVariables false
set_option linter.unusedSimpArgs false
set_option maxRecDepth 100000
namespace Go.SW
open Go Go.RowKit
theorem add_add (a : Addr) (i j : Nat) : (a.add i).add j = a.add (i + j) := by
  unfold Addr.add
  by_cases h1 : i = 0 <;> by_cases h2 : j = 0 <;> simp [h1, h2, Nat.add_assoc]
theorem add_zero (a : Addr) : a.add 0 = a := rfl
theorem add_blk (g i j : Nat) : (⟨g, i, none⟩ : Addr).add j = ⟨g, i + j, none⟩ := by unfold Addr.add; split <;> simp_all
section
variable {P : Program} {n : Sh} {ops : Array Oper} {Q : Exit → Act → World → Prop} {i : Nat} {fr : Fr} {w w0 : World} {z : Zone} {F : List Nat} {os : List Own}
variable {K : Fr → World → Prop} {d : Option Tmp} {ty : TypeId} {pos : String} {aft : Array Edge} {g : Option (Nat × Bool)}

theorem st_boxH {e : TypeId} {x : Operand} (hi : ops[i]? = some ⟨d, .box e x, ty, pos, aft, g⟩) (hg : guardV ops fr ⟨d, .box e x, ty, pos, aft, g⟩ = some true) (hs : (dok n d && knowns fr (.box e x) && true) = true)
    {cs : List Value} (hx : (ev fr x).cells = cs.toArray) (hH : Hp w0 w z F os) (h : ∀ b w', Hp w0 w' z F (os ++ [.blk b e cs]) → K (pf fr d (.pointer (some ⟨b, 0, none⟩))) w') : ST P n ops Q i K fr w := by
  refine st_box hi hg hs rfl (h _ _ ?_)
  rw [hx]
  exact hH.call (Fresh.alloc w cs e)
theorem st_allocH {e : TypeId} (hi : ops[i]? = some ⟨d, .alloc e, ty, pos, aft, g⟩) (hg : guardV ops fr ⟨d, .alloc e, ty, pos, aft, g⟩ = some true) (hs : (dok n d && true && true) = true)
    {cs : List Value} (hz : (zeroT P e).map Value.cells = some cs.toArray) (hH : Hp w0 w z F os) (h : ∀ b w', Hp w0 w' z F (os ++ [.blk b e cs]) → K (pf fr d (.pointer (some ⟨b, 0, none⟩))) w') : ST P n ops Q i K fr w := by
  obtain ⟨v, h1, h2⟩ := Option.map_eq_some_iff.1 hz
  refine st_alloc hi hg hs h1 (h _ _ ?_)
  rw [h2]
  exact hH.call (Fresh.alloc w cs e)
theorem Hp.blk_cell (hH : Hp w0 w z F os) (k : Nat) {b : Nat} {e : TypeId} {cs : List Value} (hk : os[k]? = some (.blk b e cs)) {o : Nat} {v : Value} (hv : cs[o]? = some v) : w.cell? ⟨b, o, none⟩ = some v := by
  have h : w.heap[b]? = some (.cells cs.toArray e (0, 0)) := hH.own _ (List.mem_of_getElem? hk)
  simp [World.cell?, h, hv]
theorem Hp.blk_free (hH : Hp w0 w z F os) (k : Nat) {b : Nat} {e : TypeId} {cs : List Value} (hk : os[k]? = some (.blk b e cs)) (o : Nat) : w.frozen? ⟨b, o, none⟩ = false := by
  have h : w.heap[b]? = some (.cells cs.toArray e (0, 0)) := hH.own _ (List.mem_of_getElem? hk)
  simp [World.frozen?, h]
theorem Hp.blk_set (hH : Hp w0 w z F os) (k : Nat) {b : Nat} {e : TypeId} {cs : List Value} (hk : os[k]? = some (.blk b e cs)) (o : Nat) (v : Value) : Hp w0 (w.setCell ⟨b, o, none⟩ v) z F (os.set k (.blk b e (cs.set o v))) := by
  have h : w.heap[b]? = some (.cells cs.toArray e (0, 0)) := hH.own _ (List.mem_of_getElem? hk)
  refine hH.turn k hk (some b) (fun g e => by cases e; simp [Own.blk, Own.obj]) ⟨rfl, rfl, rfl, by simp [World.setCell], fun j _ hj => Below.heap_setCell _ _ _ _ (fun e => hj (by rw [e]))⟩ ?_ (fun g hg => .inl hg) (by simp [Own.blk, Own.obj])
  show (w.setCell ⟨b, o, none⟩ v).heap[b]? = _
  simp [World.setCell, Array.getElem?_modify, h]
theorem rd_loadK {t : TypeId} {x : Operand} (k : Nat) (ht : scalarT P t = true) (hH : Hp w0 w z F os) {b o : Nat} (hx : ev fr x = .pointer (some ⟨b, o, none⟩)) {e : TypeId} {cs : List Value} (hk : os[k]? = some (.blk b e cs)) {v : Value} (hv : cs[o]? = some v) :
    Runs P fr ⟨d, .load t x, ty, pos, aft, g⟩ v w := rd_load ht hx (hH.blk_cell k hk hv)
theorem rd_loadKA {t : TypeId} {x : Operand} (k : Nat) (ht : aggT P t = true) (hH : Hp w0 w z F os) {b o : Nat} (hx : ev fr x = .pointer (some ⟨b, o, none⟩)) {e : TypeId} {cs : List Value} (hk : os[k]? = some (.blk b e cs)) {m : Nat} (hz : sizeT P t = some m) (cs' : List Value) (hc : cs' = (cs.drop o).take m) (hm : cs'.length = m) :
    Runs P fr ⟨d, .load t x, ty, pos, aft, g⟩ (.agg cs'.toArray) w := by
  refine rd_loadA ht hx cs' (by rw [hz, hm]) (fun j u hu => ?_)
  rw [add_blk]
  refine hH.blk_cell k hk ?_
  subst hc
  rw [List.getElem?_take] at hu
  split at hu
  · simpa using hu
  · cases hu
theorem st_storeK {t : TypeId} {x y : Operand} (k : Nat) (hi : ops[i]? = some ⟨d, .store t x y, ty, pos, aft, g⟩) (hg : guardV ops fr ⟨d, .store t x y, ty, pos, aft, g⟩ = some true) (hs : (dok n d && knowns fr (.store t x y) && true) = true)
    (hH : Hp w0 w z F os) {b o : Nat} (hx : ev fr x = .pointer (some ⟨b, o, none⟩)) {v : Value} (hy : ev fr y = v) (hv : v.oneCell' = true) (hz : sizeT P t = some 1) {e : TypeId} {cs : List Value} (hk : os[k]? = some (.blk b e cs)) (ho : o < cs.length)
    (h : ∀ w', Hp w0 w' z F (os.set k (.blk b e (cs.set o v))) → K (pf fr d undef) w') : ST P n ops Q i K fr w :=
  st_store hi hg hs hx hy hv hz (hH.blk_cell k hk (List.getElem?_eq_getElem ho)) (hH.blk_free k hk o) (h _ (hH.blk_set k hk o v))

theorem Hp.blk_sets (hH : Hp w0 w z F os) (k : Nat) {b : Nat} {e : TypeId} {cs : List Value} (hk : os[k]? = some (.blk b e cs)) : ∀ (vs : List Value) (o : Nat), o + vs.length ≤ cs.length → (∀ v ∈ vs, v.oneCell' = true) →
    ∃ w', (storeCells ⟨b, o, none⟩ vs 0).run P w = .ok () w' ∧ Hp w0 w' z F (os.set k (.blk b e (cs.take o ++ vs ++ cs.drop (o + vs.length)))) := by
  intro vs o hl h1
  have h : w.heap[b]? = some (.cells cs.toArray e (0, 0)) := hH.own _ (List.mem_of_getElem? hk)
  refine ⟨_, run_storeCells_at P b o e vs 0 cs.toArray w h (by simpa using hl) h1, ?_⟩
  refine hH.turn k hk (some b) (fun g e => by cases e; simp [Own.blk, Own.obj]) ⟨rfl, rfl, rfl, by simp [World.setRow], fun j _ hj => ?_⟩ ?_ (fun g hg => .inl hg) (by simp [Own.blk, Own.obj])
  · have : b ≠ j := fun e => hj (by rw [e])
    simp [World.setRow, Array.getElem?_modify, this]
  · have := setRow_heap w b cs.toArray (cs.take o ++ vs ++ cs.drop (o + vs.length)).toArray e (0, 0) h
    simpa [Own.at, Own.blk, Own.obj] using this
theorem st_storeKA {t : TypeId} {x y : Operand} (k : Nat) (hi : ops[i]? = some ⟨d, .store t x y, ty, pos, aft, g⟩) (hg : guardV ops fr ⟨d, .store t x y, ty, pos, aft, g⟩ = some true) (hs : (dok n d && knowns fr (.store t x y) && true) = true)
    (hH : Hp w0 w z F os) {b o : Nat} (hx : ev fr x = .pointer (some ⟨b, o, none⟩)) {vs : List Value} (hy : (ev fr y).cells = vs.toArray) (hv : (vs.all Value.oneCell') = true) (hz : sizeT P t = some vs.length) {e : TypeId} {cs : List Value} (hk : os[k]? = some (.blk b e cs)) (ho : o + vs.length ≤ cs.length)
    (cs' : List Value) (hc : cs' = cs.take o ++ vs ++ cs.drop (o + vs.length))
    (h : ∀ w', Hp w0 w' z F (os.set k (.blk b e cs')) → K (pf fr d undef) w') : ST P n ops Q i K fr w := by
  subst hc
  obtain ⟨w', h1, h2⟩ := hH.blk_sets (P := P) k hk vs o ho (by simpa [List.all_eq_true] using hv)
  refine st_run0 hi hg hs w' ?_ (h w' h2)
  simp [execOp, hx, Instr.storeAt, Instr.sureAddr, storeVar, run_sizeOf_of hz, hy, h1, Result.andThen]

theorem Row.form {c : Zone} {v : Value} {m l : Nat} {cs : List Value} (h : Row c v m l cs) : ∃ A cap, v = .slice A l cap ∧ l ≤ cap ∧ cap ≤ maxLen := by
  obtain ⟨_, A, cap, h1, h2, h3, _⟩ := h
  exact ⟨A, cap, h1, h2, h3⟩
theorem rd_len {x : Operand} {t e : TypeId} (ht : elemT P t = some e) {A : Option Addr} {l cap : Nat} (hx : ev fr x = .slice A l cap) : Runs P fr ⟨d, .call ⟨.builtin .len, #[x], #[t]⟩, ty, pos, aft, g⟩ (.int .i64 l) w := by
  simp [Runs, execOp, resolve, invoke, builtin, Builtin.len_, hx, run_underlying (underlying_of_elem ht), goInt, Result.andThen]
def IdxOf (v : Value) (m j : Nat) (p : Addr) : Prop := ∃ A l cap, v = .slice (some A) l cap ∧ j < l ∧ p = A.add (j * m)
theorem rd_idx {t e : TypeId} {x y : Operand} (ht : elemT P t = some e) {m : Nat} (hz : sizeT P e = some m) {v : Value} (hx : ev fr x = v) {k : IntKind} {j : Nat} (hy : ev fr y = .int k j) {p : Addr} (hp : IdxOf v m j p) : Runs P fr ⟨d, .indexAddr t x y, ty, pos, aft, g⟩ (.pointer (some p)) w := by
  obtain ⟨A, l, cap, rfl, hj, rfl⟩ := hp
  exact rd_index ht hz hx j hy hj
theorem Row.idx {c : Zone} {v : Value} {m l : Nat} {cs : List Value} (hR : Row c v m l cs) (j : Nat) (hj : j < l) (hm : 0 < m) : ∃ p, IdxOf v m j p ∧ ∀ q u, q < m → cs[j * m + q]? = some u → c (p.add q) = some u := by
  obtain ⟨h0, A, cap, rfl, h1, h2, h3⟩ := hR
  have hlt : j * m < cs.length := by
    rw [h0]
    have : j * m + m ≤ l * m := by rw [← Nat.succ_mul]; exact Nat.mul_le_mul_right _ hj
    omega
  obtain ⟨ad, rfl, _⟩ := h3 (j * m) _ (List.getElem?_eq_getElem hlt)
  refine ⟨_, ⟨ad, l, cap, rfl, hj, rfl⟩, fun q u hq hu => ?_⟩
  obtain ⟨ad', e', hc⟩ := h3 _ u hu
  cases e'
  rw [add_add]
  exact hc
def CutOf (v : Value) (m a b mx : Nat) (v' : Value) : Prop := ∃ A l cap, v = .slice A l cap ∧ a ≤ b ∧ b ≤ mx ∧ mx ≤ cap ∧ v' = .slice (if mx = a then A else A.map (·.add (a * m))) (b - a) (mx - a)
theorem row_cut {c : Zone} {A : Option Addr} {l cap m : Nat} {cs : List Value} (hR : Row c (.slice A l cap) m l cs) (hm : 0 < m) (lo hi mx : Nat) (h1 : lo ≤ hi) (h2 : hi ≤ l) (h3 : hi ≤ mx) (h4 : mx ≤ cap) :
    Row c (.slice (if mx = lo then A else A.map (·.add (lo * m))) (hi - lo) (mx - lo)) m (hi - lo) ((cs.drop (lo * m)).take ((hi - lo) * m)) := by
  obtain ⟨h0, A', cap', e, k1, k2, k3⟩ := hR
  cases e
  refine ⟨?_, _, _, rfl, by omega, by omega, fun j u hu => ?_⟩
  · rw [List.length_take, List.length_drop, h0, Nat.sub_mul]
    have : hi * m ≤ l * m := Nat.mul_le_mul_right _ h2
    omega
  · rw [List.getElem?_take] at hu
    split at hu
    · rename_i hj
      rw [List.getElem?_drop] at hu
      obtain ⟨ad, rfl, hc⟩ := k3 _ u hu
      have hne : mx ≠ lo := by
        rintro rfl
        have : hi - mx = 0 := by omega
        rw [this] at hj
        simp at hj
      exact ⟨ad.add (lo * m), by simp [hne], by rw [add_add]; exact hc⟩
    · cases hu
theorem Row.cut {c : Zone} {A : Option Addr} {m l cap : Nat} {cs : List Value} (hR : Row c (.slice A l cap) m l cs) (hm : 0 < m) (a b : Nat) (hab : a ≤ b) (hb : b ≤ l) :
    ∃ A', CutOf (.slice A l cap) m a b cap (.slice A' (b - a) (cap - a)) ∧ Row c (.slice A' (b - a) (cap - a)) m (b - a) ((cs.drop (a * m)).take ((b - a) * m)) := by
  have hl : l ≤ cap := by obtain ⟨_, A', cap', e, h, _⟩ := hR; cases e; exact h
  exact ⟨_, ⟨A, l, cap, rfl, hab, by omega, Nat.le_refl _, rfl⟩, row_cut hR hm a b cap hab hb (by omega) (Nat.le_refl _)⟩
def bnd (fr : Fr) (o : Option Operand) (q : Nat) (dflt : Nat) : Prop := o = none ∧ q = dflt ∨ ∃ x k, o = some x ∧ ev fr x = .int k (q : Int)
theorem rd_cut {t e : TypeId} {x : Operand} {lo hi' : Option Operand} (ht : elemT P t = some e) {m : Nat} (hz : sizeT P e = some m) {A : Option Addr} {l cap : Nat} (hx : ev fr x = .slice A l cap) {a b : Nat}
    (hlo : bnd fr lo a 0) (hhi : bnd fr hi' b l) {v' : Value} (hc : CutOf (.slice A l cap) m a b cap v') : Runs P fr ⟨d, .slice t x lo hi' none, ty, pos, aft, g⟩ v' w := by
  obtain ⟨A', l', cap', e', h1, h2, h3, rfl⟩ := hc
  cases e'
  have hel : P.underlying t = some (.slice e) := underlying_of_elem ht
  have hai : (a : Int) ≤ (b : Int) := by omega
  have hbc : (b : Int) ≤ (cap : Int) := by omega
  have ha0 : (0 : Int) ≤ (a : Int) := by omega
  have hb0 : (0 : Int) ≤ (b : Int) := by omega
  unfold Runs
  rcases hlo with ⟨rfl, rfl⟩ | ⟨xl, kl, rfl, hxl⟩ <;> rcases hhi with ⟨rfl, rfl⟩ | ⟨xh, kh, rfl, hxh⟩ <;>
    simp [execOp, hx, Instr.sliceAt, Instr.slice, Instr.sliceBounds, Instr.sliceBound, asIntOf, run_underlying hel, run_sizeOf_of hz, Result.andThen, *]
theorem Hp.row_at (hH : Hp w0 w z F os) (k : Nat) {v : Value} {e : TypeId} {m l : Nat} {xs : List Value} (hk : os[k]? = some (.row v e m l xs)) : w.ownsRow 0 e m v l xs := hH.own _ (List.mem_of_getElem? hk)
theorem Hp.row_reads (hH : Hp w0 w z F os) (k : Nat) {v : Value} {e : TypeId} {m l : Nat} {xs : List Value} (hk : os[k]? = some (.row v e m l xs)) : Row w.cell? v m l xs := Row.of_own (hH.row_at k hk)
theorem Hp.row_idx (hH : Hp w0 w z F os) (k : Nat) {v : Value} {e : TypeId} {m l : Nat} {xs : List Value} (hk : os[k]? = some (.row v e m l xs)) (j : Nat) (hj : j < l) : ∃ b, v.ownBlock = some b ∧ IdxOf v m j ⟨b, j * m, none⟩ := by
  have hr := hH.row_at k hk
  rcases hr.2 with ⟨rfl, rfl⟩ | ⟨b, cap, cur, rfl, rest⟩
  · omega
  · exact ⟨b, rfl, _, l, cap, rfl, hj, by rw [add_blk, Nat.zero_add]⟩
def Win (v u : Value) (m o l : Nat) : Prop := ∃ A c, u = .slice A l c ∧ (0 < l → ∃ b, v.ownBlock = some b ∧ A = some ⟨b, o * m, none⟩)
theorem Win.idx {v u : Value} {m o l : Nat} (h : Win v u m o l) (j : Nat) (hj : j < l) : ∃ b, v.ownBlock = some b ∧ IdxOf u m j ⟨b, (o + j) * m, none⟩ := by
  obtain ⟨A, c, rfl, h1⟩ := h
  obtain ⟨b, hb, rfl⟩ := h1 (by omega)
  exact ⟨b, hb, _, l, c, rfl, hj, by rw [add_blk, Nat.add_mul]⟩
theorem Hp.row_form (hH : Hp w0 w z F os) (k : Nat) {v : Value} {e : TypeId} {m l : Nat} {xs : List Value} (hk : os[k]? = some (.row v e m l xs)) : ∃ A cap, v = .slice A l cap ∧ l ≤ cap ∧ cap ≤ maxLen := (hH.row_reads k hk).form
theorem Hp.row_cell (hH : Hp w0 w z F os) (k : Nat) {v : Value} {e : TypeId} {m l : Nat} {xs : List Value} (hk : os[k]? = some (.row v e m l xs)) {b : Nat} (hb : v.ownBlock = some b) {o : Nat} {u : Value} (hu : xs[o]? = some u) : w.cell? ⟨b, o, none⟩ = some u := by
  have := (hH.row_at k hk).cells hb o u hu
  rwa [add_blk, Nat.zero_add] at this
theorem rd_loadO {t : TypeId} {x : Operand} (k : Nat) (ht : scalarT P t = true) (hH : Hp w0 w z F os) {b o : Nat} (hx : ev fr x = .pointer (some ⟨b, o, none⟩)) {v : Value} {e : TypeId} {m l : Nat} {xs : List Value} (hk : os[k]? = some (.row v e m l xs)) (hb : v.ownBlock = some b) {u : Value} (hu : xs[o]? = some u) :
    Runs P fr ⟨d, .load t x, ty, pos, aft, g⟩ u w := rd_load ht hx (hH.row_cell k hk hb hu)
theorem rd_loadOA {t : TypeId} {x : Operand} (k : Nat) (ht : aggT P t = true) (hH : Hp w0 w z F os) {b o : Nat} (hx : ev fr x = .pointer (some ⟨b, o, none⟩)) {v : Value} {e : TypeId} {m l : Nat} {xs : List Value} (hk : os[k]? = some (.row v e m l xs)) (hb : v.ownBlock = some b) {q : Nat} (hz : sizeT P t = some q) (cs : List Value) (hl : cs.length = q) (hu : ∀ j u, cs[j]? = some u → xs[o + j]? = some u) :
    Runs P fr ⟨d, .load t x, ty, pos, aft, g⟩ (.agg cs.toArray) w :=
  rd_loadA ht hx cs (by rw [hz, hl]) (fun j u h => by rw [add_blk]; exact hH.row_cell k hk hb (hu j u h))
theorem st_storeO {t : TypeId} {x y : Operand} (k : Nat) (hi : ops[i]? = some ⟨d, .store t x y, ty, pos, aft, g⟩) (hg : guardV ops fr ⟨d, .store t x y, ty, pos, aft, g⟩ = some true) (hs : (dok n d && knowns fr (.store t x y) && true) = true)
    (hH : Hp w0 w z F os) {b o : Nat} (hx : ev fr x = .pointer (some ⟨b, o, none⟩)) {u : Value} (hy : ev fr y = u) (hv : u.oneCell' = true) (hz : sizeT P t = some 1) {v : Value} {e : TypeId} {m l : Nat} {xs : List Value} (hk : os[k]? = some (.row v e m l xs)) (hb : v.ownBlock = some b) (ho : o < xs.length)
    (h : ∀ w', Hp w0 w' z F (os.set k (.row v e m l (xs.set o u))) → K (pf fr d undef) w') : ST P n ops Q i K fr w := by
  have hr := hH.row_at k hk
  rcases hr.2 with ⟨rfl, rfl⟩ | ⟨b', cap, cur, rfl, rest⟩
  · simp [Value.ownBlock] at hb
  · have hbb : b' = b := by simpa [Value.ownBlock] using hb
    subst hbb
    refine st_store hi hg hs hx hy hv hz (hH.row_cell k hk hb (List.getElem?_eq_getElem ho)) (hr.frozenAt o) (h _ ?_)
    have hst := hr.stored o u
    refine hH.turn k hk (some b') (fun g e => by cases e; simp [Own.row, Value.ownBlock]) hst.2 hst.1 (fun g hg => .inl hg) (by simp [Own.row, Value.ownBlock])
theorem run_append_row {t e : TypeId} {tyR : TypeId} (ht : elemT P t = some e) {zv : Value} {m bytes : Nat} (he : (P.info? e).map (fun i => (i.zero, i.size, i.bytes)) = some (some zv, m, bytes)) (hzc : zv.cells.size = m) (hm : 0 < m)
    {v x : Value} {l q : Nat} {xs ys : List Value} (hown : w.ownsRow 0 e m v l xs) (hR : Row w.cell? x m q ys) (h1 : ∀ u ∈ ys, u.oneCell' = true) (h63 : l + q ≤ maxLen) (hb : (l + q) * bytes ≤ 140737488355328) :
    ∃ v' w', (Builtin.append_ #[t, t] tyR #[v, x]).run P w = .ok v' w' ∧ w'.ownsRow 0 e m v' (l + q) (xs ++ ys) ∧ w.grownBy w' v.ownBlock ∧ (v'.ownBlock = v.ownBlock ∨ v'.ownBlock = some w.heap.size) := by
  obtain ⟨inf, k1, k2, k3, k4⟩ := info_parts he
  obtain ⟨h0, A, cap, rfl, _, _, hc⟩ := hR
  cases A with
  | some ad =>
    obtain ⟨v', w', r1, r2, r3, _, r5⟩ := run_append_own_at (P := P) w 0 t tyR e inf zv m bytes (underlying_of_elem ht) k1 k2 k3 k4 hzc hm v l xs hown ad q cap ys h0
      (fun j u hu => by obtain ⟨ad', e', hp⟩ := hc j u hu; cases e'; exact hp) h1 h63 hb (Nat.zero_le _)
    exact ⟨v', w', r1, r2, r3, r5⟩
  | none =>
    have hy : ys = [] := by
      cases ys with
      | nil => rfl
      | cons u r => obtain ⟨ad, e', _⟩ := hc 0 u rfl; cases e'
    subst hy
    have hq : q = 0 := by
      simp only [List.length_nil] at h0
      rcases Nat.eq_zero_or_pos q with h | h
      · exact h
      · have := Nat.mul_pos h hm; omega
    subst hq
    refine ⟨v, w, ?_, by simpa using hown, World.grownBy.refl _ _, .inl rfl⟩
    rcases hown.2 with ⟨rfl, rfl⟩ | ⟨b, cap', cur, rfl, _, _, hn, _⟩
    · simp [Builtin.append_, run_underlying (underlying_of_elem ht), sizeOf, typeInfo, k1, Builtin.lenOf, Builtin.firstCells]
    · simp [Builtin.append_, run_underlying (underlying_of_elem ht), sizeOf, typeInfo, k1, Builtin.lenOf, Builtin.firstCells, hn, storeCells]
theorem st_appH {t e : TypeId} {x y : Operand} (k : Nat) (hi : ops[i]? = some ⟨d, .call ⟨.builtin .append, #[x, y], #[t, t]⟩, ty, pos, aft, g⟩) (hg : guardV ops fr ⟨d, .call ⟨.builtin .append, #[x, y], #[t, t]⟩, ty, pos, aft, g⟩ = some true) (hs : (dok n d && knowns fr (.call ⟨.builtin .append, #[x, y], #[t, t]⟩) && true) = true)
    (ht : elemT P t = some e) {zv : Value} {m bytes : Nat} (he : (P.info? e).map (fun i => (i.zero, i.size, i.bytes)) = some (some zv, m, bytes)) (hzc : zv.cells.size = m) (hm : 0 < m) (hH : Hp w0 w z F os)
    {v u : Value} {l q : Nat} {xs ys : List Value} (hx : ev fr x = v) (hk : os[k]? = some (.row v e m l xs)) (hy : ev fr y = u) (hR : Row w.cell? u m q ys) (h1 : ∀ u ∈ ys, u.oneCell' = true) (h63 : l + q ≤ maxLen) (hb : (l + q) * bytes ≤ 140737488355328)
    (h : ∀ v' w', Hp w0 w' z F (os.set k (.row v' e m (l + q) (xs ++ ys))) → K (pf fr d v') w') : ST P n ops Q i K fr w := by
  have hr := hH.row_at k hk
  obtain ⟨v', w', r1, r2, r3, r4⟩ := run_append_row (P := P) (tyR := ty) ht he hzc hm hr hR h1 h63 hb
  refine st_run hi hg hs v' w' ?_ (h v' w' ?_)
  · simp [execOp, resolve, invoke, builtin, hx, hy, r1, Result.andThen]
  · refine hH.turn k hk v.ownBlock (fun b hb => by simp [Own.row, hb]) r3 r2 (fun b hb => ?_) (by simp only [Own.row]; cases v'.ownBlock <;> simp)
    simp only [Own.row, Option.mem_toList] at hb ⊢
    rcases r4 with r4 | r4
    · exact .inl (r4 ▸ hb)
    · rw [r4] at hb; cases hb; exact .inr (Nat.le_refl _)
theorem Hp.nilRow (hH : Hp w0 w z F os) (e : TypeId) (m : Nat) : Hp w0 w z F (os ++ [.row (.slice none 0 0) e m 0 []]) := by
  refine hH.call ⟨rfl, rfl, rfl, Nat.le_refl _, fun _ _ _ => rfl, fun _ _ h => by simp at h, ?_, by simp [blksOf, Own.row, Value.ownBlock], by simp [blksOf, Own.row, Value.ownBlock]⟩
  intro o ho
  simp only [List.mem_singleton] at ho
  subst ho
  exact World.ownsRow_nil _ _ _ _
theorem st_buildS {t e : TypeId} {len : Nat} {ps : Array (Nat × Operand)} (hi : ops[i]? = some ⟨d, .buildSlice t len ps, ty, pos, aft, g⟩) (hg : guardV ops fr ⟨d, .buildSlice t len ps, ty, pos, aft, g⟩ = some true) (hs : (dok n d && knowns fr (.buildSlice t len ps) && true) = true)
    (ht : elemT P t = some e) {zv : Value} {m bytes : Nat} (he : (P.info? e).map (fun i => (i.zero, i.size, i.bytes)) = some (some zv, m, bytes)) (hsz : (Nat.ble (len * m) 16777216 && (len * m != 0) && Nat.ble len 16777216) = true) {cs : List Value}
    (hf : Instr.fill (fun i => some (i * m, m)) ((Array.range (len * m)).map (zv.cells[· % zv.cells.size]!)) (ps.map fun (i, x) => (i, ev fr x)).toList = some cs.toArray) (hcl : cs.length = len * m) (hH : Hp w0 w z F os)
    (h : ∀ b w', Hp w0 w' z F (os ++ [.row (.slice (some ⟨b, 0, none⟩) len len) e m len cs]) → K (pf fr d (.slice (some ⟨b, 0, none⟩) len len)) w') : ST P n ops Q i K fr w := by
  obtain ⟨inf, h1, h2, h3, h4⟩ := info_parts he
  simp only [Bool.and_eq_true, bne_iff_ne, ne_eq, Nat.ble_eq] at hsz
  have hrun := run_buildSlice (P := P) w t e len (ps.map fun (i, x) => (i, ev fr x)) cs.toArray inf zv (underlying_of_elem ht) h1 h2 (by rw [h3]; omega) (by rw [h3]; exact hsz.1.2) (by rw [h3]; exact hf)
  refine st_run hi hg hs _ (w.alloc (.cells cs.toArray e)) ?_ (h w.heap.size _ ?_)
  · simp [execOp, hrun, Result.andThen]
  · refine hH.call (w' := w.alloc (.cells cs.toArray e)) (Fresh.row ((Below.refl _ _).grown (World.grownBy_alloc w _ none) (Nat.le_refl _) (fun k h => by cases h)) ?_)
    exact ⟨hcl, .inr ⟨w.heap.size, len, cs.toArray, rfl, Nat.le_refl _, heap_alloc_new w _, Nat.le_refl _, by simp only [maxLen]; omega, by simpa using hcl, by simp [← hcl]⟩⟩
theorem Hp.row_eq (hH : Hp w0 w z F os) (k : Nat) {v : Value} {e : TypeId} {m l l' : Nat} {xs xs' : List Value} (hk : os[k]? = some (.row v e m l xs)) (hn : l = l') (hx : xs = xs') : Hp w0 w z F (os.set k (.row v e m l' xs')) := by
  subst hn; subst hx
  have : os.set k (.row v e m l xs) = os := by
    apply List.ext_getElem?
    intro j
    rw [List.getElem?_set]
    split
    · rename_i hj
      subst hj
      split
      · exact hk.symm
      · rename_i hlt; exact absurd (List.getElem?_eq_some_iff.1 hk).1 hlt
    · rfl
  rw [this]; exact hH
theorem Hp.drew (hH : Hp w0 w z F os) : Hp w0 { w with drawn := w.drawn + 1 } z F os := hH.same rfl rfl rfl rfl
theorem Win.reads (hH : Hp w0 w z F os) (k : Nat) {v : Value} {A : Option Addr} {q : Nat} {e : TypeId} {m l o c : Nat} {xs : List Value} (hk : os[k]? = some (.row v e m l xs)) (hW : Win v (.slice A c q) m o c) (hoc : o + c ≤ l) (hq : c ≤ q) (hq2 : q ≤ maxLen) : Row w.cell? (.slice A c q) m c ((xs.drop (o * m)).take (c * m)) := by
  obtain ⟨A, q, e', hA⟩ := hW
  cases e'
  have hr := hH.row_at k hk
  have hxl := hr.1
  refine ⟨?_, A, q, rfl, hq, hq2, fun j u hj => ?_⟩
  · rw [List.length_take, List.length_drop, hxl]
    have : (o + c) * m ≤ l * m := Nat.mul_le_mul_right _ hoc
    rw [Nat.add_mul] at this
    omega
  · rw [List.getElem?_take] at hj
    split at hj
    · rename_i hlt
      have hc : 0 < c := by
        rcases Nat.eq_zero_or_pos c with h | h
        · subst h; simp at hlt
        · exact h
      obtain ⟨b, hb, rfl⟩ := hA hc
      rw [List.getElem?_drop] at hj
      exact ⟨_, rfl, by rw [add_blk]; exact hH.row_cell k hk hb hj⟩
    · cases hj
theorem Win.cut {v : Value} {A : Option Addr} {m o l cap : Nat} (hW : Win v (.slice A l cap) m o l) (a b mx : Nat) (hab : a ≤ b) (hb : b ≤ l) (h1 : b ≤ mx) (h2 : mx ≤ cap) :
    ∃ A', CutOf (.slice A l cap) m a b mx (.slice A' (b - a) (mx - a)) ∧ Win v (.slice A' (b - a) (mx - a)) m (o + a) (b - a) := by
  obtain ⟨A0, q, e, hA⟩ := hW
  cases e
  refine ⟨_, ⟨A, l, cap, rfl, hab, h1, h2, rfl⟩, _, _, rfl, fun hpos => ?_⟩
  obtain ⟨g, hg, rfl⟩ := hA (by omega)
  exact ⟨g, hg, by rw [if_neg (by omega)]; simp [add_blk, Nat.add_mul]⟩
theorem rd_loadZA {t : TypeId} {x : Operand} (ht : aggT P t = true) (hH : Hp w0 w z F os) {p : Addr} {m : Nat} {cs : List Value} {j : Nat} (hp : ∀ q u, q < m → cs[j * m + q]? = some u → z (p.add q) = some u) {ad : Addr} (hx : ev fr x = .pointer (some ad)) (q0 : Nat) (had : ad = p.add q0) (cs' : List Value) (hz : sizeT P t = some cs'.length) (hc : ∀ i u, cs'[i]? = some u → q0 + i < m ∧ cs[j * m + (q0 + i)]? = some u) :
    Runs P fr ⟨d, .load t x, ty, pos, aft, g⟩ (.agg cs'.toArray) w := by
  subst had
  refine rd_loadA ht hx cs' hz fun i u hu => ?_
  rw [add_add]
  obtain ⟨h1, h2⟩ := hc i u hu
  exact hH.zin _ _ (hp _ u h1 h2)
theorem run_snil {t e : TypeId} (ht : elemT P t = some e) (k : Nat) (A : Option Addr) (l cap : Nat) : (Op.equalIn (k + 1) t (.slice A l cap) (.slice none 0 0)).run P w = .ok A.isNone w := by
  cases A <;> simp [Op.equalIn, run_underlying (underlying_of_elem ht)]
theorem rd_snil_eql {t t2 e : TypeId} {x y : Operand} (ht : elemT P t = some e) {A : Option Addr} {l cap : Nat} (hx : ev fr x = .slice A l cap) (hy : ev fr y = .slice none 0 0) : Runs P fr ⟨d, .binOp .eql t x y t2, ty, pos, aft, g⟩ (.bool A.isNone) w := by
  have h := run_snil (P := P) (w := w) ht 9999 A l cap
  simp only [Runs, execOp, hx, hy, Sem.run_bind]
  have hg : (eqGuard .eql t x y (.slice A l cap) (.slice none 0 0)).run P w = .ok () w := by simp [eqGuard]
  rw [hg]
  simp only [Result.andThen_ok]
  show (Sem.run P (binOp .eql t (.slice A l cap) (.slice none 0 0)) w).andThen _ = _
  have hb : binOp .eql t (.slice A l cap) (.slice none 0 0) = (do pure (.bool (← Op.equal t (.slice A l cap) (.slice none 0 0)))) := by cases A <;> rfl
  rw [hb]
  simp only [Sem.run_bind]
  rw [show (Op.equal t (.slice A l cap) (.slice none 0 0)).run P w = .ok A.isNone w from h]
  rfl
def arrT (P : Program) (t : TypeId) : Option (Nat × TypeId) :=
  match P.underlying t with
  | some (.array n e) => some (n, e)
  | _ => none
theorem underlying_of_arr {t e : TypeId} {l : Nat} (h : arrT P t = some (l, e)) : P.underlying t = some (.array l e) := by
  unfold arrT at h
  cases hu : P.underlying t with
  | none => simp [hu] at h
  | some D => cases D <;> simp_all
theorem rd_idxA {t e : TypeId} {x y : Operand} {l : Nat} (ht : arrT P t = some (l, e)) {m : Nat} (hz : sizeT P e = some m) {b o : Nat} (hx : ev fr x = .pointer (some ⟨b, o, none⟩)) {k : IntKind} (j : Nat) (hy : ev fr y = .int k j) (hj : j < l) :
    Runs P fr ⟨d, .indexAddr t x y, ty, pos, aft, g⟩ (.pointer (some ⟨b, o + j * m, none⟩)) w := by
  have hlt : (j : Int) < (l : Int) := by omega
  have hnn : (0 : Int) ≤ (j : Int) := by omega
  simp [Runs, execOp, hx, hy, Instr.indexAt, Instr.sureAddr, asIntOf, run_underlying (underlying_of_arr ht), hlt, hnn, hj, run_sizeOf_of hz, Result.andThen, add_blk]
theorem RS.cell (hH : Hp w0 w z F os) (k : Nat) {t : TypeId} (ht : scalarT P t = true) {x : Tmp} {b o : Nat} (hx : gt fr x = some (.pointer (some ⟨b, o, none⟩))) {e : TypeId} {cs : List Value} (hk : os[k]? = some (.blk b e cs)) {v : Value} (hv : cs[o]? = some v) : RS P n fr w (.cell x t) v := by
  intro a ha
  simp [resOf, ha.get x _ hx, asAddr, loadVar, run_isAgg_false ht, hH.blk_cell k hk hv, Result.andThen]
theorem RS.cellA (hH : Hp w0 w z F os) (k : Nat) {t : TypeId} (ht : aggT P t = true) {x : Tmp} {b o : Nat} (hx : gt fr x = some (.pointer (some ⟨b, o, none⟩))) {e : TypeId} {cs : List Value} (hk : os[k]? = some (.blk b e cs)) {m : Nat} (hz : sizeT P t = some m) (cs' : List Value) (hc : cs' = (cs.drop o).take m) (hm : cs'.length = m) : RS P n fr w (.cell x t) (.agg cs'.toArray) := by
  intro a ha
  have hl := run_loadCells_list (P := P) (w := w) ⟨b, o, none⟩ cs' (fun j u hu => by
    rw [add_blk]
    refine hH.blk_cell k hk ?_
    subst hc
    rw [List.getElem?_take] at hu
    split at hu
    · simpa using hu
    · cases hu)
  simp [resOf, ha.get x _ hx, asAddr, loadVar, run_isAgg_true ht, run_sizeOf_of hz, ← hm, hl, Result.andThen]
theorem Lk {t : TypeId} {x : Operand} (k : Nat) (hH : Hp w0 w z F os) {b o : Nat} (hx : ev fr x = .pointer (some ⟨b, o, none⟩)) {e : TypeId} {cs : List Value} (hk : os[k]? = some (.blk b e cs)) {v : Value} (hv : cs[o]? = some v) (ht : scalarT P t = true := by kernel_rfl) :
    Runs P fr ⟨d, .load t x, ty, pos, aft, g⟩ v w := rd_loadK k ht hH hx hk hv
theorem La {t : TypeId} {x : Operand} (k : Nat) (cs' : List Value) (hH : Hp w0 w z F os) {b o : Nat} (hx : ev fr x = .pointer (some ⟨b, o, none⟩)) {e : TypeId} {cs : List Value} (hk : os[k]? = some (.blk b e cs)) (ht : aggT P t = true := by kernel_rfl) (hz : sizeT P t = some cs'.length := by kernel_rfl) (hc : cs' = (cs.drop o).take cs'.length := by kernel_rfl) :
    Runs P fr ⟨d, .load t x, ty, pos, aft, g⟩ (.agg cs'.toArray) w := rd_loadKA k ht hH hx hk hz cs' hc rfl
theorem Lo {t : TypeId} {x : Operand} (k : Nat) (hH : Hp w0 w z F os) {b o : Nat} (hx : ev fr x = .pointer (some ⟨b, o, none⟩)) {v : Value} {e : TypeId} {m l : Nat} {xs : List Value} (hk : os[k]? = some (.row v e m l xs)) (hb : v.ownBlock = some b) {u : Value} (hu : xs[o]? = some u) (ht : scalarT P t = true := by kernel_rfl) :
    Runs P fr ⟨d, .load t x, ty, pos, aft, g⟩ u w := rd_loadO k ht hH hx hk hb hu
theorem Ks {t : TypeId} {x y : Operand} (k : Nat) (v : Value) (hi : ops[i]? = some ⟨d, .store t x y, ty, pos, aft, g⟩) (hH : Hp w0 w z F os) {b o : Nat} (hx : ev fr x = .pointer (some ⟨b, o, none⟩)) {e : TypeId} {cs : List Value} (hk : os[k]? = some (.blk b e cs))
    (h : ∀ w', Hp w0 w' z F (os.set k (.blk b e (cs.set o v))) → K (pf fr d undef) w') (ho : o < cs.length := by simp) (hy : ev fr y = v := by kernel_rfl) (hv : v.oneCell' = true := by kernel_rfl) (hz : sizeT P t = some 1 := by kernel_rfl)
    (hg : guardV ops fr ⟨d, .store t x y, ty, pos, aft, g⟩ = some true := by kernel_rfl) (hs : (dok n d && knowns fr (.store t x y) && true) = true := by kernel_rfl) : ST P n ops Q i K fr w := st_storeK k hi hg hs hH hx hy hv hz hk ho h
theorem Ka {t : TypeId} {x y : Operand} (k : Nat) (vs cs' : List Value) (hi : ops[i]? = some ⟨d, .store t x y, ty, pos, aft, g⟩) (hH : Hp w0 w z F os) {b o : Nat} (hx : ev fr x = .pointer (some ⟨b, o, none⟩)) {e : TypeId} {cs : List Value} (hk : os[k]? = some (.blk b e cs))
    (h : ∀ w', Hp w0 w' z F (os.set k (.blk b e cs')) → K (pf fr d undef) w') (ho : o + vs.length ≤ cs.length := by simp) (hy : (ev fr y).cells = vs.toArray := by kernel_rfl) (hv : (vs.all Value.oneCell') = true := by kernel_rfl) (hz : sizeT P t = some vs.length := by kernel_rfl) (hc : cs' = cs.take o ++ vs ++ cs.drop (o + vs.length) := by kernel_rfl)
    (hg : guardV ops fr ⟨d, .store t x y, ty, pos, aft, g⟩ = some true := by kernel_rfl) (hs : (dok n d && knowns fr (.store t x y) && true) = true := by kernel_rfl) : ST P n ops Q i K fr w := st_storeKA k hi hg hs hH hx hy hv hz hk ho cs' hc h
theorem Alc {e : TypeId} (cs : List Value) (hi : ops[i]? = some ⟨d, .alloc e, ty, pos, aft, g⟩) (hH : Hp w0 w z F os) (h : ∀ b w', Hp w0 w' z F (os ++ [.blk b e cs]) → K (pf fr d (.pointer (some ⟨b, 0, none⟩))) w') (hz : (zeroT P e).map Value.cells = some cs.toArray := by kernel_rfl)
    (hg : guardV ops fr ⟨d, .alloc e, ty, pos, aft, g⟩ = some true := by kernel_rfl) (hs : (dok n d && true && true) = true := by kernel_rfl) : ST P n ops Q i K fr w := st_allocH hi hg hs hz hH h
theorem Bx {e : TypeId} {x : Operand} (cs : List Value) (hi : ops[i]? = some ⟨d, .box e x, ty, pos, aft, g⟩) (hH : Hp w0 w z F os) (h : ∀ b w', Hp w0 w' z F (os ++ [.blk b e cs]) → K (pf fr d (.pointer (some ⟨b, 0, none⟩))) w') (hx : (ev fr x).cells = cs.toArray := by kernel_rfl)
    (hg : guardV ops fr ⟨d, .box e x, ty, pos, aft, g⟩ = some true := by kernel_rfl) (hs : (dok n d && knowns fr (.box e x) && true) = true := by kernel_rfl) : ST P n ops Q i K fr w := st_boxH hi hg hs hx hH h
theorem So {t : TypeId} {x y : Operand} (k : Nat) (u : Value) (hi : ops[i]? = some ⟨d, .store t x y, ty, pos, aft, g⟩) (hH : Hp w0 w z F os) {b o : Nat} (hx : ev fr x = .pointer (some ⟨b, o, none⟩)) {v : Value} {e : TypeId} {m l : Nat} {xs : List Value} (hk : os[k]? = some (.row v e m l xs)) (hb : v.ownBlock = some b) (ho : o < xs.length)
    (h : ∀ w', Hp w0 w' z F (os.set k (.row v e m l (xs.set o u))) → K (pf fr d undef) w') (hy : ev fr y = u := by kernel_rfl) (hv : u.oneCell' = true := by kernel_rfl) (hz : sizeT P t = some 1 := by kernel_rfl)
    (hg : guardV ops fr ⟨d, .store t x y, ty, pos, aft, g⟩ = some true := by kernel_rfl) (hs : (dok n d && knowns fr (.store t x y) && true) = true := by kernel_rfl) : ST P n ops Q i K fr w := st_storeO k hi hg hs hH hx hy hv hz hk hb ho h
theorem Apd {t e : TypeId} {x y : Operand} (zv : Value) (m bytes : Nat) (k : Nat) (hi : ops[i]? = some ⟨d, .call ⟨.builtin .append, #[x, y], #[t, t]⟩, ty, pos, aft, g⟩) (hH : Hp w0 w z F os)
    {v u : Value} {l q : Nat} {xs ys : List Value} (hx : ev fr x = v) (hk : os[k]? = some (.row v e m l xs)) (hy : ev fr y = u) (hR : Row w.cell? u m q ys) (h1 : ∀ u ∈ ys, u.oneCell' = true) (h63 : l + q ≤ maxLen) (hb : (l + q) * bytes ≤ 140737488355328)
    (h : ∀ v' w', Hp w0 w' z F (os.set k (.row v' e m (l + q) (xs ++ ys))) → K (pf fr d v') w') (ht : elemT P t = some e := by kernel_rfl) (he : (P.info? e).map (fun i => (i.zero, i.size, i.bytes)) = some (some zv, m, bytes) := by kernel_rfl) (hzc : zv.cells.size = m := by kernel_rfl) (hm : 0 < m := by decide)
    (hg : guardV ops fr ⟨d, .call ⟨.builtin .append, #[x, y], #[t, t]⟩, ty, pos, aft, g⟩ = some true := by kernel_rfl) (hs : (dok n d && knowns fr (.call ⟨.builtin .append, #[x, y], #[t, t]⟩) && true) = true := by kernel_rfl) : ST P n ops Q i K fr w := st_appH k hi hg hs ht he hzc hm hH hx hk hy hR h1 h63 hb h
theorem Ix {t e : TypeId} {x y : Operand} (m : Nat) {v : Value} (hx : ev fr x = v) {k : IntKind} {j : Nat} (hy : ev fr y = .int k j) {p : Addr} (hp : IdxOf v m j p) (ht : elemT P t = some e := by rfl) (hz : sizeT P e = some m := by kernel_rfl) : Runs P fr ⟨d, .indexAddr t x y, ty, pos, aft, g⟩ (.pointer (some p)) w := rd_idx ht hz hx hy hp
theorem Ln {x : Operand} {t e : TypeId} {A : Option Addr} {l cap : Nat} (hx : ev fr x = .slice A l cap) (ht : elemT P t = some e := by rfl) : Runs P fr ⟨d, .call ⟨.builtin .len, #[x], #[t]⟩, ty, pos, aft, g⟩ (.int .i64 l) w := rd_len ht hx
theorem Dr {id : Nat} {l : List Oper} {Rs : List Own} (hH : Hp w0 w z F os) (hs : Rs.Sublist os) (h : ∀ w', Hp w0 w' z F os → Hp w0 w' z F Rs → GD P n l.toArray Q (fun w_ => Hp w0 w_ z F Rs) l.toArray.size (Array.replicate l.toArray.size false) fr w') (hm : P.follows .mixedOrders = true := by kernel_rfl) : SW P n (.region id l.toArray true) Q fr w :=
  sw_draw hm _ (h _ hH.drew (hH.drew.sublist hs))
theorem Hp.sb (h : Hp w0 w z F os) {os' : List Own} (hs : os'.Sublist os) : Hp w0 w z F os' := h.sublist hs
theorem Hp.n1 {a : Own} (h : Hp w0 w z F [a]) : Hp w0 w z F [a] := h
theorem Hp.n2 {a b : Own} (h : Hp w0 w z F [a, b]) : Hp w0 w z F [a, b] := h
theorem Hp.n3 {a b c : Own} (h : Hp w0 w z F [a, b, c]) : Hp w0 w z F [a, b, c] := h
theorem Hp.n4 {a b c d : Own} (h : Hp w0 w z F [a, b, c, d]) : Hp w0 w z F [a, b, c, d] := h
theorem Hp.n5 {a b c d e : Own} (h : Hp w0 w z F [a, b, c, d, e]) : Hp w0 w z F [a, b, c, d, e] := h
theorem Hp.n6 {a b c d e f : Own} (h : Hp w0 w z F [a, b, c, d, e, f]) : Hp w0 w z F [a, b, c, d, e, f] := h
theorem Hp.n7 {a b c d e f g : Own} (h : Hp w0 w z F [a, b, c, d, e, f, g]) : Hp w0 w z F [a, b, c, d, e, f, g] := h
theorem Hp.n8 {a b c d e f g i : Own} (h : Hp w0 w z F [a, b, c, d, e, f, g, i]) : Hp w0 w z F [a, b, c, d, e, f, g, i] := h
theorem Hp.n9 {a b c d e f g i j : Own} (h : Hp w0 w z F [a, b, c, d, e, f, g, i, j]) : Hp w0 w z F [a, b, c, d, e, f, g, i, j] := h
theorem Hp.n10 {a b c d e f g i j k : Own} (h : Hp w0 w z F [a, b, c, d, e, f, g, i, j, k]) : Hp w0 w z F [a, b, c, d, e, f, g, i, j, k] := h
theorem Hp.n11 {a b c d e f g i j k l : Own} (h : Hp w0 w z F [a, b, c, d, e, f, g, i, j, k, l]) : Hp w0 w z F [a, b, c, d, e, f, g, i, j, k, l] := h
theorem Cu {x y : Code} {γ : Type} (hH : Hp w0 w z F os) (f : γ → Fr) (C : γ → World → (List Own → Prop) → Prop) (hx : SW P n x (Exit.then (fun a w' => ∃ g, Fits n (f g) a ∧ C g w' (Hp w0 w' z F)) Q) fr w)
    (hy : ∀ g w', C g w' (Hp w0 w' z F) → SW P n y Q (f g) w') : SW P n (x.seq y) Q fr w := sw_cut f (fun g w' => C g w' (Hp w0 w' z F)) hx hy
theorem Lp {x : Code} {γ : Type} (hH : Hp w0 w z F os) (f : γ → Fr) (C : γ → World → (List Own → Prop) → Prop) (μ : γ → Nat) (g0 : γ) (h0 : C g0 w (Hp w0 w z F))
    (round : ∀ g w, C g w (Hp w0 w z F) → SW P n x (Exit.then (fun a w' => ∃ g', Fits n (f g') a ∧ C g' w' (Hp w0 w' z F) ∧ μ g' < μ g) Q) (f g) w) (hs : ((f g0).map fun p => gt fr p.1) = (f g0).map fun p => some p.2 := by kernel_rfl) : SW P n (.loop x) Q fr w :=
  sw_loop f (fun g w' => C g w' (Hp w0 w' z F)) μ g0 (Sub.of_eq hs) h0 round
theorem Ce {γ : Type} {f : γ → Fr} {I : γ → World → Prop} (g : γ) (hI : I g w) (hs : ((f g).map fun p => gt fr p.1) = (f g).map fun p => some p.2 := by kernel_rfl) : At n (Exit.then (fun a w' => ∃ g, Fits n (f g) a ∧ I g w') Q) .normal fr w := cut_end g (Sub.of_eq hs) hI
end
end Go.SW
/- The calculus of SW: maps that the call owns. Plain theorems. -/
set_option linter.unusedVariables false
set_option linter.unusedSimpArgs false
set_option maxRecDepth 100000
namespace Go.SW
open Go Go.RowKit Go.MapKept
/-- Keys of one kind. -/
structure KeyF {κ : Type} (d : TypeDesc) (f : κ → Value) : Prop where
  key : ∀ a, IsKey d (f a)
  inj : ∀ a b, f a = f b → a = b
def intK (k : IntKind) (a : Int) : Value := .int k a
theorem intK_key (k : IntKind) : KeyF (.int k) (intK k) := ⟨fun a => by simp [IsKey, intK], fun a b h => by simpa [intK] using h⟩
def Own.kmap {κ : Type} (g : Nat) (f : κ → Value) (l : List (κ × Value)) : Own where
  blks := [g]
  at' w := ∃ es clock, w.heap[g]? = some (.map es clock) ∧ es.toList.map (fun e => (e.key, e.val)) = l.map (fun p => (f p.1, p.2))
  lt' w h b hb := by
    simp only [List.mem_singleton] at hb
    subst hb
    obtain ⟨es, c, h1, _⟩ := h
    exact (Array.getElem?_eq_some_iff.1 h1).1
  kept' w w' h hk := by
    obtain ⟨es, c, h1, h2⟩ := h
    exact ⟨es, c, (hk g (by simp)).trans h1, h2⟩
section
variable {P : Program} {n : Sh} {ops : Array Oper} {Q : Exit → Act → World → Prop} {i : Nat} {fr : Fr} {w w0 : World} {z : Zone} {F : List Nat} {os : List Own}
variable {K : Fr → World → Prop} {d : Option Tmp} {ty : TypeId} {pos : String} {aft : Array Edge} {g : Option (Nat × Bool)} {κ : Type}
def kfind [DecidableEq κ] (k : κ) : List (κ × Value) → Nat → Option (Nat × Value)
  | [], _ => none
  | p :: l, i => if p.1 = k then some (i, p.2) else kfind k l (i + 1)
def kget [DecidableEq κ] (l : List (κ × Value)) (k : κ) : Option Value := (kfind k l 0).map (·.2)
theorem kfind_add [DecidableEq κ] (k : κ) : ∀ (l : List (κ × Value)) (i : Nat), kfind k l i = (kfind k l 0).map (fun p => (i + p.1, p.2))
  | [], _ => rfl
  | p :: l, i => by
    unfold kfind
    by_cases h : p.1 = k
    · simp [h]
    · rw [if_neg h, if_neg h, kfind_add k l (i + 1), kfind_add k l (0 + 1)]
      cases kfind k l 0 with
      | none => rfl
      | some q => simp; omega
theorem findNow_map [DecidableEq κ] {dd : TypeDesc} {f : κ → Value} (hf : KeyF dd f) (k : κ) : ∀ (es : List MapEntry) (l : List (κ × Value)) (i : Nat), es.map (fun e => (e.key, e.val)) = l.map (fun p => (f p.1, p.2)) → Instr.findNow dd (f k) es i = some (kfind k l i)
  | [], [], _, _ => rfl
  | [], _ :: _, _, h => by simp at h
  | _ :: _, [], _, h => by simp at h
  | e :: es, p :: l, i, h => by
    simp only [List.map_cons, List.cons.injEq, Prod.mk.injEq] at h
    obtain ⟨⟨h1, h2⟩, h3⟩ := h
    have hr := sameNow_of_keys (hf.key k) (show IsKey dd e.key from h1 ▸ hf.key p.1)
    obtain ⟨r, hr1, hr2⟩ := hr
    unfold Instr.findNow kfind
    rw [hr1]
    by_cases hk : p.1 = k
    · have : r = true := hr2.2 (by rw [h1, hk])
      rw [this, if_pos hk, h2]
    · have : r = false := by
        cases r with
        | false => rfl
        | true => exact absurd (hf.inj _ _ ((hr2.1 rfl).trans h1)).symm hk
      rw [this, if_neg hk]
      exact findNow_map hf k es l (i + 1) h3
def mapT (P : Program) (t : TypeId) : Option (TypeId × TypeId) :=
  match P.underlying t with
  | some (.map k e) => some (k, e)
  | _ => none
theorem underlying_of_map {t k e : TypeId} (h : mapT P t = some (k, e)) : P.underlying t = some (.map k e) := by
  unfold mapT at h
  cases hu : P.underlying t with
  | none => simp [hu] at h
  | some d => cases d <;> simp_all
theorem Hp.map_at (hH : Hp w0 w z F os) (j : Nat) {m : Nat} {f : κ → Value} {l : List (κ × Value)} (hk : os[j]? = some (.kmap m f l)) :
    ∃ es clock, w.heap[m]? = some (.map es clock) ∧ es.toList.map (fun e => (e.key, e.val)) = l.map (fun p => (f p.1, p.2)) := hH.own _ (List.mem_of_getElem? hk)
theorem Hp.map_set (hH : Hp w0 w z F os) (j : Nat) {m : Nat} {f : κ → Value} {l l' : List (κ × Value)} (hk : os[j]? = some (.kmap m f l)) {es : Array MapEntry} {clock : Nat} (he : es.toList.map (fun e => (e.key, e.val)) = l'.map (fun p => (f p.1, p.2))) :
    Hp w0 { w with heap := w.heap.setIfInBounds m (.map es clock) } z F (os.set j (.kmap m f l')) := by
  obtain ⟨es0, c0, h1, _⟩ := hH.map_at j hk
  refine hH.turn j hk (some m) (fun g e => by cases e; simp [Own.kmap]) ⟨rfl, rfl, rfl, by simp, fun k _ hk => (Go.MapKept.heap_set h1).2 k (fun e => hk (by rw [e]))⟩ ⟨es, clock, (Go.MapKept.heap_set h1).1, he⟩ (fun g hg => .inl hg) (by simp [Own.kmap])
theorem st_makeMap {t : TypeId} (hi : ops[i]? = some ⟨d, .makeMap t none, ty, pos, aft, g⟩) (hg : guardV ops fr ⟨d, .makeMap t none, ty, pos, aft, g⟩ = some true) (hs : (dok n d && knowns fr (.makeMap t none) && true) = true)
    (f : κ → Value) (hH : Hp w0 w z F os) (h : ∀ b w', Hp w0 w' z F (os ++ [.kmap b f []]) → K (pf fr d (.map (some b))) w') : ST P n ops Q i K fr w := by
  refine st_run hi hg hs (.map (some w.heap.size)) (w.alloc (.map #[] 0)) ?_ (h w.heap.size _ (hH.call ?_))
  · simp [execOp, Instr.makeMap, newObj, Sem.run, Result.andThen]
  · refine ⟨rfl, rfl, rfl, by simp, fun k hk _ => Below.heap_alloc _ _ _ hk, fun a v h => by simp at h, ?_, by simp [blksOf, Own.kmap], ?_⟩
    · intro o ho
      simp only [List.mem_singleton] at ho
      subst ho
      exact ⟨#[], 0, heap_alloc_new w _, by simp⟩
    · intro g hg
      simp only [blksOf, List.flatMap_cons, Own.kmap, List.flatMap_nil, List.append_nil, List.mem_singleton] at hg
      exact ⟨.inl (by omega), fun _ _ => rfl⟩
theorem run_mapget [DecidableEq κ] {t kt e : TypeId} (j : Nat) (ht : mapT P t = some (kt, e)) {dd : TypeDesc} (hd : P.underlying kt = some dd) {f : κ → Value} (hf : KeyF dd f) {zv : Value} (hz : zeroT P e = some zv) (hH : Hp w0 w z F os) {m : Nat} {l : List (κ × Value)} (hk : os[j]? = some (.kmap m f l)) (k : κ) (ok : Bool) :
    (Instr.lookup t (.map (some m)) (f k) ok).run P w = .ok (if ok then .tuple #[(kget l k).getD zv, .bool (kget l k).isSome] else (kget l k).getD zv) w := by
  obtain ⟨es, c, h1, h2⟩ := hH.map_at j hk
  obtain ⟨inf, z1, z2⟩ := Option.bind_eq_some_iff.1 hz
  have hfn := findNow_map hf k es.toList l 0 h2
  unfold kget
  cases hkf : kfind k l 0 with
  | none =>
    rw [hkf] at hfn
    simp [Instr.lookup, run_underlying (underlying_of_map ht), Go.MapKept.run_getObj_map h1, Go.MapKept.run_checkKey hd (hf.key k), Go.MapKept.run_findKey hd hfn, zeroValue, typeInfo, z1, z2, Result.andThen]
  | some p =>
    rw [hkf] at hfn
    simp [Instr.lookup, run_underlying (underlying_of_map ht), Go.MapKept.run_getObj_map h1, Go.MapKept.run_checkKey hd (hf.key k), Go.MapKept.run_findKey hd hfn, Result.andThen]
theorem rd_mapget [DecidableEq κ] {t kt e : TypeId} {x y : Operand} (j : Nat) (ht : mapT P t = some (kt, e)) {dd : TypeDesc} (hd : P.underlying kt = some dd) {f : κ → Value} (hf : KeyF dd f) {zv : Value} (hz : zeroT P e = some zv) (hH : Hp w0 w z F os) {m : Nat} {l : List (κ × Value)} (hk : os[j]? = some (.kmap m f l)) (hx : ev fr x = .map (some m)) (k : κ) (hy : ev fr y = f k) :
    Runs P fr ⟨d, .lookup t x y false, ty, pos, aft, g⟩ ((kget l k).getD zv) w := by
  simp [Runs, execOp, hx, hy, run_mapget (P := P) j ht hd hf hz hH hk k, Result.andThen]
theorem rd_mapgetOk [DecidableEq κ] {t kt e : TypeId} {x y : Operand} (j : Nat) (ht : mapT P t = some (kt, e)) {dd : TypeDesc} (hd : P.underlying kt = some dd) {f : κ → Value} (hf : KeyF dd f) {zv : Value} (hz : zeroT P e = some zv) (hH : Hp w0 w z F os) {m : Nat} {l : List (κ × Value)} (hk : os[j]? = some (.kmap m f l)) (hx : ev fr x = .map (some m)) (k : κ) (hy : ev fr y = f k) :
    Runs P fr ⟨d, .lookup t x y true, ty, pos, aft, g⟩ (.tuple #[(kget l k).getD zv, .bool (kget l k).isSome]) w := by
  simp [Runs, execOp, hx, hy, run_mapget (P := P) j ht hd hf hz hH hk k, Result.andThen]
end
end Go.SW
namespace Go.SW
open Go Go.RowKit
section
variable {P : Program} {fr : Fr} {w : World} {d : Option Tmp} {ty : TypeId} {pos : String} {aft : Array Edge} {g : Option (Nat × Bool)}
theorem run_part_scalar {t : TypeId} (ht : scalarT P t = true) (cs : Array Value) (o : Nat) {v : Value} (hv : cs[o]? = some v) : (part t cs o).run P w = .ok v w := by
  simp [part, run_isAgg_false ht, hv, Result.andThen]
end
end Go.SW
/- The calculus of SW: values spelled as the models have them: whole numbers within their kinds, bytes, strings; ends of rounds. Plain theorems. -/
set_option linter.unusedVariables false
set_option linter.unusedSimpArgs false
set_option maxRecDepth 100000
namespace Go.SW
open Go Go.RowKit
theorem cv_i64 {a b : Int} (h : -9223372036854775808 ≤ a ∧ a ≤ 9223372036854775807 ∧ a = b) : Value.int .i64 (IntKind.i64.wrap a) = .int .i64 b := by rw [IntWalk.i64_in _ ⟨h.1, h.2.1⟩, h.2.2]
theorem cv_i32 {a b : Int} (h : -2147483648 ≤ a ∧ a ≤ 2147483647 ∧ a = b) : Value.int .i32 (IntKind.i32.wrap a) = .int .i32 b := by rw [IntWalk.i32_in _ ⟨h.1, h.2.1⟩, h.2.2]
theorem cv_u8 {a b : Int} (h : 0 ≤ a ∧ a ≤ 255 ∧ a = b) : Value.int .u8 (IntKind.u8.wrap a) = .int .u8 b := by rw [IntWalk.u8_in _ ⟨h.1, h.2.1⟩, h.2.2]
theorem cv_u64 {a b : Int} (h : 0 ≤ a ∧ a ≤ 18446744073709551615 ∧ a = b) : Value.int .u64 (IntKind.u64.wrap a) = .int .u64 b := by rw [IntWalk.u64_in _ ⟨h.1, h.2.1⟩, h.2.2]
section
variable {P : Program} {n : Sh} {ops : Array Oper} {Q : Exit → Act → World → Prop} {S : World → Prop} {i k : Nat} {listed : Array Bool} {fr : Fr} {w : World}
theorem Gw0 (k t : Nat) (x y : Int) (hk : GL P n ops Q (i + k) ((t, .int .i64 y) :: fr) w) (e : -9223372036854775808 ≤ x ∧ x ≤ 9223372036854775807 ∧ x = y := by omega) (h : gpv P n ops ((ops.toList.drop i).take k) fr [(t, .int .i64 (IntKind.i64.wrap x))] = (true, some [some (.int .i64 (IntKind.i64.wrap x))]) := by kernel_rfl) : GL P n ops Q i fr w := Gc0 k t _ _ (cv_i64 e) hk h
theorem Dw0 [PQ n Q] (m : Nat) (l : List Nat) (t : Nat) (x y : Int) (hS : S w) (hk : GD P n ops Q S k (l.foldl (fun b i => b.setIfInBounds i true) listed) ((t, .int .i64 y) :: fr) w) (e : -9223372036854775808 ≤ x ∧ x ≤ 9223372036854775807 ∧ x = y := by omega) (hm : l.length = m := by kernel_rfl) (h : gpd P n ops listed l fr [(t, .int .i64 (IntKind.i64.wrap x))] = (true, some [some (.int .i64 (IntKind.i64.wrap x))]) := by kernel_rfl) : GD P n ops Q S (k + m) listed fr w := Dc0 m l t _ _ (cv_i64 e) hS hk hm h
theorem Gw1 (k t : Nat) (x y : Int) (t2 : Nat) (v2 : Value) (hk : GL P n ops Q (i + k) ((t, .int .i64 y) :: (t2, v2) :: fr) w) (e : -9223372036854775808 ≤ x ∧ x ≤ 9223372036854775807 ∧ x = y := by omega) (h : gpv P n ops ((ops.toList.drop i).take k) fr [(t, .int .i64 (IntKind.i64.wrap x)), (t2, v2)] = (true, some [some (.int .i64 (IntKind.i64.wrap x)), some v2]) := by kernel_rfl) : GL P n ops Q i fr w := Gc1 k t _ _ (cv_i64 e) t2 v2 hk h
theorem Gw2 (k t : Nat) (x y : Int) (t2 : Nat) (v2 : Value) (t3 : Nat) (v3 : Value) (hk : GL P n ops Q (i + k) ((t, .int .i64 y) :: (t2, v2) :: (t3, v3) :: fr) w) (e : -9223372036854775808 ≤ x ∧ x ≤ 9223372036854775807 ∧ x = y := by omega) (h : gpv P n ops ((ops.toList.drop i).take k) fr [(t, .int .i64 (IntKind.i64.wrap x)), (t2, v2), (t3, v3)] = (true, some [some (.int .i64 (IntKind.i64.wrap x)), some v2, some v3]) := by kernel_rfl) : GL P n ops Q i fr w := Gc2 k t _ _ (cv_i64 e) t2 v2 t3 v3 hk h
theorem Dw2 [PQ n Q] (m : Nat) (l : List Nat) (t : Nat) (x y : Int) (t2 : Nat) (v2 : Value) (t3 : Nat) (v3 : Value) (hS : S w) (hk : GD P n ops Q S k (l.foldl (fun b i => b.setIfInBounds i true) listed) ((t, .int .i64 y) :: (t2, v2) :: (t3, v3) :: fr) w) (e : -9223372036854775808 ≤ x ∧ x ≤ 9223372036854775807 ∧ x = y := by omega) (hm : l.length = m := by kernel_rfl) (h : gpd P n ops listed l fr [(t, .int .i64 (IntKind.i64.wrap x)), (t2, v2), (t3, v3)] = (true, some [some (.int .i64 (IntKind.i64.wrap x)), some v2, some v3]) := by kernel_rfl) : GD P n ops Q S (k + m) listed fr w := Dc2 m l t _ _ (cv_i64 e) t2 v2 t3 v3 hS hk hm h
end
theorem bv_or (w a b : Nat) (ha : a < 2 ^ w) (hb : b < 2 ^ w) : (BitVec.ofInt w (a : Int) ||| BitVec.ofInt w (b : Int)).toNat = a ||| b := by
  simp only [BitVec.ofInt_natCast, BitVec.toNat_or, BitVec.toNat_ofNat, Nat.mod_eq_of_lt ha, Nat.mod_eq_of_lt hb]
theorem bv_and (w a b : Nat) (ha : a < 2 ^ w) (hb : b < 2 ^ w) : (BitVec.ofInt w (a : Int) &&& BitVec.ofInt w (b : Int)).toNat = a &&& b := by
  simp only [BitVec.ofInt_natCast, BitVec.toNat_and, BitVec.toNat_ofNat, Nat.mod_eq_of_lt ha, Nat.mod_eq_of_lt hb]
theorem cv_or_u8 {a b : Nat} (ha : a < 256) (hb : b < 256) : Value.int .u8 (IntKind.u8.wrap (((BitVec.ofInt 8 (a : Int) ||| BitVec.ofInt 8 (b : Int)).toNat : Nat) : Int)) = .int .u8 ((a ||| b : Nat) : Int) := by
  rw [bv_or 8 a b ha hb, IntWalk.u8_in _ (by have := Nat.or_lt_two_pow (n := 8) ha hb; omega)]
theorem cv_and_u8 {a b : Nat} (ha : a < 256) (hb : b < 256) : Value.int .u8 (IntKind.u8.wrap (((BitVec.ofInt 8 (a : Int) &&& BitVec.ofInt 8 (b : Int)).toNat : Nat) : Int)) = .int .u8 ((a &&& b : Nat) : Int) := by
  rw [bv_and 8 a b ha hb, IntWalk.u8_in _ (by have := Nat.and_le_left (n := a) (m := b); omega)]
theorem cv_shr {k : IntKind} {a s c : Nat} (h : a / 2 ^ s = c := by rfl) : Value.int k (Int.fdiv ((a : Nat) : Int) (2 ^ s)) = .int k ((c : Nat) : Int) := by
  subst h
  congr 1
  rw [Int.fdiv_eq_ediv_of_nonneg _ (by exact_mod_cast Nat.zero_le (2 ^ s))]
  norm_cast
def bv (l : List UInt8) : List Value := l.map fun b => .int .u8 ((b.toNat : Nat) : Int)
theorem bv_append (a b : List UInt8) : bv (a ++ b) = bv a ++ bv b := by simp [bv]
theorem bv_take (l : List UInt8) (k : Nat) : bv (l.take k) = (bv l).take k := by simp [bv, List.map_take]
theorem bv_drop (l : List UInt8) (k : Nat) : bv (l.drop k) = (bv l).drop k := by simp [bv, List.map_drop]
theorem bv_one (l : List UInt8) : ∀ u ∈ bv l, u.oneCell' = true := by
  intro u hu
  obtain ⟨_, _, rfl⟩ := List.mem_map.1 hu
  rfl
def gb (l : List UInt8) (j : Nat) : Nat := (l.getD j 0).toNat
theorem gb_lt (l : List UInt8) (j : Nat) : gb l j < 256 := UInt8.toNat_lt _
def RB (c : Zone) (v : Value) (l : List UInt8) : Prop := Row c v 1 l.length (bv l)
theorem RB.row {c : Zone} {v : Value} {l : List UInt8} (h : RB c v l) : Row c v 1 l.length (bv l) := h
theorem RB.le {c : Zone} {v : Value} {l : List UInt8} (h : RB c v l) : l.length ≤ 9223372036854775807 := by
  obtain ⟨_, A, cap, _, h1, h2, _⟩ := h
  simp only [maxLen] at h2
  omega
theorem RB.mono {c c' : Zone} {v : Value} {l : List UInt8} (h : RB c v l) (hc : c.le c') : RB c' v l := Row.mono h hc
theorem RB.cut {c : Zone} {v : Value} {l : List UInt8} {a b : Nat} (h : Row c v 1 (b - a) (((bv l).drop (a * 1)).take ((b - a) * 1))) (hb : b ≤ l.length) : RB c v ((l.drop a).take (b - a)) := by
  unfold RB
  rw [bv_take, bv_drop]
  simp only [Nat.mul_one] at h
  rw [List.length_take, List.length_drop, Nat.min_eq_left (by omega)]
  exact h
theorem RB.tail {c : Zone} {v : Value} {l : List UInt8} {a : Nat} (h : Row c v 1 (l.length - a) (((bv l).drop (a * 1)).take ((l.length - a) * 1))) : RB c v (l.drop a) := by
  have := RB.cut h (Nat.le_refl _)
  rwa [List.take_of_length_le (by simp)] at this
def bs (l : List UInt8) : ByteArray := ⟨l.toArray⟩
theorem bs_size (l : List UInt8) : (bs l).size = l.length := by simp [bs, ByteArray.size]
theorem bs_toList (l : List UInt8) : (bs l).toList = l := ByteArray.toList_mk l
theorem bs_inj {x y : List UInt8} (h : bs x = bs y) : x = y := by
  have := congrArg ByteArray.toList h
  rwa [bs_toList, bs_toList] at this
theorem cv_bapp (x y : List UInt8) : Value.string (bs x ++ bs y) = .string (bs (x ++ y)) := by
  congr 1
theorem cv_minI {k : IntKind} {a b : Int} : Value.int k (if b < a then b else a) = .int k (min a b) := by
  congr 1
  rw [Int.min_def]
  split <;> split <;> omega
section
variable {P : Program} {fr : Fr} {w : World} {d : Option Tmp} {ty : TypeId} {pos : String} {aft : Array Edge} {g : Option (Nat × Bool)}
def isStrT (P : Program) (t : TypeId) : Bool :=
  match P.underlying t with
  | some .string => true
  | _ => false
theorem underlying_of_str {t : TypeId} (h : isStrT P t = true) : P.underlying t = some .string := by
  unfold isStrT at h
  cases hu : P.underlying t with
  | none => simp [hu] at h
  | some D => cases D <;> simp_all
theorem rd_sidx {t : TypeId} {x y : Operand} (ht : isStrT P t = true) {l : List UInt8} (hx : ev fr x = .string (bs l)) {k : IntKind} (j : Nat) (hy : ev fr y = .int k (j : Nat)) (hj : j < l.length) :
    Runs P fr ⟨d, .index t x y, ty, pos, aft, g⟩ (.int .u8 ((gb l j : Nat) : Int)) w := by
  have h1 : (bs l)[j]? = some l[j] := by
    have : j < (bs l).size := by rw [bs_size]; exact hj
    rw [getElem?_pos (bs l) j this]
    rfl
  have h2 : l[j].toNat = gb l j := by simp [gb, List.getD_eq_getElem?_getD, hj]
  simp [Runs, execOp, hx, hy, Instr.index, asIntOf, run_underlying (underlying_of_str ht), h1, h2, Result.andThen]
theorem bs_extract (l : List UInt8) (a b : Nat) : (bs l).extract a b = bs ((l.drop a).take (b - a)) := by
  apply ByteArray.ext
  simp [bs, ByteArray.data_extract]
theorem rd_scut {t : TypeId} {x : Operand} {lo hi' : Option Operand} (ht : isStrT P t = true) {l : List UInt8} (hx : ev fr x = .string (bs l)) {a b : Nat} (hlo : bnd fr lo a 0) (hhi : bnd fr hi' b l.length) (hab : a ≤ b) (hb : b ≤ l.length) :
    Runs P fr ⟨d, .slice t x lo hi' none, ty, pos, aft, g⟩ (.string (bs ((l.drop a).take (b - a)))) w := by
  have hai : (a : Int) ≤ (b : Int) := by omega
  have hbc : (b : Int) ≤ (l.length : Int) := by omega
  have ha0 : (0 : Int) ≤ (a : Int) := by omega
  have hb0 : (0 : Int) ≤ (b : Int) := by omega
  have hst := underlying_of_str ht
  have hsz := bs_size l
  have he := bs_extract l a b
  unfold Runs
  rcases hlo with ⟨rfl, rfl⟩ | ⟨xl, kl, rfl, hxl⟩ <;> rcases hhi with ⟨rfl, rfl⟩ | ⟨xh, kh, rfl, hxh⟩ <;>
    simp [execOp, hx, Instr.sliceAt, Instr.slice, Instr.sliceBounds, Instr.sliceBound, asIntOf, run_underlying hst, Result.andThen, *] <;> simp_all
end
theorem RB.nil (c : Zone) : RB c (.slice none 0 0) [] := Row.nil c 1
def errW (T : TypeId) (e : Nat) : Value := if e = 0 then .nilIface else .iface T (.int .i64 ((e : Nat) : Int))
def isIfaceT (P : Program) (t : TypeId) : Bool :=
  match P.underlying t with
  | some (.interface _) => true
  | _ => false
section
variable {P : Program} {n : Sh} {ops : Array Oper} {Q : Exit → Act → World → Prop} {i : Nat} {fr : Fr} {w : World}
variable {d : Option Tmp} {ty : TypeId} {pos : String} {aft : Array Edge} {g : Option (Nat × Bool)}
theorem run_eqn0 (k : Nat) {t : TypeId} {D : Array (String × TypeId)} (hu : P.underlying t = some (.interface D)) : (Op.equalIn (k + 1) t .nilIface .nilIface).run P w = .ok true w := by
  simp [Op.equalIn, run_underlying hu]
theorem run_eqn1 (k : Nat) {t T : TypeId} {v : Value} {D : Array (String × TypeId)} (hu : P.underlying t = some (.interface D)) : (Op.equalIn (k + 1) t (.iface T v) .nilIface).run P w = .ok false w := by
  simp [Op.equalIn, run_underlying hu]
theorem run_errcmp {t T : TypeId} {e : Nat} (ht : isIfaceT P t = true) : (Op.equal t (errW T e) .nilIface).run P w = .ok (e == 0) w := by
  unfold isIfaceT at ht
  cases hu : P.underlying t with
  | none => simp [hu] at ht
  | some D =>
    cases D with
    | interface D =>
      unfold Op.equal Op.maxDepth errW
      by_cases he : e = 0
      · rw [if_pos he, run_eqn0 9999 hu]; simp [he]
      · rw [if_neg he, run_eqn1 9999 hu]; simp [he]
    | _ => simp [hu] at ht
theorem run_errguard {op : BinOp} {t T : TypeId} {x : Operand} {e : Nat} : (eqGuard op t x (.const .nilIface) (errW T e) .nilIface).run P w = .ok () w := by
  unfold eqGuard errW
  by_cases he : e = 0
  · rw [if_pos he]; cases op <;> simp
  · rw [if_neg he]; cases op <;> simp
theorem binOp_neq_err {t T : TypeId} {e : Nat} : binOp .neq t (errW T e) .nilIface = (do pure (.bool (!(← Op.equal t (errW T e) .nilIface)))) := by
  unfold errW
  by_cases he : e = 0
  · rw [if_pos he]; rfl
  · rw [if_neg he]; rfl
theorem ev_const (fr : Fr) (v : Value) : ev fr (.const v) = v := rfl
theorem rd_err_ne {t t2 : TypeId} {x : Operand} (ht : isIfaceT P t = true) {T : TypeId} {e : Nat} (hx : ev fr x = errW T e) : Runs P fr ⟨d, .binOp .neq t x (.const .nilIface) t2, ty, pos, aft, g⟩ (.bool (e != 0)) w := by
  unfold Runs
  simp only [execOp, hx, ev_const, Sem.run_bind, run_errguard, Result.andThen_ok, binOp_neq_err, run_errcmp ht, Sem.run_pure]
  rfl
end
def ifW (z : Bool) (T : TypeId) (v : Value) : Value := bif z then .nilIface else .iface T v
section
variable {P : Program} {fr : Fr} {w : World}
variable {d : Option Tmp} {ty : TypeId} {pos : String} {aft : Array Edge} {g : Option (Nat × Bool)}
theorem rd_if_ne {t t2 : TypeId} {x : Operand} (ht : isIfaceT P t = true) {z : Bool} {T : TypeId} {v : Value} (hx : ev fr x = ifW z T v) : Runs P fr ⟨d, .binOp .neq t x (.const .nilIface) t2, ty, pos, aft, g⟩ (.bool !z) w := by
  unfold isIfaceT at ht
  cases hu : P.underlying t with
  | none => simp [hu] at ht
  | some D =>
    cases D with
    | interface D =>
      unfold Runs
      cases z with
      | true =>
        have h : (Op.equal t .nilIface .nilIface).run P w = .ok true w := run_eqn0 9999 hu
        simp only [execOp, hx, ev_const, ifW, cond_true, Sem.run_bind]
        rw [show (eqGuard .neq t x (.const .nilIface) .nilIface .nilIface).run P w = .ok () w from by simp [eqGuard]]
        simp only [Result.andThen_ok]
        rw [show binOp .neq t .nilIface .nilIface = (do pure (.bool (!(← Op.equal t .nilIface .nilIface)))) from rfl]
        simp only [Sem.run_bind, h, Result.andThen_ok, Sem.run_pure]
      | false =>
        have h : (Op.equal t (.iface T v) .nilIface).run P w = .ok false w := run_eqn1 9999 hu
        simp only [execOp, hx, ev_const, ifW, cond_false, Sem.run_bind]
        rw [show (eqGuard .neq t x (.const .nilIface) (.iface T v) .nilIface).run P w = .ok () w from by simp [eqGuard]]
        simp only [Result.andThen_ok]
        rw [show binOp .neq t (.iface T v) .nilIface = (do pure (.bool (!(← Op.equal t (.iface T v) .nilIface)))) from rfl]
        simp only [Sem.run_bind, h, Result.andThen_ok, Sem.run_pure]
    | _ => simp [hu] at ht
end
theorem RB.none {c : Zone} {n cap : Nat} {l : List UInt8} (h : RB c (.slice none n cap) l) : l = [] := by
  obtain ⟨h0, A, cap', e, _, _, hc⟩ := h
  cases l with
  | nil => rfl
  | cons b l =>
    cases e
    obtain ⟨ad, e', _⟩ := hc 0 _ rfl
    cases e'
section
variable {P : Program} {n : Sh} {Q : Exit → Act → World → Prop} {fr : Fr} {w : World}
theorem thR {K : Act → World → Prop} (h : At n Q .ret fr w) : At n (Exit.then K Q) .ret fr w := h
theorem thX {K : Act → World → Prop} {id : Nat} (h : At n Q (.exit id) fr w) : At n (Exit.then K Q) (.exit id) fr w := h
theorem bkR {id : Nat} (h : At n Q .ret fr w) : At n (Exit.inBlock id Q) .ret fr w := h
theorem bkN {id : Nat} (h : At n Q .normal fr w) : At n (Exit.inBlock id Q) .normal fr w := h
theorem bkX {id id' : Nat} (hne : Nat.beq id' id = false) (h : At n Q (.exit id') fr w) : At n (Exit.inBlock id Q) (.exit id') fr w := by
  intro a ha
  have : ¬ id' = id := by rw [← Nat.beq_eq]; simp [hne]
  simp only [Exit.inBlock, if_neg this]
  exact h a ha
theorem bkH {id : Nat} (h : At n Q .normal fr w) : At n (Exit.inBlock id Q) (.exit id) fr w := by
  intro a ha
  simp only [Exit.inBlock, if_true]
  exact h a ha
theorem rnd_end {γ : Type} {F : γ → Fr} {I : γ → World → Prop} {μ : γ → Nat} {g : γ} (g' : γ) (hs : ((F g').map fun p => gt fr p.1) = (F g').map fun p => some p.2) (hI : I g' w) (hm : μ g' < μ g) :
    At n (Exit.then (fun a w' => ∃ g', Fits n (F g') a ∧ I g' w' ∧ μ g' < μ g) Q) .normal fr w := fun a ha => ⟨g', ha.sub (Sub.of_eq hs), hI, hm⟩
end
end Go.SW
/- The calculus of SW: a literal's bytes that a conversion has marked. Plain theorems. -/
set_option linter.unusedVariables false
set_option linter.unusedSimpArgs false
set_option maxRecDepth 100000
namespace Go.SW
open Go Go.RowKit
section
variable {P : Program} {n : Sh} {ops : Array Oper} {Q : Exit → Act → World → Prop} {i : Nat} {fr : Fr} {w w0 : World} {z : Zone} {F : List Nat} {os : List Own}
variable {K : Fr → World → Prop} {d : Option Tmp} {ty : TypeId} {pos : String} {aft : Array Edge} {g : Option (Nat × Bool)}
end
end Go.SW
/- The calculus of SW: bytes read as a string. Plain theorems. -/
set_option linter.unusedVariables false
set_option linter.unusedSimpArgs false
set_option maxRecDepth 100000
namespace Go.SW
open Go Go.RowKit
section
variable {P : Program} {fr : Fr} {w : World} {d : Option Tmp} {ty : TypeId} {pos : String} {aft : Array Edge} {g : Option (Nat × Bool)}
theorem rd_seql {t t2 : TypeId} {x y : Operand} (ht : P.underlying t = some .string) {l l2 : List UInt8} (hx : ev fr x = .string (bs l)) (hy : ev fr y = .string (bs l2)) : Runs P fr ⟨d, .binOp .eql t x y t2, ty, pos, aft, g⟩ (.bool (l == l2)) w := by
  simp [Runs, execOp, hx, hy, eqGuard, binOp, Op.stringOp, bs_toList, Result.andThen]
theorem rd_sneq {t t2 : TypeId} {x y : Operand} (ht : P.underlying t = some .string) {l l2 : List UInt8} (hx : ev fr x = .string (bs l)) (hy : ev fr y = .string (bs l2)) : Runs P fr ⟨d, .binOp .neq t x y t2, ty, pos, aft, g⟩ (.bool (!(l == l2))) w := by
  simp [Runs, execOp, hx, hy, eqGuard, binOp, Op.stringOp, bs_toList, Result.andThen]
end
end Go.SW
/- The calculus of SW: bytes with spare room; rows that are written over whole. Plain theorems. -/
set_option linter.unusedVariables false
set_option linter.unusedSimpArgs false
set_option maxRecDepth 100000
namespace Go.SW
open Go Go.RowKit
section
variable {P : Program} {n : Sh} {ops : Array Oper} {Q : Exit → Act → World → Prop} {i : Nat} {fr : Fr} {w w0 : World} {z : Zone} {F : List Nat} {os : List Own}
variable {K : Fr → World → Prop} {d : Option Tmp} {ty : TypeId} {pos : String} {aft : Array Edge} {g : Option (Nat × Bool)}
end
theorem perm_erase {α : Type} : ∀ (l : List α) (i : Nat) (o : α), l[i]? = some o → (o :: l.eraseIdx i).Perm l
  | [], i, o, h => by simp at h
  | a :: l, 0, o, h => by
    simp only [List.getElem?_cons_zero, Option.some.injEq] at h
    subst h
    exact List.Perm.refl _
  | a :: l, i + 1, o, h => by
    rw [List.eraseIdx_cons_succ]
    exact (List.Perm.swap _ _ _).trans ((perm_erase l i o (by simpa using h)).cons a)
section
variable {w w0 : World} {z : Zone} {F : List Nat} {os : List Own}
theorem Hp.out {l r : List Own} (h : Hp w0 w z F (.grp l :: r)) (i : Nat) {o : Own} (ho : l[i]? = some o) : Hp w0 w z F (o :: .grp (l.eraseIdx i) :: r) := by
  have hp : l.Perm (o :: l.eraseIdx i) := (perm_erase l i o ho).symm
  have h1 := h.open_
  have h2 : Hp w0 w z F (o :: (l.eraseIdx i ++ r)) := h1.perm (by simpa using hp.append_right r)
  have h3 : Hp w0 w z F (l.eraseIdx i ++ (o :: r)) := h2.perm (by simpa using List.perm_middle.symm)
  exact h3.close.perm (List.Perm.swap _ _ _)
theorem Hp.into {l r : List Own} {i : Nat} {o : Own} (hi : i < l.length) (h : Hp w0 w z F (o :: .grp (l.eraseIdx i) :: r)) : Hp w0 w z F (.grp (l.set i o) :: r) := by
  have h2 : Hp w0 w z F (.grp (l.eraseIdx i) :: o :: r) := h.perm (List.Perm.swap _ _ _)
  have h3 := h2.open_
  have hp : (l.eraseIdx i ++ (o :: r)).Perm (l.set i o ++ r) := by
    have h4 : (o :: l.eraseIdx i).Perm (l.set i o) := by
      have := perm_erase (l.set i o) i o (by simp [hi])
      simpa [List.eraseIdx_set_eq] using this
    exact List.perm_middle.trans (by simpa using h4.append_right r)
  exact (h3.perm hp).close
theorem Hp.weak {o o' : Own} {r : List Own} (h : Hp w0 w z F (o :: r)) (hb : o'.blks = o.blks) (ha : o.at w → o'.at w) : Hp w0 w z F (o' :: r) := by
  have e : blksOf (o' :: r) = blksOf (o :: r) := by simp only [blksOf, List.flatMap_cons, hb]
  refine ⟨h.os_, h.tape, h.output, h.size, h.keep, h.zin, fun x hx => ?_, by rw [e]; exact h.nodup, fun g hg => h.new g (by rw [← e]; exact hg)⟩
  rcases List.mem_cons.1 hx with rfl | hx
  · exact ha (h.own o List.mem_cons_self)
  · exact h.own x (List.mem_cons_of_mem _ hx)
end
end Go.SW
/- The calculus of SW: a guard that is not decided, in a region whose order is drawn. Plain theorems. -/
set_option linter.unusedVariables false
set_option linter.unusedSimpArgs false
set_option maxRecDepth 100000
namespace Go.SW
open Go Go.RowKit
section
variable {P : Program} {n : Sh} {ops : Array Oper} {Q : Exit → Act → World → Prop} {S : World → Prop} {k : Nat} {listed : Array Bool} {fr : Fr} {w : World}
theorem gd_split (t : Nat) {b : Bool} (hv : gt fr t = some (.bool b)) (ht : b = true → GD P n ops Q S k listed (pf fr (some t) (.bool true)) w) (hf : b = false → GD P n ops Q S k listed (pf fr (some t) (.bool false)) w) : GD P n ops Q S k listed fr w := by
  cases b with
  | true => exact gd_sub _ (sub_cv t (.bool true) rfl hv) (ht rfl)
  | false => exact gd_sub _ (sub_cv t (.bool false) rfl hv) (hf rfl)
theorem Di (t : Nat) {b : Bool} {p q : Prop} [h : BP b p q] (hv : gt fr t = some (.bool b)) (ht : p → GD P n ops Q S k listed (pf fr (some t) (.bool true)) w) (hf : q → GD P n ops Q S k listed (pf fr (some t) (.bool false)) w) : GD P n ops Q S k listed fr w := gd_split t hv (fun e => ht (h.t e)) (fun e => hf (h.f e))
end
end Go.SW
/- The calculus of SW: a string turned into bytes. Plain theorems. -/
set_option linter.unusedVariables false
set_option linter.unusedSimpArgs false
set_option maxRecDepth 100000
namespace Go.SW
open Go Go.RowKit
section
variable {P : Program} {n : Sh} {ops : Array Oper} {Q : Exit → Act → World → Prop} {i : Nat} {fr : Fr} {w w0 : World} {z : Zone} {F : List Nat} {os : List Own}
variable {K : Fr → World → Prop} {d : Option Tmp} {ty : TypeId} {pos : String} {aft : Array Edge} {g : Option (Nat × Bool)}
theorem rd_sadd {w : World} {t t2 : TypeId} {x y : Operand} (ht : P.underlying t = some .string) {l l2 : List UInt8} (hx : ev fr x = .string (bs l)) (hy : ev fr y = .string (bs l2)) (hl : l.length + l2.length ≤ 9223372036854775807) : Runs P fr ⟨d, .binOp .add t x y t2, ty, pos, aft, g⟩ (.string (bs (l ++ l2))) w := by
  have h : Value.string (bs l ++ bs l2) = .string (bs (l ++ l2)) := cv_bapp l l2
  rw [← h]
  have h2 : ¬ ((9223372036854775807 : Int) < ((bs l).size : Int) + ((bs l2).size : Int)) := by rw [bs_size, bs_size]; omega
  simp [Runs, execOp, hx, hy, eqGuard, binOp, Op.stringOp, Result.andThen, h2]
end
end Go.SW
/- The calculus of SW: maps from strings that the call owns, with their stamps. Plain theorems. -/
set_option linter.unusedVariables false
set_option linter.unusedSimpArgs false
set_option maxRecDepth 100000
namespace Go.SW
open Go Go.RowKit Go.MapKept
def strK (l : List UInt8) : Value := .string (bs l)
theorem strK_key : KeyF .string strK := ⟨fun a => by simp [IsKey, strK], fun a b h => bs_inj (by simpa [strK] using h)⟩
section
variable {P : Program} {n : Sh} {ops : Array Oper} {Q : Exit → Act → World → Prop} {i : Nat} {fr : Fr} {w w0 : World} {z : Zone} {F : List Nat} {os : List Own}
variable {K : Fr → World → Prop} {d : Option Tmp} {ty : TypeId} {pos : String} {aft : Array Edge} {g : Option (Nat × Bool)}
end
end Go.SW
/- The calculus of SW: maps that the call owns: an entry is put, whether it is there or not; maps told by typed entries. Plain theorems. -/
set_option linter.unusedVariables false
set_option linter.unusedSimpArgs false
set_option maxRecDepth 100000
namespace Go.SW
open Go Go.RowKit
section
variable {P : Program} {n : Sh} {ops : Array Oper} {Q : Exit → Act → World → Prop} {i : Nat} {fr : Fr} {w w0 : World} {z : Zone} {F : List Nat} {os : List Own}
variable {K : Fr → World → Prop} {d : Option Tmp} {ty : TypeId} {pos : String} {aft : Array Edge} {g : Option (Nat × Bool)} {κ : Type}
def kputK [DecidableEq κ] (l : List (κ × Value)) (k : κ) (v : Value) : List (κ × Value) := match kfind k l 0 with | some (i, _) => l.set i (k, v) | none => l ++ [(k, v)]
theorem kfind_keyK [DecidableEq κ] (k : κ) : ∀ (l : List (κ × Value)) (i q : Nat) (v : Value), kfind k l i = some (q, v) → ∃ j, q = i + j ∧ ∃ p, l[j]? = some p ∧ p.1 = k
  | [], _, _, _, h => by simp [kfind] at h
  | p :: l, i, q, v, h => by
    unfold kfind at h
    by_cases hp : p.1 = k
    · rw [if_pos hp] at h
      cases h
      exact ⟨0, rfl, p, rfl, hp⟩
    · rw [if_neg hp] at h
      obtain ⟨j, h1, p', h2, h3⟩ := kfind_keyK k l (i + 1) q v h
      exact ⟨j + 1, by omega, p', by simpa using h2, h3⟩
theorem st_mapset [DecidableEq κ] {t kt e : TypeId} {x y u : Operand} (j : Nat) (hi : ops[i]? = some ⟨d, .mapUpdate t x y u, ty, pos, aft, g⟩) (hg : guardV ops fr ⟨d, .mapUpdate t x y u, ty, pos, aft, g⟩ = some true) (hs : (dok n d && knowns fr (.mapUpdate t x y u) && true) = true)
    (ht : mapT P t = some (kt, e)) {dd : TypeDesc} (hd : P.underlying kt = some dd) {f : κ → Value} (hf : KeyF dd f) (hH : Hp w0 w z F os) {m : Nat} {l : List (κ × Value)} (hk : os[j]? = some (.kmap m f l)) (hx : ev fr x = .map (some m)) (k : κ) (hy : ev fr y = f k) {v : Value} (hv : ev fr u = v)
    (h : ∀ w', Hp w0 w' z F (os.set j (.kmap m f (kputK l k v))) → K (pf fr d undef) w') : ST P n ops Q i K fr w := by
  obtain ⟨es, c, h1, h2⟩ := hH.map_at j hk
  have hfn := findNow_map hf k es.toList l 0 h2
  have hck := Go.MapKept.run_checkKey (P := P) (w := w) hd (hf.key k)
  unfold kputK at h
  cases hkf : kfind k l 0 with
  | none =>
    rw [hkf] at hfn h
    refine st_run0 hi hg hs { w with heap := w.heap.setIfInBounds m (.map (es.push ⟨f k, v, c⟩) (c + 1)) } ?_ (h _ (hH.map_set j hk ?_))
    · simp [execOp, hx, hy, hv, Instr.mapUpdate, run_underlying (underlying_of_map ht), Go.MapKept.run_getObj_map h1, hck, Go.MapKept.run_findKey hd hfn, Go.MapKept.run_setObj_map _ h1, Result.andThen]
    · simp [h2]
  | some q =>
    obtain ⟨q, u0⟩ := q
    rw [hkf] at hfn h
    obtain ⟨jj, e0, p, e1, e2⟩ := kfind_keyK k l 0 q u0 hkf
    have e0' : q = jj := by omega
    subst e0'
    have hql : q < l.length := (List.getElem?_eq_some_iff.1 e1).1
    obtain ⟨x0, hx0, hx1⟩ : ∃ x0, es[q]? = some x0 ∧ x0.key = f k := by
      have h2a := congrArg (fun L => L[q]?) h2
      simp only [List.getElem?_map, e1, Option.map_some] at h2a
      obtain ⟨x0, h4, h5⟩ := Option.map_eq_some_iff.1 h2a
      exact ⟨x0, by simpa using h4, by rw [show x0.key = f p.1 from congrArg Prod.fst h5, e2]⟩
    have hst := Go.MapKept.run_keyThatStays (P := P) (w := w) (hf.key k)
    refine st_run0 hi hg hs { w with heap := w.heap.setIfInBounds m (.map (es.modify q fun e => { e with key := f k, val := v }) c) } ?_ (h _ (hH.map_set j hk ?_))
    · simp [execOp, hx, hy, hv, Instr.mapUpdate, run_underlying (underlying_of_map ht), Go.MapKept.run_getObj_map h1, hck, Go.MapKept.run_findKey hd hfn, hx0, hx1, hst, Go.MapKept.run_setObj_map _ h1, Result.andThen]
    · apply List.ext_getElem?
      intro a
      have h2a := congrArg (fun L => L[a]?) h2
      simp only [List.getElem?_map] at h2a
      simp only [List.getElem?_map, Array.getElem?_toList, Array.getElem?_modify, List.getElem?_set]
      by_cases ha : q = a
      · subst ha
        simp [hx0, hql]
      · simp only [if_neg ha]
        rw [← h2a, Array.getElem?_toList]
end
section
variable {κ β : Type} [DecidableEq κ]
def getT : List (κ × β) → κ → Option β
  | [], _ => none
  | p :: l, k => if p.1 = k then some p.2 else getT l k
def putT : List (κ × β) → κ → β → List (κ × β)
  | [], k, x => [(k, x)]
  | p :: l, k, x => if p.1 = k then (k, x) :: l else p :: putT l k x
def vmap (f : β → Value) (l : List (κ × β)) : List (κ × Value) := l.map fun p => (p.1, f p.2)
theorem kget_vmap (f : β → Value) (k : κ) : ∀ l : List (κ × β), kget (vmap f l) k = (getT l k).map f
  | [] => rfl
  | p :: l => by
    have h := kget_vmap f k l
    unfold kget at h ⊢
    rw [vmap, List.map_cons, kfind, getT]
    split
    · rfl
    · rw [kfind_add, Option.map_map]
      exact h
theorem kget_some (f : β → Value) (k : κ) (l : List (κ × β)) : (kget (vmap f l) k).isSome = (getT l k).isSome := by rw [kget_vmap, Option.isSome_map]
theorem kget_D (f : β → Value) (k : κ) (l : List (κ × β)) (x : β) : (kget (vmap f l) k).getD (f x) = f ((getT l k).getD x) := by
  rw [kget_vmap]
  cases getT l k <;> rfl
def nI (n : Nat) : Value := .int .i64 ((n : Nat) : Int)
theorem kputK_cons (p : κ × Value) (l : List (κ × Value)) (k : κ) (v : Value) : kputK (p :: l) k v = if p.1 = k then (k, v) :: l else p :: kputK l k v := by
  unfold kputK
  by_cases hp : p.1 = k
  · have e : kfind k (p :: l) 0 = some (0, p.2) := by rw [kfind, if_pos hp]
    rw [e, if_pos hp]; rfl
  · have e : kfind k (p :: l) 0 = (kfind k l 0).map (fun q => (0 + 1 + q.1, q.2)) := by rw [kfind, if_neg hp, kfind_add]
    rw [e, if_neg hp]
    cases kfind k l 0 with
    | none => rfl
    | some q =>
      show (p :: l).set (0 + 1 + q.1) (k, v) = p :: l.set q.1 (k, v)
      rw [show 0 + 1 + q.1 = q.1 + 1 from by omega]; rfl
theorem kputK_vmap (f : β → Value) (k : κ) (x : β) : ∀ l : List (κ × β), kputK (vmap f l) k (f x) = vmap f (putT l k x)
  | [] => rfl
  | p :: l => by
    have h := kputK_vmap f k x l
    rw [vmap, List.map_cons, kputK_cons, putT]
    simp only
    split
    · rfl
    · rw [show l.map (fun p => (p.1, f p.2)) = vmap f l from rfl, h]; rfl
theorem getT_put (k k' : κ) (x : β) : ∀ l : List (κ × β), getT (putT l k x) k' = if k = k' then some x else getT l k'
  | [] => by rw [putT, getT]; rfl
  | p :: l => by
    have h := getT_put k k' x l
    rw [putT]
    split
    · rename_i hp
      rw [getT, getT, hp]
      split <;> rfl
    · rename_i hp
      rw [getT, getT, h]
      by_cases h1 : p.1 = k'
      · rw [if_pos h1, if_pos h1, if_neg (fun e => hp (h1.trans e.symm))]
      · rw [if_neg h1, if_neg h1]
end
end Go.SW
/- The calculus of SW: maps from ints that the call owns, with their stamps. Plain theorems. -/
set_option linter.unusedVariables false
set_option linter.unusedSimpArgs false
set_option maxRecDepth 100000
namespace Go.SW
open Go Go.RowKit Go.MapKept
abbrev IEs := List (Int × Value)
def Own.imap (g : Nat) (l : IEs) : Own where
  blks := [g]
  at' w := ∃ es clock, w.heap[g]? = some (.map es clock) ∧ es.toList.map (fun e => (e.key, e.val)) = l.map (fun p => (intK .i64 p.1, p.2)) ∧ Stamped es clock
  lt' w h b hb := by
    simp only [List.mem_singleton] at hb
    subst hb
    obtain ⟨es, c, h1, _⟩ := h
    exact (Array.getElem?_eq_some_iff.1 h1).1
  kept' w w' h hk := by
    obtain ⟨es, c, h1, h2⟩ := h
    exact ⟨es, c, (hk g (by simp)).trans h1, h2⟩
section
variable {P : Program} {n : Sh} {ops : Array Oper} {Q : Exit → Act → World → Prop} {i : Nat} {fr : Fr} {w w0 : World} {z : Zone} {F : List Nat} {os : List Own}
variable {K : Fr → World → Prop} {d : Option Tmp} {ty : TypeId} {pos : String} {aft : Array Edge} {g : Option (Nat × Bool)}
theorem Hp.im_at (hH : Hp w0 w z F os) (j : Nat) {m : Nat} {l : IEs} (hk : os[j]? = some (.imap m l)) :
    ∃ es clock, w.heap[m]? = some (.map es clock) ∧ es.toList.map (fun e => (e.key, e.val)) = l.map (fun p => (intK .i64 p.1, p.2)) ∧ Stamped es clock := hH.own _ (List.mem_of_getElem? hk)
theorem Hp.im_set (hH : Hp w0 w z F os) (j : Nat) {m : Nat} {l l' : IEs} (hk : os[j]? = some (.imap m l)) {es : Array MapEntry} {clock : Nat} (he : es.toList.map (fun e => (e.key, e.val)) = l'.map (fun p => (intK .i64 p.1, p.2))) (hs : Stamped es clock) :
    Hp w0 { w with heap := w.heap.setIfInBounds m (.map es clock) } z F (os.set j (.imap m l')) := by
  obtain ⟨es0, c0, h1, _⟩ := hH.im_at j hk
  refine hH.turn j hk (some m) (fun g e => by cases e; simp [Own.imap]) ⟨rfl, rfl, rfl, by simp, fun k _ hk => (Go.MapKept.heap_set h1).2 k (fun e => hk (by rw [e]))⟩ ⟨es, clock, (Go.MapKept.heap_set h1).1, he, hs⟩ (fun g hg => .inl hg) (by simp [Own.imap])
theorem st_makeIm {t : TypeId} (hi : ops[i]? = some ⟨d, .makeMap t none, ty, pos, aft, g⟩) (hg : guardV ops fr ⟨d, .makeMap t none, ty, pos, aft, g⟩ = some true) (hs : (dok n d && knowns fr (.makeMap t none) && true) = true)
    (hH : Hp w0 w z F os) (h : ∀ b w', Hp w0 w' z F (os ++ [.imap b []]) → K (pf fr d (.map (some b))) w') : ST P n ops Q i K fr w := by
  refine st_run hi hg hs (.map (some w.heap.size)) (w.alloc (.map #[] 0)) ?_ (h w.heap.size _ (hH.call ?_))
  · simp [execOp, Instr.makeMap, newObj, Sem.run, Result.andThen]
  · refine ⟨rfl, rfl, rfl, by simp, fun k hk _ => Below.heap_alloc _ _ _ hk, fun a v h => by simp at h, ?_, by simp [blksOf, Own.imap], ?_⟩
    · intro o ho
      simp only [List.mem_singleton] at ho
      subst ho
      exact ⟨#[], 0, heap_alloc_new w _, by simp, stamped_empty 0⟩
    · intro g hg
      simp only [blksOf, List.flatMap_cons, Own.imap, List.flatMap_nil, List.append_nil, List.mem_singleton] at hg
      exact ⟨.inl (by omega), fun _ _ => rfl⟩
theorem run_imget {t kt e : TypeId} (j : Nat) (ht : mapT P t = some (kt, e)) (hd : P.underlying kt = some (.int .i64)) {zv : Value} (hz : zeroT P e = some zv) (hH : Hp w0 w z F os) {m : Nat} {l : IEs} (hk : os[j]? = some (.imap m l)) (k : Int) :
    (Instr.lookup t (.map (some m)) (intK .i64 k) false).run P w = .ok ((kget l k).getD zv) w := by
  obtain ⟨es, c, h1, h2, _⟩ := hH.im_at j hk
  obtain ⟨inf, z1, z2⟩ := Option.bind_eq_some_iff.1 hz
  have hfn := findNow_map (intK_key .i64) k es.toList l 0 h2
  unfold kget
  cases hkf : kfind k l 0 with
  | none =>
    rw [hkf] at hfn
    simp [Instr.lookup, run_underlying (underlying_of_map ht), Go.MapKept.run_getObj_map h1, Go.MapKept.run_checkKey hd ((intK_key .i64).key k), Go.MapKept.run_findKey hd hfn, zeroValue, typeInfo, z1, z2, Result.andThen]
  | some p =>
    rw [hkf] at hfn
    simp [Instr.lookup, run_underlying (underlying_of_map ht), Go.MapKept.run_getObj_map h1, Go.MapKept.run_checkKey hd ((intK_key .i64).key k), Go.MapKept.run_findKey hd hfn, Result.andThen]
theorem rd_imget {t kt e : TypeId} {x y : Operand} (j : Nat) (ht : mapT P t = some (kt, e)) (hd : P.underlying kt = some (.int .i64)) {zv : Value} (hz : zeroT P e = some zv) (hH : Hp w0 w z F os) {m : Nat} {l : IEs} (hk : os[j]? = some (.imap m l)) (hx : ev fr x = .map (some m)) (k : Int) (hy : ev fr y = .int .i64 k) :
    Runs P fr ⟨d, .lookup t x y false, ty, pos, aft, g⟩ ((kget l k).getD zv) w := by
  have hr := run_imget (P := P) j ht hd hz hH hk k
  unfold intK at hr
  simp [Runs, execOp, hx, hy, hr, Result.andThen]
theorem st_imput {t kt e : TypeId} {x y u : Operand} (j : Nat) (hi : ops[i]? = some ⟨d, .mapUpdate t x y u, ty, pos, aft, g⟩) (hg : guardV ops fr ⟨d, .mapUpdate t x y u, ty, pos, aft, g⟩ = some true) (hs : (dok n d && knowns fr (.mapUpdate t x y u) && true) = true)
    (ht : mapT P t = some (kt, e)) (hd : P.underlying kt = some (.int .i64)) (hH : Hp w0 w z F os) {m : Nat} {l : IEs} (hk : os[j]? = some (.imap m l)) (hx : ev fr x = .map (some m)) (k : Int) (hy : ev fr y = .int .i64 k) {v : Value} (hv : ev fr u = v)
    (h : ∀ w', Hp w0 w' z F (os.set j (.imap m (kputK l k v))) → K (pf fr d undef) w') : ST P n ops Q i K fr w := by
  obtain ⟨es, c, h1, h2, h3⟩ := hH.im_at j hk
  have hfn := findNow_map (intK_key .i64) k es.toList l 0 h2
  have hck := Go.MapKept.run_checkKey (P := P) (w := w) hd ((intK_key .i64).key k)
  unfold kputK at h
  cases hkf : kfind k l 0 with
  | none =>
    rw [hkf] at hfn h
    have hfk := Go.MapKept.run_findKey (P := P) (w := w) hd hfn
    unfold intK at hck hfk
    refine st_run0 hi hg hs { w with heap := w.heap.setIfInBounds m (.map (es.push ⟨intK .i64 k, v, c⟩) (c + 1)) } ?_ (h _ (hH.im_set j hk ?_ ?_))
    · simp [execOp, hx, hy, hv, Instr.mapUpdate, run_underlying (underlying_of_map ht), Go.MapKept.run_getObj_map h1, hck, hfk, Go.MapKept.run_setObj_map _ h1, Result.andThen, intK]
    · simp [h2]
    · refine stamped_push h3 (fun x hx he => ?_)
      have hx2 : (x.key, x.val) ∈ l.map (fun p => (intK .i64 p.1, p.2)) := by rw [← h2]; exact List.mem_map.2 ⟨x, hx, rfl⟩
      obtain ⟨p, hp, e⟩ := List.mem_map.1 hx2
      have hpk : p.1 = k := (intK_key .i64).inj _ _ (by rw [← he]; exact congrArg Prod.fst e)
      have : ∀ (l : IEs) (i : Nat), kfind k l i = none → ∀ p ∈ l, p.1 ≠ k := by
        intro l
        induction l with
        | nil => intro i _ p hp; simp at hp
        | cons a l ih =>
          intro i hn p hp
          unfold kfind at hn
          by_cases ha : a.1 = k
          · rw [if_pos ha] at hn; cases hn
          · rw [if_neg ha] at hn
            rcases List.mem_cons.1 hp with rfl | hp
            · exact ha
            · exact ih (i + 1) hn p hp
      exact this l 0 hkf p hp hpk
  | some q =>
    obtain ⟨q, u0⟩ := q
    rw [hkf] at hfn h
    have hfk := Go.MapKept.run_findKey (P := P) (w := w) hd hfn
    unfold intK at hck hfk
    obtain ⟨jj, e0, p, e1, e2⟩ := kfind_keyK k l 0 q u0 hkf
    have e0' : q = jj := by omega
    subst e0'
    have hql : q < l.length := (List.getElem?_eq_some_iff.1 e1).1
    obtain ⟨x0, hx0, hx1⟩ : ∃ x0, es[q]? = some x0 ∧ x0.key = intK .i64 k := by
      have h2a := congrArg (fun L => L[q]?) h2
      simp only [List.getElem?_map, e1, Option.map_some] at h2a
      obtain ⟨x0, h4, h5⟩ := Option.map_eq_some_iff.1 h2a
      exact ⟨x0, by simpa using h4, by rw [show x0.key = intK .i64 p.1 from congrArg Prod.fst h5, e2]⟩
    have hst := Go.MapKept.run_keyThatStays (P := P) (w := w) ((intK_key .i64).key k)
    unfold intK at hst hx1
    refine st_run0 hi hg hs { w with heap := w.heap.setIfInBounds m (.map (es.modify q fun e => { e with key := intK .i64 k, val := v }) c) } ?_ (h _ (hH.im_set j hk ?_ ?_))
    · simp [execOp, hx, hy, hv, Instr.mapUpdate, run_underlying (underlying_of_map ht), Go.MapKept.run_getObj_map h1, hck, hfk, hx0, hx1, hst, Go.MapKept.run_setObj_map _ h1, Result.andThen, intK]
    · apply List.ext_getElem?
      intro a
      have h2a := congrArg (fun L => L[a]?) h2
      simp only [List.getElem?_map] at h2a
      simp only [List.getElem?_map, Array.getElem?_toList, Array.getElem?_modify, List.getElem?_set]
      by_cases ha : q = a
      · subst ha
        simp [hx0, hql]
      · simp only [if_neg ha]
        rw [← h2a, Array.getElem?_toList]
    · refine stamped_modify h3 q _ (fun _ _ => rfl) (fun e' _ he' => ?_)
      rw [hx0] at he'; cases he'
      exact hx1.symm
end
end Go.SW
/- The calculus of SW: pointers against nil, errors against errors, strings in order. Plain theorems. -/
set_option linter.unusedVariables false
set_option linter.unusedSimpArgs false
set_option maxRecDepth 100000
namespace Go.SW
open Go Go.RowKit
section
variable {P : Program} {n : Sh} {ops : Array Oper} {Q : Exit → Act → World → Prop} {i : Nat} {fr : Fr} {w w0 : World} {z : Zone} {F : List Nat} {os : List Own}
variable {K : Fr → World → Prop} {d : Option Tmp} {ty : TypeId} {pos : String} {aft : Array Edge} {g : Option (Nat × Bool)}
def PNil (v : Value) (b : Bool) : Prop := v = .pointer none ∧ b = true ∨ ∃ a, v = .pointer (some a) ∧ b = false
def ptrT (P : Program) (t : TypeId) : Bool := match P.underlying t with | some (.pointer _) => true | _ => false
theorem run_eqp0 (k : Nat) {t D : TypeId} (hu : P.underlying t = some (.pointer D)) : (Op.equalIn (k + 1) t (.pointer none) (.pointer none)).run P w = .ok true w := by
  simp [Op.equalIn, run_underlying hu]
theorem run_eqp1 (k : Nat) {t D : TypeId} {a : Addr} (hu : P.underlying t = some (.pointer D)) : (Op.equalIn (k + 1) t (.pointer (some a)) (.pointer none)).run P w = .ok false w := by
  simp [Op.equalIn, run_underlying hu]
theorem run_pnil {t : TypeId} (ht : ptrT P t = true) {v : Value} {b : Bool} (hv : PNil v b) : (Op.equal t v (.pointer none)).run P w = .ok b w := by
  unfold ptrT at ht
  cases hu : P.underlying t with
  | none => simp [hu] at ht
  | some D =>
    cases D with
    | pointer D =>
      unfold Op.equal Op.maxDepth
      rcases hv with ⟨rfl, rfl⟩ | ⟨a, rfl, rfl⟩
      · exact run_eqp0 9999 hu
      · exact run_eqp1 9999 hu
    | _ => simp [hu] at ht
theorem rd_pnil_eql {t t2 : TypeId} {x y : Operand} (ht : ptrT P t = true) {v : Value} {b : Bool} (hx : ev fr x = v) (hy : ev fr y = .pointer none) (hv : PNil v b) : Runs P fr ⟨d, .binOp .eql t x y t2, ty, pos, aft, g⟩ (.bool b) w := by
  have hr := run_pnil (P := P) (w := w) ht hv
  have hg : (eqGuard .eql t x y v (.pointer none)).run P w = .ok () w := by rcases hv with ⟨rfl, _⟩ | ⟨a, rfl, _⟩ <;> simp [eqGuard]
  have hb : binOp .eql t v (.pointer none) = (do pure (.bool (← Op.equal t v (.pointer none)))) := by rcases hv with ⟨rfl, _⟩ | ⟨a, rfl, _⟩ <;> rfl
  unfold Runs
  simp only [execOp, hx, hy, Sem.run_bind, hg, Result.andThen_ok, hb, hr, Sem.run_pure]
theorem st_q {o : Oper} (hi : ops[i]? = some o) (hg : guardV ops fr o = some true) (hs : (dok n o.dst && knowns fr o.op && noSel o.op) = true) {v : Value} (hr : Runs P fr o v w) (h : K (pf fr o.dst v) w) : ST P n ops Q i K fr w := st_run hi hg hs v w hr h
section
variable {S : World → Prop} {k : Nat} {listed : Array Bool}
theorem gd_stl (l : List Nat) (hn : l ≠ []) (hr : (Region.ready .any ops listed == l) = true) (h : ∀ i ∈ l, ST P n ops Q i (fun fr' w' => S w' ∧ GD P n ops Q S k (listed.setIfInBounds i true) fr' w') fr w) : GD P n ops Q S (k + 1) listed fr w := by
  intro a ha
  refine wpAnyH_all (beq_iff_eq.1 hr) hn fun j hj => ?_
  obtain ⟨o, ho, hw⟩ := h j hj a ha (fun a' w' => S w' ∧ wpAnyH P .any ops Q S k (listed.setIfInBounds j true) a' w') (fun fr' w' a' hf hk => ⟨hk.1, hk.2 a' hf⟩)
  unfold wpOp
  simp only [ho]
  split
  · rename_i hc; rw [if_pos hc] at hw; exact .inl hw
  · rename_i hc; rw [if_neg hc] at hw; exact hw
theorem gd_st2 (i j : Nat) (hr : (Region.ready .any ops listed == [i, j]) = true) (h1 : ST P n ops Q i (fun fr' w' => S w' ∧ GD P n ops Q S k (listed.setIfInBounds i true) fr' w') fr w) (h2 : ST P n ops Q j (fun fr' w' => S w' ∧ GD P n ops Q S k (listed.setIfInBounds j true) fr' w') fr w) : GD P n ops Q S (k + 1) listed fr w :=
  gd_stl [i, j] (by simp) hr (fun x hx => by
    simp only [List.mem_cons, List.not_mem_nil, or_false] at hx
    rcases hx with rfl | rfl
    · exact h1
    · exact h2)
theorem gd_st3 (i j l : Nat) (hr : (Region.ready .any ops listed == [i, j, l]) = true) (h1 : ST P n ops Q i (fun fr' w' => S w' ∧ GD P n ops Q S k (listed.setIfInBounds i true) fr' w') fr w) (h2 : ST P n ops Q j (fun fr' w' => S w' ∧ GD P n ops Q S k (listed.setIfInBounds j true) fr' w') fr w)
    (h3 : ST P n ops Q l (fun fr' w' => S w' ∧ GD P n ops Q S k (listed.setIfInBounds l true) fr' w') fr w) : GD P n ops Q S (k + 1) listed fr w :=
  gd_stl [i, j, l] (by simp) hr (fun x hx => by
    simp only [List.mem_cons, List.not_mem_nil, or_false] at hx
    rcases hx with rfl | rfl | rfl
    · exact h1
    · exact h2
    · exact h3)
end
theorem cv_maxI {k : IntKind} {a b : Int} : Value.int k (if b > a then b else a) = .int k (max a b) := by
  congr 1
  split <;> omega
end
end Go.SW
/- Rows of several cells an element, told element by element. Plain theorems. -/
set_option linter.unusedVariables false
namespace Go.SW
open Go Go.RowKit
theorem flat_get {α : Type} : ∀ (L : List (List α)) (m : Nat), (∀ c ∈ L, c.length = m) → ∀ (i q : Nat) (c : List α), L[i]? = some c → q < m → L.flatten[i * m + q]? = c[q]?
  | [], m, _, i, q, c, h, _ => by simp at h
  | d :: L, m, hL, 0, q, c, h, hq => by
    simp only [List.getElem?_cons_zero, Option.some.injEq] at h
    subst h
    rw [List.flatten_cons, List.getElem?_append_left (by rw [hL d List.mem_cons_self]; omega), Nat.zero_mul, Nat.zero_add]
  | d :: L, m, hL, i + 1, q, c, h, hq => by
    rw [List.getElem?_cons_succ] at h
    have hd : d.length = m := hL d List.mem_cons_self
    have e : (i + 1) * m = i * m + m := Nat.succ_mul i m
    rw [List.flatten_cons, List.getElem?_append_right (by omega), show (i + 1) * m + q - d.length = i * m + q by omega]
    exact flat_get L m (fun c hc => hL c (List.mem_cons_of_mem _ hc)) i q c h hq
theorem flat_len {α : Type} : ∀ (L : List (List α)) (m : Nat), (∀ c ∈ L, c.length = m) → L.flatten.length = L.length * m
  | [], m, _ => by simp
  | d :: L, m, hL => by
    rw [List.flatten_cons, List.length_append, hL d List.mem_cons_self, flat_len L m (fun c hc => hL c (List.mem_cons_of_mem _ hc)), List.length_cons, Nat.succ_mul]; omega
def rowC {β : Type} (f : β → List Value) (xs : List β) : List Value := (xs.map f).flatten
theorem rowC_at {β : Type} {f : β → List Value} {m : Nat} (hf : ∀ x, (f x).length = m) {xs : List β} {k : Nat} {x : β} (hk : xs[k]? = some x) (q : Nat) (hq : q < m) {u : Value} (hu : (f x)[q]? = some u) : (rowC f xs)[k * m + q]? = some u := by
  rw [← hu]
  exact flat_get (xs.map f) m (by simp [hf]) k q (f x) (by simp [hk]) hq
theorem rowC_all {β : Type} {f : β → List Value} {m : Nat} (hf : ∀ x, (f x).length = m) {xs : List β} {k : Nat} {x : β} (hk : xs[k]? = some x) (q : Nat) (cs : List Value) (hc : ((f x).drop q).take cs.length = cs) : ∀ i u, cs[i]? = some u → q + i < m ∧ (rowC f xs)[k * m + (q + i)]? = some u := by
  intro i u hi
  have hil : i < cs.length := (List.getElem?_eq_some_iff.1 hi).1
  have h : (f x)[q + i]? = some u := by
    rw [← hc, List.getElem?_take, if_pos hil, List.getElem?_drop] at hi
    exact hi
  have hl : q + i < m := by
    have := (List.getElem?_eq_some_iff.1 h).1
    rwa [hf] at this
  exact ⟨hl, rowC_at hf hk _ hl h⟩
theorem rowC_take {β : Type} {f : β → List Value} {m : Nat} (hf : ∀ x, (f x).length = m) : ∀ (xs : List β) (k : Nat), (rowC f xs).take (k * m) = rowC f (xs.take k)
  | [], k => by simp [rowC]
  | x :: xs, 0 => by simp [rowC]
  | x :: xs, k + 1 => by
    have ih := rowC_take hf xs k
    unfold rowC at ih ⊢
    rw [List.map_cons, List.flatten_cons, List.take_succ_cons, List.map_cons, List.flatten_cons, Nat.succ_mul, List.take_append, List.take_of_length_le (by rw [hf]; omega), hf, Nat.add_sub_cancel, ih]
theorem rowC_drop {β : Type} {f : β → List Value} {m : Nat} (hf : ∀ x, (f x).length = m) : ∀ (xs : List β) (k : Nat), (rowC f xs).drop (k * m) = rowC f (xs.drop k)
  | [], k => by simp [rowC]
  | x :: xs, 0 => by simp [rowC]
  | x :: xs, k + 1 => by
    have ih := rowC_drop hf xs k
    unfold rowC at ih ⊢
    rw [List.map_cons, List.flatten_cons, List.drop_succ_cons, Nat.succ_mul, List.drop_append, List.drop_of_length_le (by rw [hf]; omega), hf, Nat.add_sub_cancel, ih, List.nil_append]
theorem rowC_app {β : Type} (f : β → List Value) (xs ys : List β) : rowC f xs ++ rowC f ys = rowC f (xs ++ ys) := by simp [rowC]
theorem rowC_one {β : Type} (f : β → List Value) (x : β) : rowC f [x] = f x := by simp [rowC]
theorem rowC_len {β : Type} {f : β → List Value} {m : Nat} (hf : ∀ x, (f x).length = m) (xs : List β) : (rowC f xs).length = xs.length * m := by
  unfold rowC
  rw [flat_len _ m (by simp [hf]), List.length_map]
theorem rowC_set {β : Type} {f : β → List Value} {m : Nat} (hf : ∀ x, (f x).length = m) {xs : List β} {k : Nat} {x : β} (hk : k < xs.length) : (rowC f xs).take (k * m) ++ f x ++ (rowC f xs).drop (k * m + (f x).length) = rowC f (xs.set k x) := by
  have e : k * m + (f x).length = (k + 1) * m := by rw [hf, Nat.succ_mul]
  rw [e, rowC_take hf, rowC_drop hf, ← rowC_one f x, rowC_app, rowC_app, List.set_eq_take_append_cons_drop, if_pos hk, List.append_assoc]
  rfl
theorem rowC_allO {β : Type} {f : β → List Value} {m : Nat} (hf : ∀ x, (f x).length = m) {xs : List β} {k : Nat} {x : β} (hk : xs[k]? = some x) (cs : List Value) (hc : (f x).take cs.length = cs) : ∀ i u, cs[i]? = some u → (rowC f xs)[k * m + i]? = some u := fun i u hi => by
  have h := (rowC_all hf hk 0 cs (by rw [List.drop_zero]; exact hc) i u hi).2
  rwa [Nat.zero_add] at h
section
variable {P : Program} {n : Sh} {ops : Array Oper} {Q : Exit → Act → World → Prop} {i : Nat} {fr : Fr} {w w0 : World} {z : Zone} {F : List Nat} {os : List Own}
variable {K : Fr → World → Prop} {d : Option Tmp} {ty : TypeId} {pos : String} {aft : Array Edge} {g : Option (Nat × Bool)}
theorem st_storeOA {t : TypeId} {x y : Operand} (k : Nat) (hi : ops[i]? = some ⟨d, .store t x y, ty, pos, aft, g⟩) (hg : guardV ops fr ⟨d, .store t x y, ty, pos, aft, g⟩ = some true) (hs : (dok n d && knowns fr (.store t x y) && true) = true)
    (hH : Hp w0 w z F os) {b o : Nat} (hx : ev fr x = .pointer (some ⟨b, o, none⟩)) {vs : List Value} (hy : (ev fr y).cells = vs.toArray) (hv : (vs.all Value.oneCell') = true) (hz : sizeT P t = some vs.length) {v : Value} {e : TypeId} {m l : Nat} {xs : List Value} (hk : os[k]? = some (.row v e m l xs)) (hb : v.ownBlock = some b) (ho : o + vs.length ≤ xs.length)
    (h : ∀ w', Hp w0 w' z F (os.set k (.row v e m l (xs.take o ++ vs ++ xs.drop (o + vs.length)))) → K (pf fr d undef) w') : ST P n ops Q i K fr w := by
  have hr := hH.row_at k hk
  rcases hr.2 with ⟨rfl, rfl⟩ | ⟨b', cap, cur, rfl, hbb, hheap, hn, hmx, hsz, htk⟩
  · simp [Value.ownBlock] at hb
  · have hb' : b' = b := by simpa [Value.ownBlock] using hb
    subst hb'
    have hl := hr.1
    have hxc : xs.length ≤ cur.size := by rw [← htk]; simp; omega
    have hrun := run_storeCells_at P b' o e vs 0 cur w hheap (by omega) (by simpa [List.all_eq_true] using hv)
    refine st_run0 hi hg hs (w.setRow b' (cur.toList.take (o + 0) ++ vs ++ cur.toList.drop (o + 0 + vs.length)).toArray) ?_ (h _ ?_)
    · simp [execOp, hx, Instr.storeAt, Instr.sureAddr, storeVar, run_sizeOf_of hz, hy, hrun, Result.andThen]
    · refine hH.turn k hk (some b') (fun g e => by cases e; simp [Own.row, Value.ownBlock]) ⟨rfl, rfl, rfl, by simp [World.setRow], fun j _ hj => ?_⟩ ⟨?_, .inr ⟨b', cap, _, rfl, hbb, setRow_heap w b' cur _ e (0, 0) hheap, hn, hmx, ?_, ?_⟩⟩ (fun g hg => .inl hg) (by simp [Own.row, Value.ownBlock])
      · have : b' ≠ j := fun e => hj (by rw [e])
        simp [World.setRow, Array.getElem?_modify, this]
      · simp; omega
      · simp; omega
      · simp only [Nat.add_zero]
        have hx2 : xs = cur.toList.take (l * m) := htk.symm
        apply List.ext_getElem?
        intro j
        rw [List.getElem?_take]
        by_cases hj : j < l * m
        · rw [if_pos hj]
          simp only [List.getElem?_append, List.length_append, List.length_take, List.getElem?_take, List.getElem?_drop, Array.length_toList, List.toList_toArray]
          have e1 : min o cur.size = o := by omega
          have e2 : min o xs.length = o := by omega
          rw [e1, e2]
          by_cases h1 : j < o + vs.length
          · rw [if_pos h1, if_pos h1]
            by_cases h2 : j < o
            · rw [if_pos h2, if_pos h2, if_pos h2, if_pos h2, hx2, List.getElem?_take, if_pos hj]
            · rw [if_neg h2, if_neg h2]
          · rw [if_neg h1, if_neg h1, hx2, List.getElem?_take, if_pos (by omega)]
        · rw [if_neg hj, List.getElem?_eq_none]
          simp; omega
end
end Go.SW
/- The calculus of SW: rows of the call's own, read beside a call that turns others. Plain theorems. -/
set_option linter.unusedVariables false
set_option linter.unusedSimpArgs false
set_option maxRecDepth 100000
namespace Go.SW
open Go Go.RowKit
section
variable {w w0 : World} {z : Zone} {F : List Nat} {mine os : List Own}
end
end Go.SW
/- The calculus of SW: functions that may panic; what is put off. Plain theorems. -/
set_option linter.unusedVariables false
set_option linter.unusedSimpArgs false
set_option maxRecDepth 100000
namespace Go.SW
open Go Go.RowKit
def RP (Post : Value → World → Prop) (Pan : List PanicEntry → World → Prop) : Ending → World → Prop
  | .returned v, w => Post v w
  | .panicked ch, w => Pan ch w
  | .outgrown, _ => False
def FunP (P : Program) (f : FuncId) (args : List Value) (w : World) (Post : Value → World → Prop) (Pan : List PanicEntry → World → Prop) : Prop := Calls P f args.toArray w (RP Post Pan)
theorem FunP.mono {P : Program} {f : FuncId} {args : List Value} {w : World} {Post Post' : Value → World → Prop} {Pan Pan' : List PanicEntry → World → Prop} (h : FunP P f args w Post Pan) (hp : ∀ v w', Post v w' → Post' v w') (hq : ∀ c w', Pan c w' → Pan' c w') : FunP P f args w Post' Pan' :=
  Calls.mono h fun e w' he => by
    cases e with
    | returned v => exact hp v w' he
    | panicked c => exact hq c w' he
    | outgrown => exact he
theorem FunP.fun {P : Program} {f : FuncId} {args : List Value} {w : World} {Post : Value → World → Prop} (h : FunP P f args w Post fun _ _ => False) : Fun P f args w Post :=
  Calls.mono h fun e w' he => by
    cases e with
    | returned v => exact ⟨v, rfl, he⟩
    | panicked c => exact he.elim
    | outgrown => exact he.elim
section
variable {P : Program} {n : Sh} {ops : Array Oper} {Q : Exit → Act → World → Prop} {i : Nat} {fr : Fr} {w w0 : World} {z : Zone} {F : List Nat} {os : List Own}
variable {K : Fr → World → Prop} {d : Option Tmp} {ty : TypeId} {pos : String} {aft : Array Edge} {g : Option (Nat × Bool)}
/-- From a panic to the function's end. -/
class UX (Q : Exit → Act → World → Prop) (R : outParam (List PanicEntry → World → Prop)) : Prop where
  of : ∀ ch a w, a.defers = [] → R ch w → Q (.panic ch) a w
instance UX.th {Z : Act → World → Prop} {R : List PanicEntry → World → Prop} [h : UX Q R] : UX (Exit.then Z Q) R := ⟨h.of⟩
instance UX.bk {id : Nat} {R : List PanicEntry → World → Prop} [h : UX Q R] : UX (Exit.inBlock id Q) R := ⟨h.of⟩
instance UX.body {fn : Func} {Post : Value → World → Prop} {Pan : List PanicEntry → World → Prop} : UX (bodyPost P fn (RP Post Pan)) Pan := ⟨fun _ _ _ h1 h2 => ⟨h1, h2⟩⟩
theorem funP_of_sw {f : FuncId} {fn : Func} {c : Code} {args : List Value} {Post : Value → World → Prop} {Pan : List PanicEntry → World → Prop} (hf : P.funcs[f]? = some fn) (hb : fn.body = some c) (n : Nat) (hn : fn.ntmps = n) (hl : Nat.ble args.length n = true)
    (h : SW P ⟨n, [], []⟩ c (bodyPost P fn (RP Post Pan)) (ent 0 args) w) : FunP P f args w Post Pan := by
  refine calls_of_wp hf hb (h _ ⟨?_, rfl, fun i v hv => ?_⟩)
  · have := Nat.le_of_ble_eq_true hl
    simp [hn]; omega
  · obtain ⟨h1, h2⟩ := gt_ent args 0 i v hv
    simp only [Nat.sub_zero] at h2
    have hlt : i < args.length := (List.getElem?_eq_some_iff.1 h2).1
    simp only [Array.getD_eq_getD_getElem?]
    rw [Array.getElem?_append_left (by simpa using hlt)]
    simp [h2]
theorem retP1 {fn : Func} {Post : Value → World → Prop} {Pan : List PanicEntry → World → Prop} {t : Tmp} {v : Value} (hr : fn.results = #[.tmp t]) (hv : gt fr t = some v) (h : Post v w) (hn : n.ds = [] := by kernel_rfl) : At n (bodyPost P fn (RP Post Pan)) .ret fr w :=
  fun a ha => ⟨ha.dfs.trans hn, _, results_tmp hr _ _ _, by rw [ha.get t v hv]; exact h⟩
theorem Rp1 {fn : Func} {Post : Value → World → Prop} {Pan : List PanicEntry → World → Prop} [UR Q (bodyPost P fn (RP Post Pan))] {t : Tmp} {v : Value} (hr : fn.results = #[.tmp t]) (hv : gt fr t = some v) (h : Post v w) (hn : n.ds = [] := by kernel_rfl) : SW P n .ret Q fr w := ur (retP1 hr hv h hn)
theorem Sp {f : FuncId} {ags : Array Operand} {tys : Array TypeId} (hi : ops[i]? = some ⟨d, .call ⟨.value (.func f), ags, tys⟩, ty, pos, aft, g⟩) {args : List Value} (ha : ags.toList.map (ev fr) = args) {Post : Value → World → Prop} {Pan : List PanicEntry → World → Prop} (hf : FunP P f args w Post Pan)
    {R : List PanicEntry → World → Prop} [UX Q R] (h : ∀ v w', Post v w' → K (pf fr d v) w') (hp : ∀ c w', Pan c w' → R c w') (hn : n.ds = [] := by kernel_rfl)
    (hg : guardV ops fr ⟨d, .call ⟨.value (.func f), ags, tys⟩, ty, pos, aft, g⟩ = some true := by kernel_rfl) (hs : (dok n d && ags.toList.all (kn fr)) = true := by kernel_rfl) (hc : callable P f = true := by kernel_rfl) : ST P n ops Q i K fr w := by
  rename_i hX
  simp only [Bool.and_eq_true] at hs
  refine st_step hi hg fun a hfit K' hK => ?_
  unfold Oper.wp
  rw [hfit.exec (by simp only [knowns, Op.operands, Call.operands, Array.toList_append, List.all_append, hs.2, Bool.and_true]; rfl) rfl]
  have hr : (execOp (ev fr) ⟨d, .call ⟨.value (.func f), ags, tys⟩, ty, pos, aft, g⟩).run P w = .ok (.enter f args.toArray) w := by
    have hm : ags.map (ev fr) = args.toArray := by rw [← ha]; apply Array.ext'; simp
    simp only [execOp, resolve, Deferred.ofValue, ev, invoke, Sem.run_bind, Sem.run_pure, Result.andThen_ok]
    rw [show (#[] : Array Value) ++ ags.map (ev fr) ++ #[] = args.toArray from by rw [hm]; simp]
    exact run_callFunc_of hc _ w
  rw [hr]
  simp only [Oper.upon]
  refine Calls.mono hf ?_
  intro e w' he
  cases e with
  | returned v => exact hK _ _ _ (hfit.put hs.1 v) (h v w' he)
  | panicked c => exact hX.of _ _ _ (hfit.dfs.trans hn) (hp c w' he)
  | outgrown => exact he.elim
theorem st_panic {o : Oper} {v : Value} (hi : ops[i]? = some o) {R : List PanicEntry → World → Prop} [hX : UX Q R] (hr : (execOp (ev fr) o).run P w = .halt (.panic v) w) (h : R [{ v, recovered := false }] w) (hn : n.ds = [] := by kernel_rfl) (hg : guardV ops fr o = some true := by kernel_rfl) (hs : (knowns fr o.op && noSel o.op) = true := by kernel_rfl) : ST P n ops Q i K fr w := by
  simp only [Bool.and_eq_true] at hs
  refine st_step hi hg fun a hfit K' hK => ?_
  unfold Oper.wp
  rw [hfit.exec hs.1 hs.2, hr]
  simp only [Oper.upon]
  exact hX.of _ _ _ (hfit.dfs.trans hn) h
theorem Pn {x : Operand} (hi : ops[i]? = some ⟨d, .panic x, ty, pos, aft, g⟩) {k : TypeId} {v : Value} (hx : ev fr x = .iface k v) {R : List PanicEntry → World → Prop} [hX : UX Q R] (h : R [{ v := .iface k v, recovered := false }] w) (hn : n.ds = [] := by kernel_rfl) (hg : guardV ops fr ⟨d, .panic x, ty, pos, aft, g⟩ = some true := by kernel_rfl) (hs : (knowns fr (.panic x) && noSel (.panic x)) = true := by kernel_rfl) : ST P n ops Q i K fr w :=
  st_panic hi (v := .iface k v) (by simp only [execOp, hx]; rfl) h hn hg hs
theorem retPC1 {fn : Func} {Post : Value → World → Prop} {Pan : List PanicEntry → World → Prop} {r : ResultVar} {v : Value} (hr : fn.results = #[r]) (h1 : RS P n fr w r v) (h : Post v w) (hn : n.ds = [] := by kernel_rfl) : At n (bodyPost P fn (RP Post Pan)) .ret fr w :=
  fun a ha => ⟨ha.dfs.trans hn, _, by rw [results_of, hr]; simp [h1 a ha], h⟩
theorem retPC2 {fn : Func} {Post : Value → World → Prop} {Pan : List PanicEntry → World → Prop} {r1 r2 : ResultVar} {v1 v2 : Value} (hr : fn.results = #[r1, r2]) (h1 : RS P n fr w r1 v1) (h2 : RS P n fr w r2 v2) (h : Post (.tuple #[v1, v2]) w) (hn : n.ds = [] := by kernel_rfl) : At n (bodyPost P fn (RP Post Pan)) .ret fr w :=
  fun a ha => ⟨ha.dfs.trans hn, _, by rw [results_of, hr]; simp [h1 a ha, h2 a ha], h⟩
theorem gl_defer {o : Oper} {dd : Deferred} (hi : ops[i]? = some o) (hr : (execOp (ev fr) o).run P w = .ok (.defer dd) w) (h : GL P ⟨n.n, dd :: n.ds, n.ks⟩ ops Q (i + 1) (pf fr o.dst undef) w) (hg : guardV ops fr o = some true := by kernel_rfl) (hs : (dok n o.dst && knowns fr o.op && noSel o.op) = true := by kernel_rfl) : GL P n ops Q i fr w := by
  simp only [Bool.and_eq_true] at hs
  intro a ha
  rw [drop_at hi]
  refine wpList_step fun K hK => ?_
  rw [if_pos (by rw [guard_wanted hg ha])]
  unfold Oper.wp
  rw [ha.exec hs.1.2 hs.2, hr]
  simp only [Oper.upon]
  refine hK _ _ (h _ ?_)
  have h1 : Fits ⟨n.n, dd :: n.ds, n.ks⟩ fr { a with defers := dd :: a.defers } := ⟨ha.size, by simp only; rw [ha.dfs], ha.get⟩
  exact h1.put (n := ⟨n.n, dd :: n.ds, n.ks⟩) hs.1.1 undef
theorem Hp.zsub (h : Hp w0 w z F os) {c : Zone} (hc : c.le z) : Hp w0 w c F os :=
  ⟨h.os_, h.tape, h.output, h.size, h.keep, fun a v e => h.zin a v (hc a v e), h.own, h.nodup, fun g hg => ⟨(h.new g hg).1, fun off sp => by
    cases e : c ⟨g, off, sp⟩ with
    | none => rfl
    | some v => have h1 := hc _ _ e; rw [(h.new g hg).2] at h1; cases h1⟩⟩
end
end Go.SW
