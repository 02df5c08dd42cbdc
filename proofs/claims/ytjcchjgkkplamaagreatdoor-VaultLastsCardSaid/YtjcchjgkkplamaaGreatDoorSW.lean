/- A small calculus over the walk's rules: a frame is told by the slots that are still wanted ('Fr'), an operation by its place in its region. Plain theorems. -/
import Derived.WalkKit
import Derived.OrdersHeld
set_option linter.unusedVariables false
set_option linter.unusedSimpArgs false
set_option maxRecDepth 100000
namespace Go.SW
open Go

/-! ### 1. Runs that touch nothing -/
def sp (P : Program) {α : Type} : Sem α → Option α
  | .pure a => some a
  | .program k => sp P (k P)
  | .mark _ k => sp P k
  | _ => none
theorem sp_run {P : Program} {α : Type} : ∀ {s : Sem α} {a : α}, sp P s = some a → ∀ w, s.run P w = .ok a w := by
  intro s
  induction s with
  | pure b => intro a h w; simp only [sp, Option.some.injEq] at h; subst h; rfl
  | program k ih => intro a h w; simp only [sp] at h; exact ih P h w
  | mark m k ih => intro a h w; simp only [sp] at h; exact ih h w
  | _ => intro a h; simp [sp] at h

/-! ### 2. Frames -/
abbrev Fr := List (Nat × Value)
/-- Short for a pointer, a whole number. -/
abbrev Pp (b o : Nat) : Value := .pointer (some ⟨b, o, none⟩)
abbrev Ni (k : Nat) : Value := .int .i64 ((k : Nat) : Int)
def gt : Fr → Nat → Option Value
  | [], _ => none
  | (j, v) :: r, i => bif Nat.beq j i then some v else gt r i
def ev (fr : Fr) : Operand → Value
  | .tmp t => (gt fr t).getD undef
  | .const v => v
  | .global g => .pointer (some ⟨g, 0, none⟩)
  | .func f => .func (.func f) #[] #[]
def kn (fr : Fr) : Operand → Bool
  | .tmp t => (gt fr t).isSome
  | _ => true
def knowns (fr : Fr) (op : Op) : Bool := op.operands.toList.all (kn fr)
def rm : Fr → Nat → Fr
  | [], _ => []
  | (j, v) :: r, i => bif Nat.beq j i then rm r i else (j, v) :: rm r i
def pf (fr : Fr) : Option Tmp → Value → Fr
  | some d, v => (d, v) :: rm fr d
  | none, _ => fr
def dok (n : Nat) : Option Tmp → Bool
  | some d => Nat.blt d n
  | none => true

theorem gt_cons (j : Nat) (v : Value) (r : Fr) (i : Nat) : gt ((j, v) :: r) i = if j = i then some v else gt r i := by
  simp only [gt]
  by_cases h : j = i
  · simp [h]
  · have : Nat.beq j i = false := by rw [← Bool.not_eq_true, Nat.beq_eq]; exact h
    simp [this, h]
theorem gt_rm (fr : Fr) (d i : Nat) : gt (rm fr d) i = if d = i then none else gt fr i := by
  induction fr with
  | nil => simp [rm, gt]
  | cons p r ih =>
    obtain ⟨j, v⟩ := p
    simp only [rm]
    by_cases h : j = d
    · subst h
      simp only [Nat.beq_eq_true_eq, Nat.beq_refl, cond_true, ih, gt_cons]
      by_cases h2 : j = i <;> simp [h2]
    · have hb : Nat.beq j d = false := by rw [← Bool.not_eq_true, Nat.beq_eq]; exact h
      simp only [hb, cond_false, gt_cons, ih]
      by_cases h2 : j = i
      · subst h2; simp [Ne.symm h]
      · simp [h2]

structure Fits (n : Nat) (fr : Fr) (a : Act) : Prop where
  size : a.tmps.size = n
  dfs : a.defers = []
  get : ∀ i v, gt fr i = some v → a.tmps.getD i undef = v

theorem Fits.eval {n : Nat} {fr : Fr} {a : Act} (h : Fits n fr a) {x : Operand} (hk : kn fr x = true) : a.eval x = ev fr x := by
  cases x with
  | tmp t =>
    simp only [kn, Option.isSome_iff_exists] at hk
    obtain ⟨v, hv⟩ := hk
    simp [Act.eval, ev, hv, h.get t v hv]
  | _ => rfl
theorem Fits.put {n : Nat} {fr : Fr} {a : Act} (h : Fits n fr a) {d : Option Tmp} (hd : dok n d = true) (v : Value) : Fits n (pf fr d v) (a.put d v) := by
  cases d with
  | none => exact h
  | some d =>
    have hd' : d < n := by simp only [dok] at hd; rwa [Nat.blt_eq] at hd
    refine ⟨by simp [Act.put, h.size], h.dfs, fun i u hu => ?_⟩
    simp only [pf, gt_cons, gt_rm] at hu
    simp only [Act.put]
    by_cases hi : d = i
    · subst hi
      simp only [if_true, Option.some.injEq] at hu
      subst hu
      simp [Array.getD_eq_getD_getElem?, h.size, hd']
    · simp only [hi, if_false] at hu
      have := h.get i u hu
      rw [Array.getD_eq_getD_getElem?] at this ⊢
      rw [Array.getElem?_setIfInBounds_ne hi]
      exact this
/-- What is forgotten is forgotten. -/
def Sub (fr' fr : Fr) : Prop := ∀ i v, gt fr' i = some v → gt fr i = some v
theorem Fits.sub {n : Nat} {fr fr' : Fr} {a : Act} (h : Fits n fr a) (hs : Sub fr' fr) : Fits n fr' a := ⟨h.size, h.dfs, fun i v hv => h.get i v (hs i v hv)⟩
def sees (fr : Fr) : Fr → Prop
  | [] => True
  | (i, v) :: r => gt fr i = some v ∧ sees fr r
theorem Sub.of_sees {fr : Fr} : ∀ {fr' : Fr}, sees fr fr' → Sub fr' fr
  | [], _ => fun i v h => by simp [gt] at h
  | (j, u) :: r, h => fun i v hv => by
    rw [gt_cons] at hv
    by_cases hj : j = i
    · subst hj
      simp only [if_true, Option.some.injEq] at hv
      subst hv
      exact h.1
    · simp only [hj, if_false] at hv
      exact Sub.of_sees h.2 i v hv
theorem Sub.of_eq {fr fr' : Fr} (h : (fr'.map fun p => gt fr p.1) = fr'.map fun p => some p.2) : Sub fr' fr := by
  refine Sub.of_sees ?_
  induction fr' with
  | nil => trivial
  | cons p r ih =>
    simp only [List.map_cons, List.cons.injEq] at h
    exact ⟨h.1, ih h.2⟩
theorem Sub.refl (fr : Fr) : Sub fr fr := fun _ _ h => h

/-! ### 3. An operation hangs on its operands alone -/
theorem map_congr_arr {α β : Type} {f g : α → β} {xs : Array α} (h : ∀ x ∈ xs, f x = g x) : xs.map f = xs.map g := by
  apply Array.ext
  · simp
  · intro i h1 h2
    simp only [Array.getElem_map]
    exact h _ (by simp)
theorem resolve_congr {ρ ρ' : Operand → Value} (c : Call) (t : TypeId) (h : ∀ x ∈ c.operands, ρ x = ρ' x) : resolve ρ c t = resolve ρ' c t := by
  have ha : c.args.map ρ = c.args.map ρ' := map_congr_arr fun x hx => h x (by simp [Call.operands, hx])
  unfold resolve
  rw [ha]
  cases hc : c.callee with
  | builtin b => rfl
  | value f =>
    have h1 : ρ f = ρ' f := h f (by simp [Call.operands, hc])
    simp only [h1]
  | invoke r m =>
    have h1 : ρ r = ρ' r := h r (by simp [Call.operands, hc])
    simp only [h1]
theorem execOp_congr {ρ ρ' : Operand → Value} (o : Oper) (hs : ∀ cs b, o.op ≠ .select cs b) (h : ∀ x ∈ o.op.operands, ρ x = ρ' x) : execOp ρ o = execOp ρ' o := by
  obtain ⟨d, op, ty, pos, aft, g⟩ := o
  simp only at h
  unfold execOp
  cases op with
  | select cs b => exact absurd rfl (hs cs b)
  | call c => simp only; rw [resolve_congr c ty (fun x hx => h x (by simpa [Op.operands] using hx))]
  | go c => simp only; rw [resolve_congr c ty (fun x hx => h x (by simpa [Op.operands] using hx))]
  | defer c => simp only; rw [resolve_congr c ty (fun x hx => h x (by simpa [Op.operands] using hx))]
  | build t ps =>
    have : (ps.map fun (i, x) => (i, ρ x)) = ps.map fun (i, x) => (i, ρ' x) := map_congr_arr fun ⟨i, x⟩ hp => by
      show (i, ρ x) = (i, ρ' x)
      rw [h x (by simp only [Op.operands, List.mem_toArray, List.mem_map]; exact ⟨(i, x), by simpa using hp, rfl⟩)]
    simp only [this]
  | buildSlice t l ps =>
    have : (ps.map fun (i, x) => (i, ρ x)) = ps.map fun (i, x) => (i, ρ' x) := map_congr_arr fun ⟨i, x⟩ hp => by
      show (i, ρ x) = (i, ρ' x)
      rw [h x (by simp only [Op.operands, List.mem_toArray, List.mem_map]; exact ⟨(i, x), by simpa using hp, rfl⟩)]
    simp only [this]
  | makeFunc fn a b =>
    have h1 : a.map ρ = a.map ρ' := map_congr_arr fun x hx => h x (by simp [Op.operands, hx])
    have h2 : b.map ρ = b.map ρ' := map_congr_arr fun x hx => h x (by simp [Op.operands, hx])
    simp only [h1, h2]
  | makeMap t r =>
    cases r with
    | none => rfl
    | some x => simp only [Option.map_some, h x (by simp [Op.operands])]
  | slice t x lo hi mx =>
    have h0 : ρ x = ρ' x := h x (by simp [Op.operands])
    have h1 : lo.map ρ = lo.map ρ' := by cases lo with | none => rfl | some y => simp [h y (by simp [Op.operands])]
    have h2 : hi.map ρ = hi.map ρ' := by cases hi with | none => rfl | some y => simp [h y (by simp [Op.operands])]
    have h3 : mx.map ρ = mx.map ρ' := by cases mx with | none => rfl | some y => simp [h y (by simp [Op.operands])]
    simp only [h0, h1, h2, h3]
  | _ => simp_all [Op.operands]
def noSel : Op → Bool
  | .select _ _ => false
  | _ => true
theorem Fits.exec {n : Nat} {fr : Fr} {a : Act} (h : Fits n fr a) {o : Oper} (hk : knowns fr o.op = true) (hs : noSel o.op = true) : execOp a.eval o = execOp (ev fr) o := by
  refine execOp_congr o (fun cs b e => by rw [e] at hs; simp [noSel] at hs) fun x hx => h.eval ?_
  simp only [knowns, List.all_eq_true] at hk
  exact hk x (by simpa using hx)

/-! ### 4. Goals -/
section
variable {P : Program} {n : Nat}
/-- From place i of a region on. -/
def GL (P : Program) (n : Nat) (ops : Array Oper) (Q : Exit → Act → World → Prop) (i : Nat) (fr : Fr) (w : World) : Prop :=
  ∀ a, Fits n fr a → wpList P ops Q (ops.toList.drop i) a w
/-- A piece of code. -/
def SW (P : Program) (n : Nat) (c : Code) (Q : Exit → Act → World → Prop) (fr : Fr) (w : World) : Prop := ∀ a, Fits n fr a → c.wp P Q a w
/-- An end. -/
def At (n : Nat) (Q : Exit → Act → World → Prop) (e : Exit) (fr : Fr) (w : World) : Prop := ∀ a, Fits n fr a → Q e a w

variable {ops : Array Oper} {Q : Exit → Act → World → Prop} {i : Nat} {fr : Fr} {w : World} {x y : Code}
theorem sw_sub (fr' : Fr) (hs : Sub fr' fr) (h : SW P n x Q fr' w) : SW P n x Q fr w := fun a ha => h a (ha.sub hs)
theorem gl_sub (fr' : Fr) (hs : Sub fr' fr) (h : GL P n ops Q i fr' w) : GL P n ops Q i fr w := fun a ha => h a (ha.sub hs)
theorem at_sub {e : Exit} (fr' : Fr) (hs : Sub fr' fr) (h : At n Q e fr' w) : At n Q e fr w := fun a ha => h a (ha.sub hs)
theorem sw_keep (fr' : Fr) (hs : (fr'.map fun p => gt fr p.1) = fr'.map fun p => some p.2) (h : SW P n x Q fr' w) : SW P n x Q fr w := sw_sub fr' (Sub.of_eq hs) h
theorem gl_keep (fr' : Fr) (hs : (fr'.map fun p => gt fr p.1) = fr'.map fun p => some p.2) (h : GL P n ops Q i fr' w) : GL P n ops Q i fr w := gl_sub fr' (Sub.of_eq hs) h

theorem sw_seq (h : SW P n x (Exit.then (fun a w => y.wp P Q a w) Q) fr w) : SW P n (x.seq y) Q fr w := fun a ha => wp_seq (h a ha)
theorem sw_next (h : SW P n y Q fr w) : At n (Exit.then (fun a w => y.wp P Q a w) Q) .normal fr w := fun a ha => h a ha
theorem sw_region {id : Nat} {l : List Oper} (h : GL P n l.toArray Q 0 fr w) : SW P n (.region id l.toArray false) Q fr w := fun a ha => wp_region_list (by simpa using h a ha)
theorem sw_sr {id : Nat} {l : List Oper} (h : GL P n l.toArray (Exit.then (fun a w => y.wp P Q a w) Q) 0 fr w) : SW P n ((Code.region id l.toArray false).seq y) Q fr w := sw_seq (sw_region h)
theorem gl_done (hi : Nat.beq ops.size i = true) (h : At n Q .normal fr w) : GL P n ops Q i fr w := by
  intro a ha
  have : ops.toList.drop i = [] := by
    have := Nat.eq_of_beq_eq_true hi
    rw [List.drop_eq_nil_iff]; simp; omega
  rw [this]
  exact wpList_nil (h a ha)
theorem gl_dn (hi : Nat.beq ops.size i = true) (h : SW P n y Q fr w) : GL P n ops (Exit.then (fun a w => y.wp P Q a w) Q) i fr w := gl_done hi (sw_next h)
theorem sw_skip (h : At n Q .normal fr w) : SW P n .skip Q fr w := fun a ha => wp_skip (h a ha)
theorem sw_exit {id : Nat} (h : At n Q (.exit id) fr w) : SW P n (.exit id) Q fr w := fun a ha => wp_exit (h a ha)
theorem sw_ret (h : At n Q .ret fr w) : SW P n .ret Q fr w := fun a ha => wp_ret (h a ha)
theorem sw_block {id : Nat} (h : SW P n x (Exit.inBlock id Q) fr w) : SW P n (.block id x) Q fr w := fun a ha => wp_block (h a ha)
theorem sw_cond {c : Operand} {b : Bool} (hc : ev fr c = .bool b) (hk : kn fr c = true) (ht : b = true → SW P n x Q fr w) (hf : b = false → SW P n y Q fr w) : SW P n (.cond c x y) Q fr w := by
  intro a ha
  have he : a.eval c = .bool b := (ha.eval hk).trans hc
  exact wp_cond_split he (fun h => ht h a ha) (fun h => hf h a ha)
theorem sw_true {c : Operand} (hc : ev fr c = .bool true) (hk : kn fr c = true) (h : SW P n x Q fr w) : SW P n (.cond c x y) Q fr w := sw_cond hc hk (fun _ => h) (fun h => by cases h)
theorem sw_false {c : Operand} (hc : ev fr c = .bool false) (hk : kn fr c = true) (h : SW P n y Q fr w) : SW P n (.cond c x y) Q fr w := sw_cond hc hk (fun h => by cases h) (fun _ => h)
/-- A cut: what is known when x has ended. -/
theorem sw_cut {γ : Type} (F : γ → Fr) (I : γ → World → Prop) (hx : SW P n x (Exit.then (fun a w' => ∃ g, Fits n (F g) a ∧ I g w') Q) fr w)
    (hy : ∀ g w', I g w' → SW P n y Q (F g) w') : SW P n (x.seq y) Q fr w := by
  intro a ha
  refine wp_seq (Code.wp_mono ?_ (hx a ha))
  intro e a' w' h
  cases e with
  | normal => obtain ⟨g, hf, hI⟩ := h; exact hy g w' hI a' hf
  | _ => exact h
theorem cut_end {γ : Type} {F : γ → Fr} {I : γ → World → Prop} (g : γ) (hs : Sub (F g) fr) (hI : I g w) : At n (Exit.then (fun a w' => ∃ g, Fits n (F g) a ∧ I g w') Q) .normal fr w :=
  fun a ha => ⟨g, ha.sub hs, hI⟩
/-- A loop: its states g, their frames, what is known of them, a measure. -/
theorem sw_loop {γ : Type} (F : γ → Fr) (I : γ → World → Prop) (μ : γ → Nat) (g0 : γ) (hs : Sub (F g0) fr) (h0 : I g0 w)
    (round : ∀ g w, I g w → SW P n x (Exit.then (fun a w' => ∃ g', Fits n (F g') a ∧ I g' w' ∧ μ g' < μ g) Q) (F g) w) : SW P n (.loop x) Q fr w := by
  have key : ∀ (b : Frame) (k : List Item) (cs : List Frame) m g w a, μ g < m → I g w → Fits n (F g) a →
      ∃ e a' w', Q e a' w' ∧ Arrives P (lone (b.at a (.code x :: .inLoop x :: k)) cs w) b k cs e a' w' := by
    intro b k cs m
    induction m with
    | zero => intro g w a h; omega
    | succ m ih =>
      intro g w a hm hI ha
      obtain ⟨e, a₁, w₁, hq, harr⟩ := round g w hI a ha b (.inLoop x :: k) cs
      cases e with
      | normal =>
        obtain ⟨g', hf, hI', hlt⟩ := hq
        obtain ⟨e₂, a₂, w₂, hq₂, harr₂⟩ := ih g' w₁ a₁ (by omega) hI' hf
        exact ⟨e₂, a₂, w₂, hq₂, .of_steps (Steps.trans harr (.one step_inLoop)) harr₂⟩
      | exit id => exact ⟨_, a₁, w₁, hq, .pass (x := .inLoop x) rfl (fun _ _ => .inl (by simp)) harr⟩
      | goto l => exact ⟨_, a₁, w₁, hq, .pass (x := .inLoop x) rfl (fun _ _ => .inl (by simp)) harr⟩
      | ret => exact ⟨_, a₁, w₁, hq, .pass (x := .inLoop x) rfl (fun _ _ => .inl (by simp)) harr⟩
      | panic ch => exact ⟨_, a₁, w₁, hq, .pass (x := .inLoop x) rfl (fun _ _ => .inl (by simp)) harr⟩
      | outgrown => exact ⟨_, a₁, w₁, hq, .pass (x := .inLoop x) rfl (fun _ _ => .inl (by simp)) harr⟩
  intro a ha b k cs
  obtain ⟨e, a', w', hq, harr⟩ := key b k cs (μ g0 + 1) g0 w a (by omega) h0 (ha.sub hs)
  exact ⟨e, a', w', hq, .of_steps (.one step_loop) harr⟩

/-- Within a loop, ahead of a round. -/
def RW (P : Program) (x : Code) (Q : Exit → Act → World → Prop) (a : Act) (w : World) : Prop :=
  ∀ (b : Frame) (k : List Item) (cs : List Frame), ∃ e a' w', Q e a' w' ∧ Arrives P (lone (b.at a (.code x :: .inLoop x :: k)) cs w) b k cs e a' w'
theorem rw_of_round {a : Act} (h : x.wp P (Exit.then (fun a w => RW P x Q a w) Q) a w) : RW P x Q a w := by
  intro b k cs
  obtain ⟨e, a₁, w₁, hq, harr⟩ := h b (.inLoop x :: k) cs
  cases e with
  | normal =>
    obtain ⟨e₂, a₂, w₂, hq₂, harr₂⟩ := hq b k cs
    exact ⟨e₂, a₂, w₂, hq₂, .of_steps (Steps.trans harr (.one step_inLoop)) harr₂⟩
  | exit id => exact ⟨_, a₁, w₁, hq, .pass (x := .inLoop x) rfl (fun _ _ => .inl (by simp)) harr⟩
  | goto l => exact ⟨_, a₁, w₁, hq, .pass (x := .inLoop x) rfl (fun _ _ => .inl (by simp)) harr⟩
  | ret => exact ⟨_, a₁, w₁, hq, .pass (x := .inLoop x) rfl (fun _ _ => .inl (by simp)) harr⟩
  | panic ch => exact ⟨_, a₁, w₁, hq, .pass (x := .inLoop x) rfl (fun _ _ => .inl (by simp)) harr⟩
  | outgrown => exact ⟨_, a₁, w₁, hq, .pass (x := .inLoop x) rfl (fun _ _ => .inl (by simp)) harr⟩
/-- A loop, round by round. -/
theorem sw_unroll (h : SW P n x (Exit.then (fun a w => RW P x Q a w) Q) fr w) : SW P n (.loop x) Q fr w := by
  intro a ha b k cs
  obtain ⟨e, a', w', hq, harr⟩ := rw_of_round (h a ha) b k cs
  exact ⟨e, a', w', hq, .of_steps (.one step_loop) harr⟩
theorem sw_again (h : SW P n x (Exit.then (fun a w => RW P x Q a w) Q) fr w) : At n (Exit.then (fun a w => RW P x Q a w) Q) .normal fr w := fun a ha => rw_of_round (h a ha)

/-! ### 5. Operations -/
theorem drop_at {o : Oper} (hi : ops[i]? = some o) : ops.toList.drop i = o :: ops.toList.drop (i + 1) := by
  have hlt : i < ops.toList.length := by simpa using (Array.getElem?_eq_some_iff.1 hi).1
  rw [List.drop_eq_getElem_cons hlt]
  congr 1
  have := (Array.getElem?_eq_some_iff.1 hi).2
  simpa using this
/-- Is the operation wanted? -/
def guardV (ops : Array Oper) (fr : Fr) (o : Oper) : Option Bool :=
  match o.guard with
  | none => some true
  | some (j, b) => match (ops[j]?).bind (·.dst) with
    | some t => match gt fr t with
      | some (.bool c) => some (c == b)
      | some _ => some false
      | none => none
    | none => none
theorem guard_wanted {o : Oper} {b : Bool} (h : guardV ops fr o = some b) {a : Act} (ha : Fits n fr a) : Region.wanted o (yielded ops a.tmps) = b := by
  unfold guardV at h
  unfold Region.wanted
  cases hg : o.guard with
  | none => simp only [hg, Option.some.injEq] at h; exact h
  | some p =>
    obtain ⟨j, want⟩ := p
    simp only [hg] at h ⊢
    cases hd : (ops[j]?).bind (·.dst) with
    | none => simp [hd] at h
    | some t =>
      simp only [hd] at h
      cases hv : gt fr t with
      | none => simp [hv] at h
      | some v =>
        have hget := ha.get t v hv
        cases v with
        | bool c =>
          simp only [hv, Option.some.injEq] at h
          have : a.tmps[t]? = some (.bool c) := by
            rw [Array.getD_eq_getD_getElem?] at hget
            cases hq : a.tmps[t]? with
            | none => simp [hq, undef] at hget
            | some u => simp [hq] at hget; rw [hget]
          simp only [yielded, hd, Option.bind_some, this]
          rw [← h]
          cases c <;> cases want <;> rfl
        | _ =>
          simp only [hv, Option.some.injEq] at h
          rw [← h]
          rw [Array.getD_eq_getD_getElem?] at hget
          cases hq : a.tmps[t]? with
          | none => simp [yielded, hd, hq]
          | some u =>
            simp only [hq, Option.getD_some] at hget
            subst hget
            simp [yielded, hd, hq]
/-- Operation i is done, and K holds behind it. -/
def ST (P : Program) (n : Nat) (ops : Array Oper) (Q : Exit → Act → World → Prop) (i : Nat) (K : Fr → World → Prop) (fr : Fr) (w : World) : Prop :=
  ∀ a, Fits n fr a → ∀ K' : Act → World → Prop, (∀ fr' w' a', Fits n fr' a' → K fr' w' → K' a' w') → ∃ o, ops[i]? = some o ∧ if Region.wanted o (yielded ops a.tmps) then o.wp P a w K' Q else K' (a.put o.dst undef) w
/-- The value that an operation yields, the world unchanged. -/
def Runs (P : Program) (fr : Fr) (o : Oper) (v : Value) (w : World) : Prop := (execOp (ev fr) o).run P w = .ok (.value v) w
theorem gl_st (h : ST P n ops Q i (GL P n ops Q (i + 1)) fr w) : GL P n ops Q i fr w := by
  intro a ha
  obtain ⟨o, ho, hw⟩ := h a ha (fun a' w' => wpList P ops Q (ops.toList.drop (i + 1)) a' w') (fun fr' w' a' hf hk => hk a' hf)
  rw [drop_at ho]
  refine wpList_step fun K hK => ?_
  split
  · rename_i hc; rw [if_pos hc] at hw; exact Oper.wp_mono hK hw
  · rename_i hc; rw [if_neg hc] at hw; exact hK _ _ hw
variable {K : Fr → World → Prop}
theorem st_step {o : Oper} (hi : ops[i]? = some o) (hg : guardV ops fr o = some true)
    (h : ∀ a, Fits n fr a → ∀ K' : Act → World → Prop, (∀ fr' w' a', Fits n fr' a' → K fr' w' → K' a' w') → o.wp P a w K' Q) : ST P n ops Q i K fr w := by
  intro a ha K' hK'
  exact ⟨o, hi, by rw [if_pos (by rw [guard_wanted hg ha])]; exact h a ha K' hK'⟩
theorem gl_not {o : Oper} (hi : ops[i]? = some o) (hg : guardV ops fr o = some false) (hd : dok n o.dst = true) (h : GL P n ops Q (i + 1) (pf fr o.dst undef) w) : GL P n ops Q i fr w := by
  intro a ha
  rw [drop_at hi]
  refine wpList_step fun K hK => ?_
  rw [if_neg (by rw [guard_wanted hg ha]; simp)]
  exact hK _ _ (h _ (ha.put hd _))
theorem st_run {o : Oper} (hi : ops[i]? = some o) (hg : guardV ops fr o = some true) (hs : (dok n o.dst && knowns fr o.op && noSel o.op) = true) (v : Value) (w' : World)
    (hr : (execOp (ev fr) o).run P w = .ok (.value v) w') (h : K (pf fr o.dst v) w') : ST P n ops Q i K fr w := by
  simp only [Bool.and_eq_true] at hs
  refine st_step hi hg fun a ha K' hK => ?_
  unfold Oper.wp
  rw [ha.exec hs.1.2 hs.2, hr]
  exact hK _ _ _ (ha.put hs.1.1 v) h
theorem st_run0 {o : Oper} (hi : ops[i]? = some o) (hg : guardV ops fr o = some true) (hs : (dok n o.dst && knowns fr o.op && noSel o.op) = true) (w' : World)
    (hr : (execOp (ev fr) o).run P w = .ok .skip w') (h : K (pf fr o.dst undef) w') : ST P n ops Q i K fr w := by
  simp only [Bool.and_eq_true] at hs
  refine st_step hi hg fun a ha K' hK => ?_
  unfold Oper.wp
  rw [ha.exec hs.1.2 hs.2, hr]
  exact hK _ _ _ (ha.put hs.1.1 _) h
theorem gl_q {o : Oper} (hi : ops[i]? = some o) (hg : guardV ops fr o = some true) (hs : (dok n o.dst && knowns fr o.op && noSel o.op) = true) {v : Value}
    (hr : Runs P fr o v w) (h : GL P n ops Q (i + 1) (pf fr o.dst v) w) : GL P n ops Q i fr w := gl_st (st_run hi hg hs v w hr h)
theorem gl_pure {o : Oper} (hi : ops[i]? = some o) (hg : guardV ops fr o = some true) (hs : (dok n o.dst && knowns fr o.op && noSel o.op) = true) (v : Value)
    (hr : sp P (execOp (ev fr) o) = some (.value v)) (h : GL P n ops Q (i + 1) (pf fr o.dst v) w) : GL P n ops Q i fr w :=
  gl_q hi hg hs (sp_run hr w) h

/-! ### 5b. Regions whose order is drawn -/
/-- Panics do not hang on slots. -/
def PQ (Q : Exit → Act → World → Prop) : Prop := ∀ c a d v w, Q (.panic c) (Act.put a d v) w → Q (.panic c) a w
theorem PQ.th {Z : Act → World → Prop} (h : PQ Q) : PQ (Exit.then Z Q) := h
theorem PQ.bk {id : Nat} (h : PQ Q) : PQ (Exit.inBlock id Q) := h
theorem PQ.body {fn : Func} {R : Ending → World → Prop} : PQ (bodyPost P fn R) := by
  intro c a d v w h
  cases d <;> exact h
/-- What is left of such a region: k operations at the most, those of 'listed' are done; S holds behind each. -/
def GD (P : Program) (n : Nat) (ops : Array Oper) (Q : Exit → Act → World → Prop) (S : World → Prop) (k : Nat) (listed : Array Bool) (fr : Fr) (w : World) : Prop :=
  ∀ a, Fits n fr a → wpAnyH P .any ops Q S k listed a w
variable {S : World → Prop} {k : Nat} {listed : Array Bool}
theorem sw_draw {id : Nat} {l : List Oper} (hm : P.follows .mixedOrders = true) (S : World → Prop) (h : GD P n l.toArray Q S l.toArray.size (Array.replicate l.toArray.size false) fr { w with drawn := w.drawn + 1 }) : SW P n (.region id l.toArray true) Q fr w :=
  fun a ha => wp_region_held (S := S) hm (h a ha)
def canTake (ops : Array Oper) (listed : Array Bool) (i : Nat) : Bool := Region.noSelect ops && Region.free .any ops listed i && (Region.ready .any ops listed).contains i
theorem gd_take (i : Nat) {o : Oper} (hi : ops[i]? = some o) (hb : canTake ops listed i = true) (hQ : PQ Q) {v : Value} (hS : S w) (hd : dok n o.dst = true)
    (hr : ∀ a, Fits n fr a → YieldsIf P ops S o v a) (h : GD P n ops Q S k (listed.setIfInBounds i true) (pf fr o.dst v) w) : GD P n ops Q S (k + 1) listed fr w := by
  intro a ha
  simp only [canTake, Bool.and_eq_true] at hb
  exact wpAnyH_take hi hb.1.1 hb.1.2 hb.2 (fun c a w => hQ c a _ _ w) (hr a ha) hS (h _ (ha.put hd v))
theorem gd_q (i : Nat) {o : Oper} (hi : ops[i]? = some o) (hb : canTake ops listed i = true) (hQ : PQ Q) (hS : S w) (hg : guardV ops fr o = some true) (hs : (dok n o.dst && knowns fr o.op && noSel o.op) = true)
    {v : Value} (hr : ∀ w, S w → Runs P fr o v w) (h : GD P n ops Q S k (listed.setIfInBounds i true) (pf fr o.dst v) w) : GD P n ops Q S (k + 1) listed fr w := by
  simp only [Bool.and_eq_true] at hs
  refine gd_take i hi hb hQ hS hs.1.1 (fun a ha => .inl ⟨guard_wanted hg ha, fun w hw => ?_⟩) h
  rw [ha.exec hs.1.2 hs.2]
  exact hr w hw
theorem gd_not (i : Nat) {o : Oper} (hi : ops[i]? = some o) (hb : canTake ops listed i = true) (hQ : PQ Q) (hS : S w) (hg : guardV ops fr o = some false) (hd : dok n o.dst = true)
    (h : GD P n ops Q S k (listed.setIfInBounds i true) (pf fr o.dst undef) w) : GD P n ops Q S (k + 1) listed fr w :=
  gd_take i hi hb hQ hS hd (fun a ha => .inr ⟨guard_wanted hg ha, rfl⟩) h
theorem gd_pure (i : Nat) {o : Oper} (hi : ops[i]? = some o) (hb : canTake ops listed i = true) (hQ : PQ Q) (hS : S w) (hg : guardV ops fr o = some true) (hs : (dok n o.dst && knowns fr o.op && noSel o.op) = true)
    (v : Value) (hr : sp P (execOp (ev fr) o) = some (.value v)) (h : GD P n ops Q S k (listed.setIfInBounds i true) (pf fr o.dst v) w) : GD P n ops Q S (k + 1) listed fr w :=
  gd_q i hi hb hQ hS hg hs (fun w _ => sp_run hr w) h
/-- The only one that may come up. -/
theorem gd_st (i : Nat) (hr : (Region.ready .any ops listed == [i]) = true) (h : ST P n ops Q i (fun fr' w' => S w' ∧ GD P n ops Q S k (listed.setIfInBounds i true) fr' w') fr w) : GD P n ops Q S (k + 1) listed fr w := by
  intro a ha
  refine wpAnyH_all (beq_iff_eq.1 hr) (by simp) fun j hj => ?_
  simp only [List.mem_singleton] at hj
  subst hj
  obtain ⟨o, ho, hw⟩ := h a ha (fun a' w' => S w' ∧ wpAnyH P .any ops Q S k (listed.setIfInBounds j true) a' w') (fun fr' w' a' hf hk => ⟨hk.1, hk.2 a' hf⟩)
  unfold wpOp
  simp only [ho]
  split
  · rename_i hc; rw [if_pos hc] at hw; exact .inl hw
  · rename_i hc; rw [if_neg hc] at hw; exact hw
theorem gd_done (hr : (Region.ready .any ops listed).isEmpty = true) (h : At n Q .normal fr w) : GD P n ops Q S k listed fr w :=
  fun a ha => wpAnyH_done (List.isEmpty_iff.1 hr) (h a ha) k
theorem gd_sub (fr' : Fr) (hs : Sub fr' fr) (h : GD P n ops Q S k listed fr' w) : GD P n ops Q S k listed fr w := fun a ha => h a (ha.sub hs)
theorem gd_keep (fr' : Fr) (hs : (fr'.map fun p => gt fr p.1) = fr'.map fun p => some p.2) (h : GD P n ops Q S k listed fr' w) : GD P n ops Q S k listed fr w := gd_sub fr' (Sub.of_eq hs) h

/-- Both cases of a slot's Bool. -/
theorem gl_split (t : Nat) {b : Bool} (hv : gt fr t = some (.bool b)) (ht : b = true → GL P n ops Q i (pf fr (some t) (.bool true)) w) (hf : b = false → GL P n ops Q i (pf fr (some t) (.bool false)) w) : GL P n ops Q i fr w := by
  have key : ∀ c, b = c → Sub (pf fr (some t) (.bool c)) fr := by
    intro c hc
    subst hc
    intro j u hj
    simp only [pf, gt_cons, gt_rm] at hj
    by_cases ht : t = j
    · subst ht; simp only [if_true, Option.some.injEq] at hj; subst hj; exact hv
    · simpa [ht] using hj
  cases hb : b with
  | true => exact gl_sub _ (key true hb) (ht hb)
  | false => exact gl_sub _ (key false hb) (hf hb)

/-- So many operations that touch nothing. -/
def evOps (P : Program) (n : Nat) (ops : Array Oper) : List Oper → Fr → Option Fr
  | [], fr => some fr
  | o :: r, fr =>
    bif dok n o.dst && knowns fr o.op && noSel o.op then
      match guardV ops fr o with
      | some true => match sp P (execOp (ev fr) o) with
        | some (.value v) => evOps P n ops r (pf fr o.dst v)
        | _ => none
      | some false => evOps P n ops r (pf fr o.dst undef)
      | none => none
    else match guardV ops fr o with
      | some false => bif dok n o.dst then evOps P n ops r (pf fr o.dst undef) else none
      | _ => none
theorem evOps_sound : ∀ (k i : Nat) {fr fr' : Fr}, evOps P n ops ((ops.toList.drop i).take k) fr = some fr' → GL P n ops Q (i + k) fr' w → GL P n ops Q i fr w := by
  intro k
  induction k with
  | zero => intro i fr fr' h hk; simp only [List.take_zero, evOps, Option.some.injEq] at h; subst h; exact hk
  | succ k ih =>
    intro i fr fr' h hk
    cases hd : ops[i]? with
    | none =>
      have hle : ops.size ≤ i := by simpa using hd
      have h0 : ops.toList.drop i = [] := by rw [List.drop_eq_nil_iff]; simpa using hle
      rw [h0] at h
      simp only [List.take_nil, evOps, Option.some.injEq] at h
      subst h
      intro a ha
      have h1 : ops.toList.drop (i + (k + 1)) = [] := by rw [List.drop_eq_nil_iff]; simp; omega
      have := hk a ha
      rw [h1] at this
      rw [h0]
      exact this
    | some o =>
      rw [drop_at hd, List.take_succ_cons, evOps] at h
      have hk' : GL P n ops Q (i + 1 + k) fr' w := by rw [show i + 1 + k = i + (k + 1) from by omega]; exact hk
      cases hs : (dok n o.dst && knowns fr o.op && noSel o.op) with
      | true =>
        simp only [hs, cond_true] at h
        cases hg : guardV ops fr o with
        | none => simp [hg] at h
        | some b =>
          cases b with
          | true =>
            simp only [hg] at h
            cases hv : sp P (execOp (ev fr) o) with
            | none => simp [hv] at h
            | some nx =>
              cases nx with
              | value v => simp only [hv] at h; exact gl_pure hd hg hs v hv (ih (i + 1) h hk')
              | _ => simp [hv] at h
          | false =>
            simp only [hg] at h
            simp only [Bool.and_eq_true] at hs
            exact gl_not hd hg hs.1.1 (ih (i + 1) h hk')
      | false =>
        simp only [hs, cond_false] at h
        cases hg : guardV ops fr o with
        | none => simp [hg] at h
        | some b =>
          cases b with
          | true => simp [hg] at h
          | false =>
            simp only [hg] at h
            cases hdk : dok n o.dst with
            | false => simp [hdk] at h
            | true => simp only [hdk, cond_true] at h; exact gl_not hd hg hdk (ih (i + 1) h hk')
theorem gl_ops (k : Nat) (fr' : Fr) (h : (evOps P n ops ((ops.toList.drop i).take k) fr).map (fun f => fr'.map fun p => gt f p.1) = some (fr'.map fun p => some p.2))
    (hk : GL P n ops Q (i + k) fr' w) : GL P n ops Q i fr w := by
  cases he : evOps P n ops ((ops.toList.drop i).take k) fr with
  | none => simp [he] at h
  | some f =>
    simp only [he, Option.map_some, Option.some.injEq] at h
    exact evOps_sound k i he (gl_sub fr' (Sub.of_eq h) hk)

/-! ### 6. Calls -/
/-- Called with args in w, function f returns what Post says. -/
def Fun (P : Program) (f : FuncId) (args : List Value) (w : World) (Post : Value → World → Prop) : Prop :=
  Calls P f args.toArray w fun e w' => ∃ v, e = .returned v ∧ Post v w'
theorem Fun.mono {f : FuncId} {args : List Value} {Post Post' : Value → World → Prop} (h : Fun P f args w Post) (hp : ∀ v w', Post v w' → Post' v w') : Fun P f args w Post' :=
  Calls.mono h fun e w' ⟨v, he, hv⟩ => ⟨v, he, hp v w' hv⟩
def callable (P : Program) (f : FuncId) : Bool :=
  match P.funcs[f]? with
  | some fn => !fn.body.isNone && !(fn.name == "runtime.NumGoroutine")
  | none => false
theorem run_callFunc_of {f : FuncId} (h : callable P f = true) (args : Array Value) (w : World) : (callFunc f args).run P w = .ok (.enter f args) w := by
  unfold callable at h
  unfold callFunc
  cases hf : P.funcs[f]? with
  | none => simp [hf] at h
  | some fn =>
    simp only [hf, Bool.and_eq_true, Bool.not_eq_true'] at h
    have h1 : fn.body ≠ none := by intro e; rw [e] at h; simp at h
    have h2 : fn.name ≠ "runtime.NumGoroutine" := by simpa using h.2
    simp [hf, h1, h2, Result.andThen]
theorem st_call {d : Option Tmp} {f : FuncId} {as : Array Operand} {tys : Array TypeId} {ty : TypeId} {pos : String} {aft : Array Edge} {g : Option (Nat × Bool)}
    (hi : ops[i]? = some ⟨d, .call ⟨.value (.func f), as, tys⟩, ty, pos, aft, g⟩) (hg : guardV ops fr ⟨d, .call ⟨.value (.func f), as, tys⟩, ty, pos, aft, g⟩ = some true)
    (hs : (dok n d && as.toList.all (kn fr)) = true) (hc : callable P f = true) {args : List Value} (ha : as.toList.map (ev fr) = args)
    {Post : Value → World → Prop} (hf : Fun P f args w Post) (h : ∀ v w', Post v w' → K (pf fr d v) w') : ST P n ops Q i K fr w := by
  simp only [Bool.and_eq_true] at hs
  refine st_step hi hg fun a hfit K' hK => ?_
  unfold Oper.wp
  rw [hfit.exec (by simp only [knowns, Op.operands, Call.operands, Array.toList_append, List.all_append, hs.2, Bool.and_true]; rfl) rfl]
  have hr : (execOp (ev fr) ⟨d, .call ⟨.value (.func f), as, tys⟩, ty, pos, aft, g⟩).run P w = .ok (.enter f args.toArray) w := by
    have hm : as.map (ev fr) = args.toArray := by rw [← ha]; apply Array.ext'; simp
    simp only [execOp, resolve, Deferred.ofValue, ev, invoke, Sem.run_bind, Sem.run_pure, Result.andThen_ok]
    rw [show (#[] : Array Value) ++ as.map (ev fr) ++ #[] = args.toArray from by rw [hm]; simp]
    exact run_callFunc_of hc _ w
  rw [hr]
  simp only [Oper.upon]
  refine Calls.mono hf ?_
  rintro e w' ⟨v, rfl, hv⟩
  exact hK _ _ _ (hfit.put hs.1 v) (h v w' hv)

/-- A call of a function's value. -/
theorem st_callv {d : Option Tmp} {f : FuncId} {x : Operand} {as : Array Operand} {tys : Array TypeId} {ty : TypeId} {pos : String} {aft : Array Edge} {g : Option (Nat × Bool)}
    (hi : ops[i]? = some ⟨d, .call ⟨.value x, as, tys⟩, ty, pos, aft, g⟩) (hg : guardV ops fr ⟨d, .call ⟨.value x, as, tys⟩, ty, pos, aft, g⟩ = some true)
    (hs : (dok n d && (kn fr x && as.toList.all (kn fr))) = true) (hc : callable P f = true) {cap : Array Value} (hx : ev fr x = .func (.func f) #[] cap) {args : List Value} (ha : as.toList.map (ev fr) ++ cap.toList = args)
    {Post : Value → World → Prop} (hf : Fun P f args w Post) (h : ∀ v w', Post v w' → K (pf fr d v) w') : ST P n ops Q i K fr w := by
  simp only [Bool.and_eq_true] at hs
  refine st_step hi hg fun a hfit K' hK => ?_
  unfold Oper.wp
  rw [hfit.exec (by simp only [knowns, Op.operands, Call.operands, Array.toList_append, List.all_append, hs.2.2, Bool.and_true]; simpa using hs.2.1) rfl]
  have hr : (execOp (ev fr) ⟨d, .call ⟨.value x, as, tys⟩, ty, pos, aft, g⟩).run P w = .ok (.enter f args.toArray) w := by
    have hm : as.map (ev fr) ++ cap = args.toArray := by rw [← ha]; apply Array.ext'; simp
    simp only [execOp, resolve, hx, Deferred.ofValue, invoke, Sem.run_bind, Sem.run_pure, Result.andThen_ok]
    rw [show (#[] : Array Value) ++ as.map (ev fr) ++ cap = args.toArray from by rw [← hm]; simp]
    exact run_callFunc_of hc _ w
  rw [hr]
  simp only [Oper.upon]
  refine Calls.mono hf ?_
  rintro e w' ⟨v, rfl, hv⟩
  exact hK _ _ _ (hfit.put hs.1 v) (h v w' hv)

/-! ### 7. Functions -/
def ent : Nat → List Value → Fr
  | _, [] => []
  | i, v :: r => (i, v) :: ent (i + 1) r
theorem gt_ent : ∀ (l : List Value) (k i : Nat) (v : Value), gt (ent k l) i = some v → k ≤ i ∧ l[i - k]? = some v
  | [], k, i, v, h => by simp [ent, gt] at h
  | u :: r, k, i, v, h => by
    simp only [ent, gt_cons] at h
    by_cases hk : k = i
    · subst hk; simp at h; simp [h]
    · simp only [hk, if_false] at h
      obtain ⟨h1, h2⟩ := gt_ent r (k + 1) i v h
      refine ⟨by omega, ?_⟩
      rw [show i - k = (i - (k + 1)) + 1 from by omega]
      simpa using h2
theorem fun_of_sw {f : FuncId} {fn : Func} {c : Code} {args : List Value} {Post : Value → World → Prop} (hf : P.funcs[f]? = some fn) (hb : fn.body = some c) (n : Nat) (hn : fn.ntmps = n) (hl : Nat.ble args.length n = true)
    (h : SW P n c (bodyPost P fn fun e w' => ∃ v, e = .returned v ∧ Post v w') (ent 0 args) w) : Fun P f args w Post := by
  refine calls_of_wp hf hb (h _ ⟨?_, rfl, fun i v hv => ?_⟩)
  · have := Nat.le_of_ble_eq_true hl
    simp [hn]; omega
  · obtain ⟨h1, h2⟩ := gt_ent args 0 i v hv
    simp only [Nat.sub_zero] at h2
    have hlt : i < args.length := (List.getElem?_eq_some_iff.1 h2).1
    simp only [Array.getD_eq_getD_getElem?]
    rw [Array.getElem?_append_left (by simpa using hlt)]
    simp [h2]
theorem ret0 {fn : Func} {Post : Value → World → Prop} (hr : fn.results = #[]) (h : Post (.tuple #[]) w) : At n (bodyPost P fn fun e w' => ∃ v, e = .returned v ∧ Post v w') .ret fr w :=
  fun a ha => ⟨ha.dfs, _, results_none hr _ _ _, _, rfl, h⟩
theorem end0 {fn : Func} {Post : Value → World → Prop} (hr : fn.results = #[]) (h : Post (.tuple #[]) w) : At n (bodyPost P fn fun e w' => ∃ v, e = .returned v ∧ Post v w') .normal fr w :=
  fun a ha => ⟨ha.dfs, _, results_none hr _ _ _, _, rfl, h⟩
theorem ret1 {fn : Func} {Post : Value → World → Prop} {t : Tmp} {v : Value} (hr : fn.results = #[.tmp t]) (hv : gt fr t = some v) (h : Post v w) :
    At n (bodyPost P fn fun e w' => ∃ v, e = .returned v ∧ Post v w') .ret fr w :=
  fun a ha => ⟨ha.dfs, _, results_tmp hr _ _ _, _, rfl, by rw [ha.get t v hv]; exact h⟩
theorem ret2 {fn : Func} {Post : Value → World → Prop} {t u : Tmp} {v v' : Value} (hr : fn.results = #[.tmp t, .tmp u]) (hv : gt fr t = some v) (hv' : gt fr u = some v') (h : Post (.tuple #[v, v']) w) :
    At n (bodyPost P fn fun e w' => ∃ v, e = .returned v ∧ Post v w') .ret fr w :=
  fun a ha => ⟨ha.dfs, _, results_tmp2 hr _ _ _, _, rfl, by rw [ha.get t v hv, ha.get u v' hv']; exact h⟩
theorem ret3 {fn : Func} {Post : Value → World → Prop} {t u s : Tmp} {v v' v'' : Value} (hr : fn.results = #[.tmp t, .tmp u, .tmp s]) (hv : gt fr t = some v) (hv' : gt fr u = some v') (hv'' : gt fr s = some v'') (h : Post (.tuple #[v, v', v'']) w) :
    At n (bodyPost P fn fun e w' => ∃ v, e = .returned v ∧ Post v w') .ret fr w :=
  fun a ha => ⟨ha.dfs, _, by simp [results, hr]; rfl, _, rfl, by
    have e1 := ha.get t v hv; have e2 := ha.get u v' hv'; have e3 := ha.get s v'' hv''
    simp only [Array.getD_eq_getD_getElem?] at e1 e2 e3
    simp only [e1, e2, e3]; exact h⟩
/-- A result, in a slot or in a cell. -/
def resOf (a : Act) : ResultVar → Sem Value
  | .tmp t => pure (a.tmps.getD t undef)
  | .cell x t => do loadVar t (← asAddr (a.tmps.getD x undef))
def RS (P : Program) (n : Nat) (fr : Fr) (w : World) (r : ResultVar) (v : Value) : Prop := ∀ a, Fits n fr a → (resOf a r).run P w = .ok v w
theorem RS.tmp {t : Tmp} {v : Value} (hv : gt fr t = some v) : RS P n fr w (.tmp t) v := by
  intro a ha
  simp [resOf, ha.get t v hv]
theorem results_of (fn : Func) (a : Act) : results fn a.tmps = (do let vs ← fn.results.mapM (resOf a); pure (if h : vs.size = 1 then vs[0] else .tuple vs)) := by
  unfold results
  congr 1

theorem retC1 {fn : Func} {Post : Value → World → Prop} {r : ResultVar} {v : Value} (hr : fn.results = #[r]) (h1 : RS P n fr w r v) (h : Post v w) :
    At n (bodyPost P fn fun e w' => ∃ v, e = .returned v ∧ Post v w') .ret fr w :=
  fun a ha => ⟨ha.dfs, _, by rw [results_of, hr]; simp [h1 a ha], _, rfl, h⟩
theorem retC2 {fn : Func} {Post : Value → World → Prop} {r1 r2 : ResultVar} {v1 v2 : Value} (hr : fn.results = #[r1, r2]) (h1 : RS P n fr w r1 v1) (h2 : RS P n fr w r2 v2) (h : Post (.tuple #[v1, v2]) w) :
    At n (bodyPost P fn fun e w' => ∃ v, e = .returned v ∧ Post v w') .ret fr w :=
  fun a ha => ⟨ha.dfs, _, by rw [results_of, hr]; simp [h1 a ha, h2 a ha], _, rfl, h⟩
theorem retC3 {fn : Func} {Post : Value → World → Prop} {r1 r2 r3 : ResultVar} {v1 v2 v3 : Value} (hr : fn.results = #[r1, r2, r3]) (h1 : RS P n fr w r1 v1) (h2 : RS P n fr w r2 v2) (h3 : RS P n fr w r3 v3) (h : Post (.tuple #[v1, v2, v3]) w) :
    At n (bodyPost P fn fun e w' => ∃ v, e = .returned v ∧ Post v w') .ret fr w :=
  fun a ha => ⟨ha.dfs, _, by rw [results_of, hr]; simp [h1 a ha, h2 a ha, h3 a ha], _, rfl, h⟩
end
end Go.SW
