/- The calculus of SW, what a call owns: 'Hp w0 w z F os': since w0 nothing but the blocks of F and new ones has turned; the cells of z read as z says; the rows and boxes of os are the call's own, each in a block of its own. Plain theorems. -/
import Derived.Test.YtjcchjgkkplamaaGreatDoorSWM
set_option linter.unusedVariables false
set_option linter.unusedSimpArgs false
set_option maxRecDepth 100000
namespace Go.SW
open Go Go.RowKit

/-! ### 1. What is read -/
abbrev Zone := Addr → Option Value
def Zone.le (c c' : Zone) : Prop := ∀ a v, c a = some v → c' a = some v
theorem Zone.le.refl (c : Zone) : c.le c := fun _ _ h => h
theorem Zone.le.trans {a b c : Zone} (h : a.le b) (k : b.le c) : a.le c := fun p v hp => k p v (h p v hp)
/-- A slice value of n elements, m cells each, whose cells read as cs. -/
def Row (c : Zone) (v : Value) (m n : Nat) (cs : List Value) : Prop :=
  cs.length = n * m ∧ ∃ A cap, v = .slice A n cap ∧ n ≤ cap ∧ cap ≤ maxLen ∧ ∀ j u, cs[j]? = some u → ∃ ad, A = some ad ∧ c (ad.add j) = some u
theorem Row.mono {c c' : Zone} {v : Value} {m n : Nat} {cs : List Value} (h : Row c v m n cs) (hc : c.le c') : Row c' v m n cs := by
  obtain ⟨h0, A, cap, h1, h3, h4, h5⟩ := h
  exact ⟨h0, A, cap, h1, h3, h4, fun j u hu => let ⟨ad, e, hp⟩ := h5 j u hu; ⟨ad, e, hc _ _ hp⟩⟩
theorem Row.nil (c : Zone) (m : Nat) : Row c (.slice none 0 0) m 0 [] := ⟨by simp, none, 0, rfl, Nat.le_refl _, by simp [maxLen], fun j u h => by simp at h⟩
theorem Row.of_own {w : World} {base : Nat} {e : TypeId} {m n : Nat} {v : Value} {xs : List Value} (h : w.ownsRow base e m v n xs) : Row w.cell? v m n xs := by
  obtain ⟨h1, h2⟩ := h
  rcases h2 with ⟨rfl, rfl⟩ | ⟨g, cap, cur, rfl, hb, hg, hn, hm, hs, ht⟩
  · refine ⟨h1, none, 0, rfl, Nat.le_refl _, by simp [maxLen], fun j u hu => ?_⟩
    have : xs = [] := List.eq_nil_of_length_eq_zero (by simpa using h1)
    simp [this] at hu
  · refine ⟨h1, some ⟨g, 0, none⟩, cap, rfl, hn, hm, fun j u hu => ⟨_, rfl, ?_⟩⟩
    have hown : w.ownsRow base e m (.slice (some ⟨g, 0, none⟩) n cap) n xs := ⟨h1, .inr ⟨g, cap, cur, rfl, hb, hg, hn, hm, hs, ht⟩⟩
    exact hown.cells rfl j u hu

/-! ### 2. What is owned -/
/-- A resource: blocks, and what is in them. -/
structure Own where
  blks : List Nat
  at' : World → Prop
  lt' : ∀ w, at' w → ∀ g ∈ blks, g < w.heap.size
  kept' : ∀ w w', at' w → (∀ g ∈ blks, w'.heap[g]? = w.heap[g]?) → at' w'
def Own.at (w : World) (o : Own) : Prop := o.at' w
theorem Own.lt {w : World} {o : Own} (h : o.at w) : ∀ g ∈ o.blks, g < w.heap.size := o.lt' w h
theorem Own.kept {w w' : World} {o : Own} (h : o.at w) (hk : ∀ g ∈ o.blks, w'.heap[g]? = w.heap[g]?) : o.at w' := o.kept' w w' h hk
/-- A row, a slice's whole block. -/
def Own.row (v : Value) (e : TypeId) (m n : Nat) (xs : List Value) : Own where
  blks := v.ownBlock.toList
  at' w := w.ownsRow 0 e m v n xs
  lt' w h g hg := by
    simp only [Option.mem_toList] at hg
    exact (h.lt g hg).2
  kept' w w' h hk := by
    refine ⟨h.1, ?_⟩
    rcases h.2 with hn | ⟨g, cap, cur, rfl, hb, hg, rest⟩
    · exact .inl hn
    · exact .inr ⟨g, cap, cur, rfl, hb, by rw [hk g (by simp [Value.ownBlock])]; exact hg, rest⟩
/-- A block of any kind. -/
def Own.obj (g : Nat) (o : Obj) : Own where
  blks := [g]
  at' w := w.heap[g]? = some o
  lt' w h b hb := by
    simp only [List.mem_singleton] at hb
    subst hb
    exact (Array.getElem?_eq_some_iff.1 h).1
  kept' w w' h hk := (hk g (by simp)).trans h
/-- A box: cells. -/
def Own.blk (g : Nat) (e : TypeId) (cs : List Value) : Own := .obj g (.cells cs.toArray e (0, 0))
def blksOf (os : List Own) : List Nat := os.flatMap Own.blks
/-- Several. -/
def Own.grp (l : List Own) : Own where
  blks := blksOf l
  at' w := ∀ o ∈ l, o.at w
  lt' w h g hg := by
    obtain ⟨o, ho, hgo⟩ := List.mem_flatMap.1 hg
    exact Own.lt (h o ho) g hgo
  kept' w w' h hk o ho := Own.kept (h o ho) fun g hg => hk g (List.mem_flatMap.2 ⟨o, ho, hg⟩)

structure Hp (w0 w : World) (z : Zone) (F : List Nat) (os : List Own) : Prop where
  os_ : w.os = w0.os
  tape : w.tape = w0.tape
  output : w.output = w0.output
  size : w0.heap.size ≤ w.heap.size
  keep : ∀ k, k < w0.heap.size → k ∉ F → w.heap[k]? = w0.heap[k]?
  zin : z.le w.cell?
  own : ∀ o ∈ os, o.at w
  nodup : (blksOf os).Nodup
  new : ∀ g ∈ blksOf os, (w0.heap.size ≤ g ∨ g ∈ F) ∧ ∀ off sp, z ⟨g, off, sp⟩ = none

/-- A call that turns nothing that was there, and hands back rows of its own. -/
def Fresh (w w' : World) (os : List Own) : Prop := Hp w w' (fun _ => none) [] os

section
variable {w0 w w' : World} {z : Zone} {F : List Nat} {os os' : List Own}
theorem Hp.start (w : World) : Hp w w w.cell? [] [] :=
  ⟨rfl, rfl, rfl, Nat.le_refl _, fun _ _ _ => rfl, Zone.le.refl _, by simp, by simp [blksOf], by simp [blksOf]⟩
theorem Hp.below (h : Hp w0 w z [] os) : Below w0.heap.size w0 w := ⟨h.os_, h.tape, h.output, h.size, fun k hk => h.keep k hk (by simp)⟩
theorem Hp.lt (h : Hp w0 w z F os) : ∀ g ∈ blksOf os, g < w.heap.size := by
  intro g hg
  obtain ⟨o, ho, hgo⟩ := List.mem_flatMap.1 hg
  exact Own.lt (h.own o ho) g hgo
theorem cell?_congr {w w' : World} {a : Addr} (h : w'.heap[a.block]? = w.heap[a.block]?) : w'.cell? a = w.cell? a := World.cell?_of_block h
theorem Hp.zlt (h : Hp w0 w z F os) {a : Addr} {v : Value} (ha : z a = some v) : a.block < w.heap.size := World.block_lt_of_cell? w a (h.zin a v ha)
/-- A step that turns nothing that was there. -/
theorem Hp.call (h : Hp w0 w z F os) (hf : Fresh w w' os') : Hp w0 w' z F (os ++ os') := by
  refine ⟨hf.os_.trans h.os_, hf.tape.trans h.tape, hf.output.trans h.output, Nat.le_trans h.size hf.size, fun k hk hF => ?_, fun a v ha => ?_, fun o ho => ?_, ?_, ?_⟩
  · rw [hf.keep k (Nat.lt_of_lt_of_le hk h.size) (by simp)]; exact h.keep k hk hF
  · rw [cell?_congr (hf.keep _ (h.zlt ha) (by simp))]; exact h.zin a v ha
  · rcases List.mem_append.1 ho with ho | ho
    · exact Own.kept (h.own o ho) fun g hg => hf.keep g (Own.lt (h.own o ho) g hg) (by simp)
    · exact hf.own o ho
  · rw [blksOf, List.flatMap_append]
    refine List.nodup_append.2 ⟨h.nodup, hf.nodup, fun a ha b hb e => ?_⟩
    subst e
    have h1 := h.lt a ha
    rcases (hf.new a hb).1 with h2 | h2
    · omega
    · simp at h2
  · intro g hg
    rw [blksOf, List.flatMap_append] at hg
    rcases List.mem_append.1 hg with hg | hg
    · exact h.new g hg
    · have h2 : w.heap.size ≤ g := by
        rcases (hf.new g hg).1 with h2 | h2
        · exact h2
        · simp at h2
      refine ⟨.inl (Nat.le_trans h.size h2), fun off sp => ?_⟩
      cases hz : z ⟨g, off, sp⟩ with
      | none => rfl
      | some v => have := h.zlt hz; simp at this; omega
/-- Draws, and whatever turns no block. -/
theorem Hp.same (h : Hp w0 w z F os) (h1 : w'.heap = w.heap) (h2 : w'.os = w.os) (h3 : w'.tape = w.tape) (h4 : w'.output = w.output) : Hp w0 w' z F os := by
  refine ⟨h2.trans h.os_, h3.trans h.tape, h4.trans h.output, by rw [h1]; exact h.size, fun k hk hF => by rw [h1]; exact h.keep k hk hF, fun a v ha => ?_, fun o ho => Own.kept (h.own o ho) fun g _ => by rw [h1], h.nodup, h.new⟩
  have : w'.cell? a = w.cell? a := cell?_congr (by rw [h1])
  rw [this]; exact h.zin a v ha
theorem Fresh.alloc (w : World) (cs : List Value) (e : TypeId) : Fresh w (w.alloc (.cells cs.toArray e)) [.blk w.heap.size e cs] := by
  refine ⟨rfl, rfl, rfl, by simp, fun k hk _ => Below.heap_alloc _ _ _ hk, fun a v h => by simp at h, ?_, by simp [blksOf, Own.blk, Own.obj], ?_⟩
  · intro o ho
    simp only [List.mem_singleton] at ho
    subst ho
    exact heap_alloc_new w _
  · intro g hg
    simp only [blksOf, List.flatMap_cons, Own.blk, Own.obj, List.flatMap_nil, List.append_nil, List.mem_singleton] at hg
    exact ⟨.inl (by omega), fun _ _ => rfl⟩
theorem ownsRow_base {base : Nat} {e : TypeId} {m n : Nat} {v : Value} {xs : List Value} (h : w.ownsRow base e m v n xs) : w.ownsRow 0 e m v n xs := by
  refine ⟨h.1, ?_⟩
  rcases h.2 with hn | ⟨g, cap, cur, hv, hb, rest⟩
  · exact .inl hn
  · exact .inr ⟨g, cap, cur, hv, Nat.zero_le _, rest⟩
/-- A new row. -/
theorem Fresh.row {v : Value} {e : TypeId} {m n : Nat} {xs : List Value} (hb : Below w.heap.size w w') (h : w'.ownsRow w.heap.size e m v n xs) : Fresh w w' [.row v e m n xs] := by
  refine ⟨hb.os, hb.tape, hb.output, hb.size, fun k hk _ => hb.block k hk, fun a v h => by simp at h, ?_, ?_, ?_⟩
  · intro o ho
    simp only [List.mem_singleton] at ho
    subst ho
    exact ownsRow_base h
  · simp only [blksOf, List.flatMap_cons, Own.row, List.flatMap_nil, List.append_nil]
    cases v.ownBlock <;> simp
  · intro g hg
    simp only [blksOf, List.flatMap_cons, Own.row, List.flatMap_nil, List.append_nil, Option.mem_toList] at hg
    exact ⟨.inl (h.lt g hg).1, fun _ _ => rfl⟩
theorem Fresh.none (hb : Below w.heap.size w w') : Fresh w w' [] :=
  ⟨hb.os, hb.tape, hb.output, hb.size, fun k hk _ => hb.block k hk, fun a v h => by simp at h, by simp, by simp [blksOf], by simp [blksOf]⟩
theorem blksOf_sublist {os os' : List Own} (hs : os'.Sublist os) : (blksOf os').Sublist (blksOf os) := by
  induction hs with
  | slnil => exact List.Sublist.refl _
  | cons a _ ih => exact ih.trans (List.sublist_append_right _ _)
  | cons_cons a _ ih => exact (List.Sublist.refl _).append ih
/-- What is forgotten. -/
theorem Hp.sublist (h : Hp w0 w z F os) (hs : os'.Sublist os) : Hp w0 w z F os' :=
  ⟨h.os_, h.tape, h.output, h.size, h.keep, h.zin, fun o ho => h.own o (hs.subset ho), h.nodup.sublist (blksOf_sublist hs), fun g hg => h.new g ((blksOf_sublist hs).subset hg)⟩
theorem Hp.perm (h : Hp w0 w z F os) (hs : os.Perm os') : Hp w0 w z F os' :=
  ⟨h.os_, h.tape, h.output, h.size, h.keep, h.zin, fun o ho => h.own o (hs.mem_iff.2 ho), (hs.flatMap_right _).nodup_iff.1 h.nodup, fun g hg => h.new g ((hs.flatMap_right _).mem_iff.2 hg)⟩
/-- The end of a call: what it hands back. -/
theorem Hp.fresh (h : Hp w0 w z [] os) : Fresh w0 w os :=
  ⟨h.os_, h.tape, h.output, h.size, h.keep, fun a v h => by simp at h, h.own, h.nodup, fun g hg => ⟨(h.new g hg).1, fun _ _ => rfl⟩⟩
/-- One of what is owned is put in another one's place: its block is the old one, or a new one. -/
theorem Hp.turn (h : Hp w0 w z F os) (k : Nat) {o o' : Own} (hk : os[k]? = some o) (row : Option Nat) (hrow : ∀ g, row = some g → g ∈ o.blks) (hg : w.grownBy w' row) (ho' : o'.at w')
    (hb : ∀ g ∈ o'.blks, g ∈ o.blks ∨ w.heap.size ≤ g) (hn : o'.blks.Nodup) : Hp w0 w' z F (os.set k o') := by
  have hmem : o ∈ os := List.mem_of_getElem? hk
  have hklt : k < os.length := (List.getElem?_eq_some_iff.1 hk).1
  have hok : os[k] = o := (List.getElem?_eq_some_iff.1 hk).2
  have hsplit : os = os.take k ++ o :: os.drop (k + 1) := by
    rw [← hok]; simp
  have hset : os.set k o' = os.take k ++ o' :: os.drop (k + 1) := List.set_eq_take_append_cons_drop .. |>.trans (by simp [hklt])
  have hnd := h.nodup
  have hold : ∀ g, g ∈ o.blks → g ∈ blksOf os := fun g hgo => List.mem_flatMap.2 ⟨o, hmem, hgo⟩
  have hother : ∀ x ∈ os.take k ++ os.drop (k + 1), x ∈ os := by
    intro x hx
    rcases List.mem_append.1 hx with hx | hx
    · exact List.mem_of_mem_take hx
    · exact List.mem_of_mem_drop hx
  have hdisj : ∀ x ∈ os.take k ++ os.drop (k + 1), ∀ g ∈ x.blks, g ∉ o.blks := by
    intro x hx g hgx hgo
    rw [hsplit] at hnd
    simp only [blksOf, List.flatMap_append, List.flatMap_cons] at hnd
    rcases List.mem_append.1 hx with hx | hx
    · have := (List.nodup_append.1 hnd).2.2 g (List.mem_flatMap.2 ⟨x, hx, hgx⟩) g (List.mem_append_left _ hgo)
      exact this rfl
    · have h2 := (List.nodup_append.1 hnd).2.1
      have := (List.nodup_append.1 h2).2.2 g hgo g (List.mem_flatMap.2 ⟨x, hx, hgx⟩)
      exact this rfl
  refine ⟨hg.os.trans h.os_, hg.tape.trans h.tape, hg.output.trans h.output, Nat.le_trans h.size hg.size, fun j hj hF => ?_, fun a v ha => ?_, fun x hx => ?_, ?_, ?_⟩
  · rw [hg.block j (Nat.lt_of_lt_of_le hj h.size) ?_]; exact h.keep j hj hF
    intro e
    have h1 := hold j (hrow j e.symm)
    rcases (h.new j h1).1 with h2 | h2
    · omega
    · exact hF h2
  · rw [cell?_congr (hg.block _ (h.zlt ha) ?_)]; exact h.zin a v ha
    intro e
    have h1 := hold _ (hrow _ e.symm)
    have h2 := (h.new _ h1).2 a.off a.spot
    rw [show (⟨a.block, a.off, a.spot⟩ : Addr) = a from rfl, ha] at h2
    cases h2
  · rw [hset] at hx
    rcases List.mem_append.1 hx with hx | hx
    · have hx' : x ∈ os.take k ++ os.drop (k + 1) := List.mem_append_left _ hx
      exact Own.kept (h.own x (hother x hx')) fun g hgx => hg.block g (Own.lt (h.own x (hother x hx')) g hgx) fun e => hdisj x hx' g hgx (hrow g e.symm)
    · rcases List.mem_cons.1 hx with rfl | hx
      · exact ho'
      · have hx' : x ∈ os.take k ++ os.drop (k + 1) := List.mem_append_right _ hx
        exact Own.kept (h.own x (hother x hx')) fun g hgx => hg.block g (Own.lt (h.own x (hother x hx')) g hgx) fun e => hdisj x hx' g hgx (hrow g e.symm)
  · rw [hset]
    rw [hsplit] at hnd
    simp only [blksOf, List.flatMap_append, List.flatMap_cons] at hnd ⊢
    have n1 := List.nodup_append.1 hnd
    have n2 := List.nodup_append.1 n1.2.1
    have hfar : ∀ x ∈ os.take k ++ os.drop (k + 1), ∀ g ∈ x.blks, g ∉ o'.blks := by
      intro x hx g hgx hgo
      rcases hb g hgo with h1 | h1
      · exact hdisj x hx g hgx h1
      · have := Own.lt (h.own x (hother x hx)) g hgx; omega
    refine List.nodup_append.2 ⟨n1.1, List.nodup_append.2 ⟨hn, n2.2.1, fun a ha b hb' e => ?_⟩, fun a ha b hb' e => ?_⟩
    · subst e
      obtain ⟨x, hx, hgx⟩ := List.mem_flatMap.1 hb'
      exact hfar x (List.mem_append_right _ hx) a hgx ha
    · subst e
      obtain ⟨x, hx, hgx⟩ := List.mem_flatMap.1 ha
      rcases List.mem_append.1 hb' with hb' | hb'
      · exact hfar x (List.mem_append_left _ hx) a hgx hb'
      · exact n1.2.2 a ha a (List.mem_append_right _ hb') rfl
  · intro g hgm
    rw [hset] at hgm
    simp only [blksOf, List.flatMap_append, List.flatMap_cons] at hgm
    have hcase : g ∈ o'.blks ∨ g ∈ blksOf os := by
      rcases List.mem_append.1 hgm with h1 | h1
      · obtain ⟨x, hx, hgx⟩ := List.mem_flatMap.1 h1
        exact .inr (List.mem_flatMap.2 ⟨x, List.mem_of_mem_take hx, hgx⟩)
      · rcases List.mem_append.1 h1 with h1 | h1
        · exact .inl h1
        · obtain ⟨x, hx, hgx⟩ := List.mem_flatMap.1 h1
          exact .inr (List.mem_flatMap.2 ⟨x, List.mem_of_mem_drop hx, hgx⟩)
    have hnew : w.heap.size ≤ g → (w0.heap.size ≤ g ∨ g ∈ F) ∧ ∀ off sp, z ⟨g, off, sp⟩ = none := by
      intro h2
      refine ⟨.inl (Nat.le_trans h.size h2), fun off sp => ?_⟩
      cases hz : z ⟨g, off, sp⟩ with
      | none => rfl
      | some v => have := h.zlt hz; simp at this; omega
    rcases hcase with h1 | h1
    · rcases hb g h1 with h2 | h2
      · exact h.new g (hold g h2)
      · exact hnew h2
    · exact h.new g h1

/-! ### 3. Calls that turn what is theirs -/
/-- A call that turns nothing of what was there but 'mine', and leaves mine' in its stead. -/
def Turn (w w' : World) (mine mine' : List Own) : Prop := Hp w w' (fun _ => none) (blksOf mine) mine'
theorem Fresh.turn (h : Fresh w w' os) : Turn w w' [] os := h
/-- What a call may have for its own. -/
def Mine (w : World) (mine : List Own) : Prop := (∀ o ∈ mine, o.at w) ∧ (blksOf mine).Nodup
/-- The cells off some blocks. -/
def off (w : World) (bs : List Nat) : Zone := fun a => if a.block ∈ bs then none else w.cell? a
theorem off_le (w : World) (bs : List Nat) : (off w bs).le w.cell? := by
  intro a v h
  unfold off at h
  split at h
  · cases h
  · exact h
theorem Hp.start_mine {mine : List Own} (h : Mine w mine) : Hp w w (off w (blksOf mine)) (blksOf mine) mine :=
  ⟨rfl, rfl, rfl, Nat.le_refl _, fun _ _ _ => rfl, off_le _ _, h.1, h.2, fun g hg => ⟨.inr hg, fun off sp => by simp [Go.SW.off, hg]⟩⟩
theorem Hp.start_none (w : World) : Hp w w (off w []) [] [] := Hp.start_mine (mine := []) ⟨by simp, by simp [blksOf]⟩
theorem Hp.mine {mine : List Own} (h : Hp w0 w z F (mine ++ os)) : Mine w mine :=
  ⟨fun o ho => h.own o (List.mem_append_left _ ho), h.nodup.sublist (blksOf_sublist (List.sublist_append_left _ _))⟩
theorem Hp.zoff {mine : List Own} (h : Hp w0 w z F (mine ++ os)) : z.le (off w (blksOf mine)) := by
  intro a v ha
  have h1 := h.zin a v ha
  have : a.block ∉ blksOf mine := fun hm => by
    have := (h.new a.block (by rw [blksOf, List.flatMap_append]; exact List.mem_append_left _ hm)).2 a.off a.spot
    rw [show (⟨a.block, a.off, a.spot⟩ : Addr) = a from rfl, ha] at this
    cases this
  simp [off, this, h1]
theorem Hp.zall (h : Hp w0 w z F os) : z.le (off w (blksOf os)) := by
  have : Hp w0 w z F (os ++ []) := by simpa using h
  exact this.zoff
/-- The end of such a call. -/
theorem Hp.turned {mine : List Own} (h : Hp w0 w z (blksOf mine) os) : Turn w0 w mine os :=
  ⟨h.os_, h.tape, h.output, h.size, h.keep, fun a v h => by simp at h, h.own, h.nodup, fun g hg => ⟨(h.new g hg).1, fun _ _ => rfl⟩⟩
/-- Behind such a call. -/
theorem Hp.turns {mine mine' : List Own} (h : Hp w0 w z F (mine ++ os)) (ht : Turn w w' mine mine') : Hp w0 w' z F (os ++ mine') := by
  have hsplit : blksOf (mine ++ os) = blksOf mine ++ blksOf os := List.flatMap_append
  have hnd := h.nodup
  rw [hsplit] at hnd
  have nd := List.nodup_append.1 hnd
  have hin : ∀ g, g ∈ blksOf mine → (w0.heap.size ≤ g ∨ g ∈ F) ∧ ∀ off sp, z ⟨g, off, sp⟩ = none := fun g hg => h.new g (by rw [hsplit]; exact List.mem_append_left _ hg)
  have hio : ∀ g, g ∈ blksOf os → (w0.heap.size ≤ g ∨ g ∈ F) ∧ ∀ off sp, z ⟨g, off, sp⟩ = none := fun g hg => h.new g (by rw [hsplit]; exact List.mem_append_right _ hg)
  have hlo : ∀ g, g ∈ blksOf os → g < w.heap.size := fun g hg => h.lt g (by rw [hsplit]; exact List.mem_append_right _ hg)
  refine ⟨ht.os_.trans h.os_, ht.tape.trans h.tape, ht.output.trans h.output, Nat.le_trans h.size ht.size, fun k hk hF => ?_, fun a v ha => ?_, fun o ho => ?_, ?_, ?_⟩
  · rw [ht.keep k (Nat.lt_of_lt_of_le hk h.size) (fun hm => ?_)]; exact h.keep k hk hF
    rcases (hin k hm).1 with h1 | h1
    · omega
    · exact hF h1
  · rw [cell?_congr (ht.keep _ (h.zlt ha) (fun hm => ?_))]; exact h.zin a v ha
    have := (hin _ hm).2 a.off a.spot
    rw [show (⟨a.block, a.off, a.spot⟩ : Addr) = a from rfl, ha] at this
    cases this
  · rcases List.mem_append.1 ho with ho | ho
    · refine Own.kept (h.own o (List.mem_append_right _ ho)) fun g hg => ht.keep g (Own.lt (h.own o (List.mem_append_right _ ho)) g hg) fun hm => ?_
      exact nd.2.2 g hm g (List.mem_flatMap.2 ⟨o, ho, hg⟩) rfl
    · exact ht.own o ho
  · rw [blksOf, List.flatMap_append]
    refine List.nodup_append.2 ⟨nd.2.1, ht.nodup, fun a ha b hb e => ?_⟩
    subst e
    rcases (ht.new a hb).1 with h1 | h1
    · have := hlo a ha; omega
    · exact nd.2.2 a h1 a ha rfl
  · intro g hg
    rw [blksOf, List.flatMap_append] at hg
    rcases List.mem_append.1 hg with hg | hg
    · exact hio g hg
    · rcases (ht.new g hg).1 with h1 | h1
      · refine ⟨.inl (Nat.le_trans h.size h1), fun off sp => ?_⟩
        cases hz : z ⟨g, off, sp⟩ with
        | none => rfl
        | some v => have := h.zlt hz; simp at this; omega
      · exact hin g h1
/-- Two such calls. -/
theorem Turn.trans {w'' : World} {a b c : List Own} (h : Turn w w' a b) (k : Turn w' w'' b c) : Turn w w'' a c := by
  have h' : Hp w w' (fun _ => none) (blksOf a) (b ++ []) := by rw [List.append_nil]; exact h
  have := h'.turns k
  rwa [List.nil_append] at this
/-- What is given away for good: it is read from now on. -/
theorem Hp.freeze (h : Hp w0 w z F os) (hs : os'.Sublist os) : Hp w0 w (off w (blksOf os')) F os' := by
  have h' := h.sublist hs
  exact ⟨h'.os_, h'.tape, h'.output, h'.size, h'.keep, off_le _ _, h'.own, h'.nodup, fun g hg => ⟨(h'.new g hg).1, fun a b => by simp [off, hg]⟩⟩
/-- In another order: by places. -/
def picks (os : List Own) (ks : List Nat) : List Own := ks.filterMap (os[·]?)
theorem Hp.pick (h : Hp w0 w z F os) (ks : List Nat) (hk : (ks.isPerm (List.range os.length)) = true) {os' : List Own} (e : picks os ks = os') : Hp w0 w z F os' := by
  subst e
  refine h.perm ?_
  have h1 : os = (List.range os.length).filterMap (os[·]?) := by
    apply List.ext_getElem?
    intro i
    by_cases hi : i < os.length
    · have : (List.range os.length).filterMap (os[·]?) = os := by
        have : ∀ (l : List Own), (List.range l.length).filterMap (l[·]?) = l := by
          intro l
          induction l with
          | nil => rfl
          | cons a l ih =>
            rw [List.length_cons, List.range_succ_eq_map, List.filterMap_cons]
            simp only [List.getElem?_cons_zero, List.filterMap_map, Function.comp_def, List.getElem?_cons_succ]
            rw [ih]
        exact this os
      rw [this]
    · have : (List.range os.length).filterMap (os[·]?) = os := by
        have : ∀ (l : List Own), (List.range l.length).filterMap (l[·]?) = l := by
          intro l
          induction l with
          | nil => rfl
          | cons a l ih =>
            rw [List.length_cons, List.range_succ_eq_map, List.filterMap_cons]
            simp only [List.getElem?_cons_zero, List.filterMap_map, Function.comp_def, List.getElem?_cons_succ]
            rw [ih]
        exact this os
      rw [this]
  have h2 := (List.isPerm_iff.1 hk).symm.filterMap (os[·]?)
  rw [← h1] at h2
  exact h2
theorem blksOf_append (a b : List Own) : blksOf (a ++ b) = blksOf a ++ blksOf b := List.flatMap_append
theorem blksOf_cons (a : Own) (b : List Own) : blksOf (a :: b) = a.blks ++ blksOf b := rfl
/-- A group is its members. -/
theorem Hp.open_ {l r : List Own} (h : Hp w0 w z F (.grp l :: r)) : Hp w0 w z F (l ++ r) := by
  have e : blksOf (.grp l :: r) = blksOf (l ++ r) := by rw [blksOf_append]; rfl
  refine ⟨h.os_, h.tape, h.output, h.size, h.keep, h.zin, fun o ho => ?_, e ▸ h.nodup, fun g hg => h.new g (e ▸ hg)⟩
  rcases List.mem_append.1 ho with ho | ho
  · exact (h.own (.grp l) (by simp)) o ho
  · exact h.own o (List.mem_cons_of_mem _ ho)
theorem Hp.close {l r : List Own} (h : Hp w0 w z F (l ++ r)) : Hp w0 w z F (.grp l :: r) := by
  have e : blksOf (.grp l :: r) = blksOf (l ++ r) := by rw [blksOf_append]; rfl
  refine ⟨h.os_, h.tape, h.output, h.size, h.keep, h.zin, fun o ho => ?_, e ▸ h.nodup, fun g hg => h.new g (e ▸ hg)⟩
  rcases List.mem_cons.1 ho with rfl | ho
  · exact fun o ho => h.own o (List.mem_append_left _ ho)
  · exact h.own o (List.mem_append_right _ ho)
/-- One more in a group. -/
theorem Hp.merge {l r : List Own} {o : Own} (h : Hp w0 w z F (.grp l :: o :: r)) : Hp w0 w z F (.grp (l ++ [o]) :: r) := by
  have h1 : Hp w0 w z F (l ++ (o :: r)) := h.open_
  have h2 : Hp w0 w z F ((l ++ [o]) ++ r) := by rw [List.append_assoc]; exact h1
  exact h2.close
theorem Hp.nogrp (h : Hp w0 w z F os) : Hp w0 w z F (os ++ [.grp []]) :=
  h.call ⟨rfl, rfl, rfl, Nat.le_refl _, fun _ _ _ => rfl, fun a v h => by simp at h, by intro o ho; simp only [List.mem_singleton] at ho; subst ho; intro o ho; simp at ho, by simp [blksOf, Own.grp], by simp [blksOf, Own.grp]⟩
theorem Hp.cast (h : Hp w0 w z F os) (e : os = os') : Hp w0 w z F os' := e ▸ h
end
end Go.SW
