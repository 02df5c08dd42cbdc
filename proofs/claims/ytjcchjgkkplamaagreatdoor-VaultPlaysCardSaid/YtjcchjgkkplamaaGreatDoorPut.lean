/- Layer 20 (vault): an inbox in any state: Put and Want; the parts of a snapshot as they are read. -/
import Derived.Test.YtjcchjgkkplamaaGreatDoorWant
import Derived.Test.YtjcchjgkkplamaaGreatDoorCode
set_option maxRecDepth 100000
set_option maxHeartbeats 2000000
set_option linter.unusedVariables false
set_option linter.unusedSimpArgs false
namespace Go.Proofs.YtjcchjgkkplamaaGreatDoor
open Go.RowKit Go.SW
structure Ibx.Fit (S : Ibx) (l : List (Int × Value)) : Prop where
  ok : S.Ok
  lis : S.many ≠ 0 → l = kv S.rs
  nil : S.new = none → S.many = 0 ∧ S.rs = []
theorem fit_new : Ibx.Fit ⟨none, 0, []⟩ [] := ⟨⟨by simp, .inl rfl, by simp⟩, fun h => absurd rfl h, fun _ => ⟨rfl, rfl⟩⟩
theorem putI_fit {S : Ibx} {l : List (Int × Value)} (h : S.Fit l) (p : Prt) (nv : Value) : (putI S p nv).1.Ok ∧ ((putI S p nv).1.new = none → (putI S p nv).1.many = 0 ∧ (putI S p nv).1.rs = []) := by
  by_cases hm : mayP p = true
  · have hq := mayP_true hm
    cases hb : baseI S p with
    | none => rw [putI_ref nv hm hb]; exact ⟨h.ok, h.nil⟩
    | some rs =>
      have hsh : ∀ r ∈ rs, r.2.2.length ≤ 512 := by
        unfold baseI at hb
        split at hb
        · cases hb; simp
        split at hb
        · cases hb; simp
        split at hb
        · cases hb; exact h.ok.short
        · cases hb
      by_cases hl : (withP rs p nv).length < p.many.toNat
      · rw [putI_few nv hm hb hl]
        exact ⟨⟨by simp only; omega, .inr hl, withP_short hsh hq.2.2.2.2.2 nv⟩, fun h => by cases h⟩
      · rw [putI_end nv hm hb hl]
        exact ⟨⟨by simp, .inl rfl, by simp⟩, fun h => by cases h⟩
  · rw [putI_no nv (by simpa using hm)]; exact ⟨h.ok, h.nil⟩
theorem Put_ct (xb nb mb : Nat) (S : Ibx) (l : List (Int × Value)) (p : Prt) (vb : Value) (w : World) (hM : Mine w [.grp (ibxO xb nb mb S l)]) (hb : RB (off w (blksOf [.grp (ibxO xb nb mb S l)])) vb p.bytes) (hp : p.I64) (hF : S.Fit l) :
    Fun Tryz.prog 25 [.pointer (some ⟨xb, 0, none⟩), .agg #[.int .i64 p.idx, .int .i64 p.term, .int .i64 p.n, .int .i64 p.many, vb]] w fun v w' => ∃ nv nb' l' v1 v2 R,
      v = .tuple #[.agg #[.int .i64 R.2.1.idx, .int .i64 R.2.1.term, v1, v2], .bool R.2.2.1, errV R.2.2.2] ∧ R = putI S p nv ∧ R.1.Fit l' ∧
      Turn w w' [.grp (ibxO xb nb mb S l)] [.grp (ibxO xb nb' mb R.1 l'), .row v1 5 1 R.2.1.conf.length (bv R.2.1.conf), .row v2 5 1 R.2.1.data.length (bv R.2.1.data)] := by
  obtain ⟨new, many, rs⟩ := S
  cases new with
  | none =>
    obtain ⟨h1, h2⟩ := hF.nil rfl
    simp only at h1 h2
    subst h1; subst h2
    refine (PutN_ct xb nb mb l p vb w hM hb hp).mono ?_
    rintro v w' ⟨nv, nb', l', v1, v2, e, hl, ht⟩
    exact ⟨nv, nb', l', v1, v2, _, e, rfl, ⟨(putI_fit hF p nv).1, hl, (putI_fit hF p nv).2⟩, ht⟩
  | some u =>
    obtain ⟨tn, ix⟩ := u
    refine (PutS_ct xb nb mb tn ix many rs l p vb w hM hb hp hF.ok hF.lis).mono ?_
    rintro v w' ⟨nv, nb', l', v1, v2, e, hl, ht⟩
    exact ⟨nv, nb', l', v1, v2, _, e, rfl, ⟨(putI_fit hF p nv).1, hl, (putI_fit hF p nv).2⟩, ht⟩
theorem Want_ct (xb nb mb : Nat) (S : Ibx) (l : List (Int × Value)) (w : World) (hM : Mine w [.grp (ibxO xb nb mb S l)]) (hF : S.Fit l) :
    Fun Tryz.prog 26 [.pointer (some ⟨xb, 0, none⟩)] w fun v w' => v = .tuple #[.int .i64 (wantI S).1, .int .i64 (wantI S).2.1, .int .i64 (wantI S).2.2] ∧ Turn w w' [.grp (ibxO xb nb mb S l)] [.grp (ibxO xb nb mb S l)] := by
  obtain ⟨new, many, rs⟩ := S
  cases new with
  | none =>
    obtain ⟨h1, h2⟩ := hF.nil rfl
    simp only at h1 h2
    subst h1; subst h2
    exact WantN_ct xb nb mb l w hM
  | some u =>
    obtain ⟨tn, ix⟩ := u
    exact WantS_ct xb nb mb tn ix many rs l w hM hF.ok.many hF.lis
/-! ### Parts -/
theorem partsC_all (i t : Int) (many : Nat) (vs : List Value) (k : Nat) (hk : k < vs.length) : ∀ j u, [Value.int .i64 i, .int .i64 t, .int .i64 ((k : Nat) : Int), .int .i64 ((many : Nat) : Int), vs.getD k undef][j]? = some u → (partsC i t many vs)[k * 5 + j]? = some u := by
  intro j u hu
  have hj : j < 5 := by simpa using (List.getElem?_eq_some_iff.1 hu).1
  rw [partsC_get i t many vs k j hk hj, hu]
theorem part_at {w : World} {e : TypeId} {b : List UInt8} {vs : List Value} (h : (Own.grp (partOwn e b vs)).at w) (j : Nat) (hj : j < vs.length) : w.ownsRow 0 e 1 (vs.getD j undef) (chunkB b j).length (bv (chunkB b j)) :=
  h _ (partOwn_mem e b vs j hj)
theorem part_rb {w0 w : World} {z : Zone} {F : List Nat} {os : List Own} (hH : Hp w0 w z F os) (q : Nat) {e : TypeId} {b : List UInt8} {vs : List Value} (hq : os[q]? = some (.grp (partOwn e b vs))) (j : Nat) (hj : j < vs.length) : RB w.cell? (vs.getD j undef) (chunkB b j) :=
  Row.of_own (part_at (hH.own _ (List.mem_of_getElem? hq)) j hj)
theorem off_row {w0 w : World} {z : Zone} {F : List Nat} {mine os : List Own} (hH : Hp w0 w z F (mine ++ os)) {o : Own} (ho : o ∈ os) {v : Value} {e : TypeId} {m n : Nat} {xs : List Value} (hr : w.ownsRow 0 e m v n xs) (hb : ∀ g, v.ownBlock = some g → g ∈ o.blks) :
    Row (off w (blksOf mine)) v m n xs := by
  have hrow := Row.of_own hr
  obtain ⟨h0, A, cap, rfl, h1, h2, h3⟩ := hrow
  refine ⟨h0, A, cap, rfl, h1, h2, fun j u hu => ?_⟩
  obtain ⟨ad, rfl, hc⟩ := h3 j u hu
  refine ⟨ad, rfl, ?_⟩
  have hblk : (ad.add j).block = ad.block := by unfold Addr.add; split <;> rfl
  have hg : ad.block ∈ o.blks := by
    rcases hr.2 with ⟨hv, _⟩ | ⟨g, cap', cur, hv, _⟩
    · cases hv
    · cases hv
      exact hb _ rfl
  have hn := hH.nodup
  rw [blksOf_append] at hn
  have hnot : ad.block ∉ blksOf mine := fun hm => (List.nodup_append.1 hn).2.2 _ hm _ (List.mem_flatMap.2 ⟨o, ho, hg⟩) rfl
  unfold off
  rw [hblk, if_neg hnot]
  exact hc
theorem part_off {w0 w : World} {z : Zone} {F : List Nat} {mine os : List Own} (hH : Hp w0 w z F (mine ++ os)) (q : Nat) {e : TypeId} {b : List UInt8} {vs : List Value} (hq : os[q]? = some (.grp (partOwn e b vs))) (j : Nat) (hj : j < vs.length) : RB (off w (blksOf mine)) (vs.getD j undef) (chunkB b j) := by
  have hm := List.mem_of_getElem? hq
  refine off_row hH hm (part_at (hH.own _ (List.mem_append_right _ hm)) j hj) (fun g hg => ?_)
  refine List.mem_flatMap.2 ⟨_, partOwn_mem e b vs j hj, ?_⟩
  show g ∈ (vs.getD j undef).ownBlock.toList
  rw [hg]; simp
/-! ### The parts of a snapshot, put -/
def partP (i t : Int) (b : List UInt8) (k : Nat) : Prt := ⟨i, t, (k : Int), ((nch b.length : Nat) : Int), chunkB b k⟩
/-- A snapshot that may be taken apart. -/
structure Whole (i t : Int) (cf dt b : List UInt8) : Prop where
  i0 : 0 ≤ i
  t0 : 0 ≤ t
  bytes : bytesV i t cf dt = (b, 0)
  few : nch b.length ≤ 1024
  pos : 0 < b.length
  i1 : i ≤ 9223372036854775807
  t1 : t ≤ 9223372036854775807
theorem whole_of_split {i t : Int} {cf dt : List UInt8} (hi : i ≤ 9223372036854775807) (ht : t ≤ 9223372036854775807) (h : splitE i t cf dt = 0) : Whole i t cf dt (splitB i t cf dt) := by
  have h1 : (bytesV i t cf dt).2 = 0 := by
    refine Classical.byContradiction fun hc => ?_
    rw [(bytesV_err hc).1] at h; exact hc h
  have h2 : ¬ 1024 < nch (bytesV i t cf dt).1.length := by
    intro hc
    rw [(split_long h1 hc).1] at h; exact absurd h (by decide)
  have hb := (split_ok h1 h2).2
  have hi0 : ¬ i < 0 := by intro hh; unfold bytesV at h1; rw [if_pos hh] at h1; exact absurd h1 (by decide)
  have ht0 : ¬ t < 0 := by intro hh; unfold bytesV at h1; rw [if_neg hi0, if_pos hh] at h1; exact absurd h1 (by decide)
  have hc0 : ¬ 65536 < cf.length := by intro hh; unfold bytesV at h1; rw [if_neg hi0, if_neg ht0, if_pos hh] at h1; exact absurd h1 (by decide)
  have hs0 : ¬ 1048576 < (snapB i t cf dt).length := by intro hh; unfold bytesV at h1; rw [if_neg hi0, if_neg ht0, if_neg hc0, if_pos hh] at h1; exact absurd h1 (by decide)
  have e : bytesV i t cf dt = (frameB (snapB i t cf dt), 0) := by unfold bytesV; rw [if_neg hi0, if_neg ht0, if_neg hc0, if_neg hs0]
  rw [hb]
  exact ⟨by omega, by omega, by rw [e], by omega, by rw [e]; simp only [frameB_length]; omega, hi, ht⟩
theorem Whole.n1 {i t : Int} {cf dt b : List UInt8} (h : Whole i t cf dt b) : 1 ≤ nch b.length := by have := h.pos; unfold nch; omega
theorem Whole.mayP {i t : Int} {cf dt b : List UInt8} (h : Whole i t cf dt b) (k : Nat) (hk : k < nch b.length) : mayP (partP i t b k) = true := by
  have h1 := h.i0; have h2 := h.t0; have h3 := h.few
  have hl := chunkB_length b k
  have hk2 := hk
  unfold nch at hk2
  unfold Go.Proofs.YtjcchjgkkplamaaGreatDoor.mayP partP
  simp only
  rw [if_neg (by omega), if_neg (by omega), if_neg (by omega)]
  split
  · rename_i hlt
    unfold nch at hlt
    have : (chunkB b k).length = 512 := by omega
    simp [this]
  · rw [if_pos (by omega)]
    simp; omega
theorem Whole.i64 {i t : Int} {cf dt b : List UInt8} (h : Whole i t cf dt b) (k : Nat) (hk : k < nch b.length) : (partP i t b k).I64 := by
  have h1 := h.i0; have h2 := h.t0; have h3 := h.few; have h4 := h.i1; have h5 := h.t1
  exact ⟨⟨by simp only [partP]; omega, by simp only [partP]; omega⟩, ⟨by simp only [partP]; omega, by simp only [partP]; omega⟩, ⟨by simp only [partP]; omega, by simp only [partP]; omega⟩, ⟨by simp only [partP]; omega, by simp only [partP]; omega⟩⟩
theorem Whole.read {i t : Int} {cf dt b : List UInt8} (h : Whole i t cf dt b) : readV b = (⟨i, t, cf, dt⟩, 0) := by
  have := readV_bytesV (i := i) (t := t) (cf := cf) (dt := dt) h.i1 h.t1 (by rw [h.bytes])
  rwa [h.bytes] at this
/-- All parts are there: the snapshot. -/
theorem joinI_all {rs : List (Int × Value × List UInt8)} {b : List UInt8} (h : ∀ k : Nat, k < nch b.length → rowOf rs (k : Int) = chunkB b k) : joinI rs (nch b.length) = b := by
  have e : joinI rs (nch b.length) = (List.range (nch b.length)).flatMap (chunkB b) := by
    unfold joinI
    rw [List.flatMap_def, List.flatMap_def]
    congr 1
    exact List.map_congr_left fun k hk => h k (List.mem_range.1 hk)
  rw [e, chunks_join]
theorem Whole.done {i t : Int} {cf dt b : List UInt8} (h : Whole i t cf dt b) (k : Nat) : endI (partP i t b k) b = (⟨i, t, cf, dt⟩, true, 0) := by
  have hr := h.read
  rw [endI_ok (by rw [hr]) (by rw [hr]; exact ⟨rfl, rfl⟩), hr]
/-- A part of an older snapshot, or of one that is collected: refused. -/
theorem older_not {S : Ibx} {tn ix : Int} (hn : S.new = some (tn, ix)) {i t : Int} (hold : t < tn ∨ t = tn ∧ i < ix) {b : List UInt8} (k : Nat) : baseI S (partP i t b k) = none := by
  unfold baseI
  rw [hn]
  simp only
  rw [if_neg ?_, if_neg ?_]
  · rintro ⟨h1, _⟩
    simp only [partP, Prod.mk.injEq] at h1
    omega
  · intro hh
    unfold olderW partP at hh
    rw [Bool.or_eq_true, Bool.and_eq_true, beq_iff_eq] at hh
    rcases hh with hh | ⟨hh, hh'⟩
    · have := of_decide_eq_true hh; simp only at this; omega
    · have := of_decide_eq_true hh'; simp only at this hh; omega
theorem has_cons (k : Int) (v : Value) (c : List UInt8) (rs : List (Int × Value × List UInt8)) (j : Int) : has ((k, v, c) :: rs) j = (k == j || has rs j) := by
  unfold has
  rw [List.find?_cons]
  cases h : (k == j) <;> simp [h]
/-- The first part that comes. -/
theorem put_first {i t : Int} {cf dt b : List UInt8} (h : Whole i t cf dt b) (k : Nat) (hk : k < nch b.length) (v : Value) :
    putI ⟨none, 0, []⟩ (partP i t b k) v = if nch b.length = 1 then (⟨some (t, i), 0, []⟩, ⟨i, t, cf, dt⟩, true, 0) else (⟨some (t, i), nch b.length, [((k : Int), v, chunkB b k)]⟩, Snp.none, false, 0) := by
  have hm := h.mayP k hk
  have hw : withP [] (partP i t b k) v = [((k : Int), v, chunkB b k)] := withP_new v rfl
  have hn := h.n1
  by_cases h1 : nch b.length = 1
  · rw [if_pos h1, putI_end (rs := []) v hm rfl (by rw [hw]; simp [partP, h1]), hw]
    obtain rfl : k = 0 := by omega
    have hj : joinI [(((0 : Nat) : Int), v, chunkB b 0)] (partP i t b 0).many.toNat = b := by
      have := joinI_all (rs := [(((0 : Nat) : Int), v, chunkB b 0)]) (b := b) (fun k hk => by
        have hk0 : k = 0 := by omega
        subst hk0
        simp [rowOf])
      simpa [partP] using this
    rw [hj, h.done 0]
    rfl
  · rw [if_neg h1, putI_few (rs := []) v hm rfl (by rw [hw]; simp [partP]; omega), hw]
    rfl
end Go.Proofs.YtjcchjgkkplamaaGreatDoor

