/- Gg: several texts in one. -/
import Derived.Test.YtllfpnbhjfadiaaGreatDoorGf
import Derived.Test.YtllfpnbhjfadiaaGreatDoorGb
import Derived.Test.YtllfpnbhjfadiaaGreatDoorGd
import Derived.Lib.LaidIn
import Derived.Lib.LaidSlice
import Derived.Lib.LaidU8T
import Derived.Lib.LaidPrint
import Derived.Lib.QuoteLoop
/- Layer 9 (code): programs compared; what holds of the program of a grammar. Plain mathematics. -/
set_option linter.unusedVariables false
namespace Go.Proofs.YtllfpnbhjfadiaaGreatDoor
open Go.RowKit Go.SW
theorem beq_drop {α : Type} [BEq α] [LawfulBEq α] {l m : List α} {i : Nat} {x y : α} (hx : l[i]? = some x) (hy : m[i]? = some y) : (l.drop i == m.drop i) = (x == y && (l.drop (i + 1) == m.drop (i + 1))) := by
  obtain ⟨h1, rfl⟩ := List.getElem?_eq_some_iff.1 hx
  obtain ⟨h2, rfl⟩ := List.getElem?_eq_some_iff.1 hy
  rw [List.drop_eq_getElem_cons h1, List.drop_eq_getElem_cons h2]; rfl
theorem beq_no {α : Type} [BEq α] [LawfulBEq α] {l m : List α} {i : Nat} {x y : α} (h : (l == m) = (l.drop i == m.drop i)) (hx : l[i]? = some x) (hy : m[i]? = some y) (hn : x ≠ y) : (l == m) = false := by
  rw [h, beq_drop hx hy, beq_eq_false_iff_ne.2 hn]; rfl
theorem beq_go {α : Type} [BEq α] [LawfulBEq α] {l m : List α} {i : Nat} {x y : α} (h : (l == m) = (l.drop i == m.drop i)) (hx : l[i]? = some x) (hy : m[i]? = some y) (hn : x = y) : (l == m) = (l.drop (i + 1) == m.drop (i + 1)) := by
  rw [h, beq_drop hx hy, beq_iff_eq.2 hn]; rfl
theorem beq_end {α : Type} [BEq α] [LawfulBEq α] {l m : List α} {i : Nat} (h : (l == m) = (l.drop i == m.drop i)) (hl : l.length = m.length) (hi : l.length ≤ i) : (l == m) = true := by
  rw [h, List.drop_eq_nil_of_le hi, List.drop_eq_nil_of_le (by omega)]; rfl
theorem beq_len {α : Type} [BEq α] [LawfulBEq α] {l m : List α} (h : l.length ≠ m.length) : (l == m) = false := beq_eq_false_iff_ne.2 fun e => h (congrArg List.length e)
instance : DecidableEq Cl := fun a b => decidable_of_iff (a.a = b.a ∧ a.b = b.b ∧ a.c = b.c ∧ a.d = b.d) (by cases a; cases b; simp)
instance : DecidableEq Op := fun a b => decidable_of_iff (a.k = b.k ∧ a.t = b.t ∧ a.c = b.c ∧ a.s = b.s) (by cases a; cases b; simp)
def clB (a b : Cl) : Bool := a.a == b.a && (a.b == b.b && (a.c == b.c && a.d == b.d))
def alikeB (a b : Op) : Bool := a.k == b.k && a.t == b.t && clB a.c b.c && a.s == b.s
theorem alikeB_iff (a b : Op) : alikeB a b = decide (a = b) := by
  obtain ⟨k, t, ⟨c0, c1, c2, c3⟩, s⟩ := a
  obtain ⟨k', t', ⟨d0, d1, d2, d3⟩, s'⟩ := b
  rw [Bool.eq_iff_iff]
  unfold alikeB clB
  simp only [Bool.and_eq_true, beq_iff_eq, decide_eq_true_eq, Op.mk.injEq, Cl.mk.injEq]
  constructor
  · rintro ⟨⟨⟨h1, h2⟩, h3, h4, h5, h6⟩, h7⟩; exact ⟨h1, h2, ⟨h3, h4, h5, h6⟩, h7⟩
  · rintro ⟨h1, h2, ⟨h3, h4, h5, h6⟩, h7⟩; exact ⟨⟨⟨h1, h2⟩, h3, h4, h5, h6⟩, h7⟩
def pgB (a b : Pg) : Bool := a.roots == b.roots && a.names == b.names && a.ops == b.ops
def UpOk (N : Nat) (o : Op) (i : Nat) : Prop := if o.k = 5 then ∀ q ∈ o.s, 0 ≤ q ∧ q < N else ∀ q ∈ o.s, 0 ≤ q ∧ q < i
structure MInv (N : Nat) (S : Ms) : Prop where
  key : ∀ i o, S.ops[i]? = some o → getT S.kn (keyF o) = some i
  up : ∀ i o, S.ops[i]? = some o → UpOk N o i
  kn : KnOk S
theorem MInv.nil (N : Nat) : MInv N ⟨[], []⟩ := ⟨fun i o h => by simp at h, fun i o h => by simp at h, fun p hp => by cases hp⟩
theorem MInv.add {N : Nat} {S : Ms} {o : Op} (h : MInv N S) (ho : UpOk N o S.ops.length) : MInv N (addM o S).2 := by
  have h3 := (addM_ok (o := o) h.kn).1
  refine ⟨?_, ?_, h3⟩
  all_goals unfold addM
  all_goals split
  · exact h.key
  · rename_i e
    intro i x hx
    show getT (putT S.kn (keyF o) S.ops.length) (keyF x) = some i
    rw [getT_put]
    have hx : (S.ops ++ [o])[i]? = some x := hx
    rcases Nat.lt_or_ge i S.ops.length with hi | hi
    · rw [List.getElem?_append_left hi] at hx
      have h1 := h.key i x hx
      by_cases e2 : keyF o = keyF x
      · rw [← e2, e] at h1; cases h1
      · rw [if_neg e2]; exact h1
    · rw [List.getElem?_append_right hi] at hx
      have h2 := List.getElem?_eq_some_iff.1 hx
      simp only [List.length_cons, List.length_nil] at h2
      obtain ⟨h2, h4⟩ := h2
      have : i = S.ops.length := by omega
      subst this
      simp at h4
      rw [h4, if_pos rfl]
  · exact h.up
  · intro i x hx
    have hx : (S.ops ++ [o])[i]? = some x := hx
    rcases Nat.lt_or_ge i S.ops.length with hi | hi
    · rw [List.getElem?_append_left hi] at hx
      exact h.up i x hx
    · rw [List.getElem?_append_right hi] at hx
      have h2 := List.getElem?_eq_some_iff.1 hx
      simp only [List.length_cons, List.length_nil] at h2
      obtain ⟨h2, h4⟩ := h2
      have : i = S.ops.length := by omega
      subst this
      simp at h4
      rw [← h4]; exact ho
def KnB (rs : List Rl) (n : Nd) : Prop := ∃ st, (refsF (knownP (placesF 0 rs [])) n st).1 = true
def ExI (rs : List Rl) (n : Nd) : Prop := ∀ S : Ms, KnB rs n → MInv rs.length S → MInv rs.length (exprM rs n S).2
theorem kids_I {rs : List Rl} : ∀ (s : List Nd) (S : Ms), (∀ x ∈ s, ExI rs x) → (∀ x ∈ s, KnB rs x) → MInv rs.length S → MInv rs.length (kidsM rs s S).2
  | [], S, H, K, h => by rw [kidsM]; exact h
  | x :: s, S, H, K, h => by
    rw [kidsM]
    exact kids_I s _ (fun y hy => H y (List.mem_cons_of_mem x hy)) (fun y hy => K y (List.mem_cons_of_mem x hy)) (H x (List.mem_cons_self ..) S (K x (List.mem_cons_self ..)) h)
theorem knb_fs {rs : List Rl} : ∀ {s : List Nd} {st : Int}, (refsFs (knownP (placesF 0 rs [])) s st).1 = true → ∀ x ∈ s, KnB rs x
  | y :: s, st, h, x, hx => by
    obtain ⟨h1, h2⟩ := refs_cons h
    rcases List.mem_cons.1 hx with rfl | hx
    · exact ⟨st, h1⟩
    · exact knb_fs h2 x hx
theorem knb_parts {rs : List Rl} {k : Int} {t : List UInt8} {c : Cl} {s : List Nd} {p : Int} (h : KnB rs (.mk k t c s p)) : (∀ x ∈ s, KnB rs x) ∧ (k = 5 → 0 ≤ findF t rs ∧ findF t rs < rs.length) := by
  obtain ⟨st, h⟩ := h
  rw [refsF] at h
  by_cases hk : k = 5
  · rw [if_pos hk] at h
    split at h
    · rename_i h1
      refine ⟨knb_fs h, fun _ => findF_known ?_⟩
      rcases places_mem (show (getT (placesF 0 rs []) t).isSome = true from h1) with h2 | h2
      · cases h2
      · exact h2
    · cases h
  · rw [if_neg hk] at h
    exact ⟨knb_fs h, fun e => absurd e hk⟩
theorem ex_I (rs : List Rl) (n : Nd) : ExI rs n := by
  suffices ∀ N, ∀ n : Nd, n.size ≤ N → ExI rs n from this _ n (Nat.le_refl _)
  intro N
  induction N with
  | zero => intro n hn; cases n; rw [Nd.size] at hn; omega
  | succ N ih =>
    intro n hn
    cases n with
    | mk k t c s p =>
      rw [Nd.size] at hn
      intro S hK h
      obtain ⟨h1, h2⟩ := knb_parts hK
      have hi := kids_I s S (fun x hx => ih x (by have := Nd.size_mem hx; omega)) h1 h
      have hk := kids_ok s S (fun x hx => ex_ok rs x) h.kn
      rw [exprM]
      refine hi.add ?_
      unfold UpOk opM
      by_cases e : k = 5
      · rw [if_pos e, if_pos e]
        intro q hq
        rw [List.mem_singleton.1 hq]; exact h2 e
      · rw [if_neg e, if_neg e]
        exact hk.2.1
theorem roots_I {rs : List Rl} : ∀ (l : List Rl) (S : Ms), (∀ r ∈ l, KnB rs r.body) → MInv rs.length S → MInv rs.length (rootsM rs l S).2
  | [], S, _, h => by rw [rootsM]; exact h
  | r :: l, S, K, h => by
    rw [rootsM]
    exact roots_I l _ (fun y hy => K y (List.mem_cons_of_mem r hy)) (ex_I rs r.body S (K r (List.mem_cons_self ..)) h)
theorem snd_ok {rs : List Rl} (h : (soundF rs).isNil = true) : (scopeF rs).isNil = true := by
  cases h1 : (scopeF rs).isNil
  · rw [snd_scope h1, h1] at h; exact h
  · rfl
theorem known_all {rs : List Rl} (h : (soundF rs).isNil = true) : ∀ r ∈ rs, KnB rs r.body := fun r hr => ⟨0, names_nil (scope_names (snd_ok h)) r hr⟩
theorem mk0_inv {rs : List Rl} (h : (soundF rs).isNil = true) : MInv rs.length (mk0 rs).2 := roots_I rs _ (known_all h) (MInv.nil _)
theorem mk0_once {rs : List Rl} (h : (soundF rs).isNil = true) {i j : Nat} {a b : Op} (ha : (mk0 rs).2.ops[i]? = some a) (hb : (mk0 rs).2.ops[j]? = some b) (hij : i ≠ j) : a ≠ b := by
  rintro rfl
  have h1 := (mk0_inv h).key i a ha
  rw [(mk0_inv h).key j a hb] at h1
  cases h1; exact hij rfl
def Rl.sizes : List Rl → Nat
  | [] => 0
  | r :: rs => r.body.size + Rl.sizes rs
theorem roots_len {g : List Rl} : ∀ (l : List Rl) (S : Ms), KnOk S → (rootsM g l S).2.ops.length ≤ S.ops.length + Rl.sizes l
  | [], S, h => by rw [rootsM]; exact Nat.le_add_right _ _
  | r :: l, S, h => by
    obtain ⟨h1, h2, h3, h4⟩ := ex_ok g r.body S h
    have := roots_len (g := g) l (exprM g r.body S).2 h1
    rw [rootsM, Rl.sizes]
    show (rootsM g l (exprM g r.body S).2).2.ops.length ≤ _
    omega
theorem mk0_len (rs : List Rl) : (mk0 rs).2.ops.length ≤ Rl.sizes rs := by
  have := roots_len (g := rs) rs ⟨[], []⟩ (fun p hp => by cases hp)
  simp only [List.length_nil, Nat.zero_add] at this
  exact this
theorem Rl.sizes_at {s : List Rv} {i : Nat} {x : Rv} (h : s[i]? = some x) : Rl.sizes ((s.take (i + 1)).map Rv.rl) = Rl.sizes ((s.take i).map Rv.rl) + x.body.size := by
  rw [List.take_add_one, h]
  have : ∀ (a : List Rl) (b : Rl), Rl.sizes (a ++ [b]) = Rl.sizes a + b.body.size := by
    intro a b
    induction a with
    | nil => simp [Rl.sizes]
    | cons y a ih => rw [List.cons_append, Rl.sizes, Rl.sizes, ih]; omega
  simp only [Option.toList_some, List.map_append, List.map_cons, List.map_nil]
  rw [this]
  show _ + x.body.nd.size = _
  rw [Tv.nd_size]
theorem Rl.sizes_le : ∀ s : List Rv, Rl.sizes (s.map Rv.rl) ≤ Rv.sizes s
  | [] => Nat.le_refl _
  | r :: s => by
    have := Rl.sizes_le s
    rw [List.map_cons, Rl.sizes, Rv.sizes]
    show r.body.nd.size + _ ≤ _
    rw [Tv.nd_size]; omega
theorem Rv.sizes_take {s : List Rv} (i : Nat) : Rv.sizes (s.take i) ≤ Rv.sizes s := by
  induction s generalizing i with
  | nil => simp
  | cons r s ih =>
    cases i with
    | zero => exact Nat.zero_le _
    | succ i => rw [List.take_succ_cons, Rv.sizes, Rv.sizes]; have := ih i; omega
end Go.Proofs.YtllfpnbhjfadiaaGreatDoor
/- Layer 9 (code): Make: what the program's function answers. -/
set_option maxRecDepth 100000
set_option maxHeartbeats 2000000
set_option linter.unusedVariables false
set_option linter.unusedSimpArgs false
namespace Go.Proofs.YtllfpnbhjfadiaaGreatDoor
open Go.RowKit Go.SW
def sC (s : List UInt8) : List Value := [.string (bs s)]
theorem sC_len (s : List UInt8) : (sC s).length = 1 := rfl
def MkPost (m : Er5 × Pg) (w : World) (v : Value) (w' : World) : Prop := ∃ (l : List Ov) (A1 A2 A3 : Option Addr) (c1 c2 c3 : Nat) (pl : Pl) (fb : Nat),
  v = .tuple #[.agg #[.slice A1 l.length c1, .slice A2 m.2.names.length c2, .slice A3 m.2.roots.length c3], erV m.1 fb] ∧ l.map Ov.o = m.2.ops ∧ OvsOk (pz pl) l ∧
  Fresh w w' [.row (.slice A1 l.length c1) 45 7 l.length (rowC opC l), .row (.slice A2 m.2.names.length c2) 9 1 m.2.names.length (rowC sC m.2.names), .row (.slice A3 m.2.roots.length c3) 3 1 m.2.roots.length (rowC iC m.2.roots), plO pl, erO m.1 fb]
theorem mk_no {e : Er5} {rs : List Rl} {fb : Nat} {w w' : World} {z : Zone} (h : makeF rs = (e, .no)) (hH : Hp w w' z [] [erO e fb]) : MkPost (makeF rs) w (.tuple #[.agg #[.slice none 0 0, .slice none 0 0, .slice none 0 0], erV e fb]) w' := by
  rw [h]
  refine ⟨[], none, none, none, 0, 0, 0, [], fb, rfl, rfl, (fun x hx => by cases hx), ?_⟩
  have h1 := (((hH.nilRow 45 7).nilRow 9 1).nilRow 3 1).pool
  exact (h1.pick [1, 2, 3, 4, 0] rfl rfl).fresh
theorem mk_bad {rs : List Rl} (h : (soundF rs).isNil = false) : makeF rs = (soundF rs, .no) := by unfold makeF; rw [h]; rfl
theorem mk_big {rs : List Rl} (h : (soundF rs).isNil = true) (h2 : 200 < (mk0 rs).2.ops.length) : makeF rs = (.no 2, .no) := by unfold makeF; rw [if_pos h, if_pos h2]
theorem mk_ok {rs : List Rl} (h : (soundF rs).isNil = true) (h2 : ¬ 200 < (mk0 rs).2.ops.length) : makeF rs = (.nil, ⟨(mk0 rs).2.ops, rs.map (·.name), (mk0 rs).1.map Int.ofNat⟩) := by unfold makeF; rw [if_pos h, if_neg h2]
theorem names_take {rs : List Rv} {i : Nat} {r : Rv} (h : rs[i]? = some r) : (rs.take (i + 1)).map Rv.name = (rs.take i).map Rv.name ++ [r.name] := by
  rw [List.take_add_one, h]; simp

theorem Make_ct (rs : List Rv) (cap : Nat) (A : Option Addr) (c : Zone) (w : World) (hg0 : c ⟨0, 0, none⟩ = some errTy) (hc : c.le w.cell?) (hT : Row c (.slice A rs.length cap) 10 rs.length (rowC rvC rs)) (hok : RvsOk c rs) (hb : 2400 * Rv.sizes rs ≤ 70368744177664) (hP : TabW w) (hZ : TbC c) :
    Fun Tryz.prog 10 [.agg #[.slice A rs.length cap]] w fun v w' => MkPost (makeF (rs.map Rv.rl)) w v w' := by
 obtain ⟨Ax, cx, hx9, hx1, hx2⟩ := hT.form
 cases hx9
 have hml : maxLen ≤ 9223372036854775807 := by unfold maxLen; decide
 refine fun_of_sw Tryz.func10 rfl 69 rfl rfl ?_
 have hH := (Hp.start w).zsub hc
 refine sw_sr <| gl_st (Bx [.slice A rs.length cap] rfl hH ?_)
 clear hH; intro b1 w2 hH
 refine gl_st (Alc [.slice none 0 0, .slice none 0 0, .slice none 0 0] rfl hH ?_)
 clear hH; intro b3 w4 hH
 refine Go0 1 <| Dn <| sw_seq <| sw_sr <| Gq rfl (La 0 [.slice A rs.length cap] hH rfl rfl) <| gl_st (Sc rfl rfl (UCheck_ct rs cap A c _ hg0 hH.zin hT hok hb) ?_)
 rintro _ w6 ⟨fb5, rfl, hF7⟩
 replace hH := hH.call hF7
 refine Go1 1 4 (erV (soundF (rs.map Rv.rl)) fb5) <| Dn <| sw_sr <| Go1 1 11 (erV (soundF (rs.map Rv.rl)) fb5) <| Gq rfl (rd_er_ne (by kernel_rfl) rfl) <| Dn <| If rfl (fun hc1 => ?_) (fun hc1 => ?_)
 have hbad : (soundF (rs.map Rv.rl)).isNil = false := hc1
 refine sw_sr <| Go2 2 13 (.agg #[.slice none 0 0, .slice none 0 0, .slice none 0 0]) 14 (erV (soundF (rs.map Rv.rl)) fb5) <| gl_st (Ka 1 [.slice none 0 0, .slice none 0 0, .slice none 0 0] [.slice none 0 0, .slice none 0 0, .slice none 0 0] rfl hH rfl rfl ?_)
 clear hH; intro w8 hH
 exact Go1 1 3 (erV (soundF (rs.map Rv.rl)) fb5) <| Dn <| sw_ret <| thR <| retC2 rfl (RS.cellA hH 1 (by kernel_rfl) rfl rfl (by kernel_rfl) [.slice none 0 0, .slice none 0 0, .slice none 0 0] rfl rfl) (RS.tmp rfl) <| mk_no (mk_bad hbad) (hH.sb (slc (slc (slk sln))))
 have hgood : (soundF (rs.map Rv.rl)).isNil = true := hc1
 have hso := scope_ok (snd_ok hgood)
 have hall := print_ok hso.1
 have h64 := print_len hso.1
 refine Sk <| sw_sr <| Gq rfl (La 0 [.slice A rs.length cap] hH rfl rfl) <| gl_st (st_makeMap rfl rfl rfl strK hH ?_)
 clear hH; intro m9 w10 hH
 refine Go1 1 17 (.agg #[.slice A rs.length cap, .slice none 0 0, .slice none 0 0, .slice none 0 0, .map (some m9)]) <| gl_st (Bx [.slice A rs.length cap, .slice none 0 0, .slice none 0 0, .slice none 0 0, .map (some m9)] rfl hH ?_)
 clear hH; intro b11 w12 hH
 refine Go1 1 5 (Pp b11 0) <| Dn <| sw_seq <| sw_sr <| Go1 1 19 (Pp b1 0) <| Gq rfl (Lk 0 hH rfl rfl rfl) <| Gq rfl (Ln (e := 43) rfl) <| Go1 1 22 (.int .i64 0) <| Dn <| sw_block ?_
 replace hH := hH.pool
 replace hH := hH.nilRow 45 7
 replace hH := hH.nilRow 9 1
 replace hH := hH.nilRow 3 1
 replace hH := hH.fr2.fr9.fr9.fr8.fr7.fr9.fr9
 replace hH := (hH.sb (slk (slk (slk (slk (slk (slk (slk sln)))))))).n7
 refine Lp (γ := Nat × List Int × List (List UInt8) × Value × List Ov × Names × Pl × Value × Value) hH (fun (i, rt, nm, vN, lN, nN, pN, x1, x2) => [(2, Pp b3 0), (5, Pp b11 0), (20, .slice A rs.length cap), (21, Ni rs.length), (22, Ni i)]) (fun (i, rt, nm, vN, lN, nN, pN, x1, x2) w_ H_ => (((mk0 (rs.map Rv.rl)).1.map Int.ofNat, (mk0 (rs.map Rv.rl)).2) = (rt ++ (rootsM (rs.map Rv.rl) ((rs.drop i).map Rv.rl) (msO lN nN)).1.map Int.ofNat, (rootsM (rs.map Rv.rl) ((rs.drop i).map Rv.rl) (msO lN nN)).2)) ∧ (nm = (rs.take i).map Rv.name) ∧ (rt.length = i) ∧ (i ≤ rs.length) ∧ (KnOk (msO lN nN)) ∧ (lN.length + Rv.sizes (rs.drop i) ≤ 34359738368) ∧ (OvsOk (pz pN) lN) ∧ H_ [.blk b11 82 [.slice A rs.length cap, vN, x1, x2, .map (some m9)], .row vN 45 7 lN.length (rowC opC lN), .kmap m9 strK (vmap nI nN), plO pN, .row x1 9 1 nm.length (rowC sC nm), .row x2 3 1 rt.length (rowC iC rt), .blk b3 30 [.slice none 0 0, .slice none 0 0, .slice none 0 0]]) (fun (i, rt, nm, vN, lN, nN, pN, x1, x2) => rs.length - i) (0, [], [], .slice none 0 0, [], [], [], .slice none 0 0, .slice none 0 0) ?_ ?_
 · exact ⟨rfl, rfl, rfl, Nat.zero_le _, (fun p hp => by cases hp), (by rw [List.drop_zero]; show 0 + _ ≤ _; omega), (fun x hx => by cases hx), hH⟩
 clear hH
 rintro ⟨i, rt, nm, vN, lN, nN, pN, x1, x2⟩ w13 ⟨hks, hnm, hkl, hi, hkn, hsz, hov, hH⟩
 refine swk [(2, Pp b3 0), (5, Pp b11 0), (20, .slice A rs.length cap), (21, Ni rs.length), (22, Ni i)] <| sw_sr <| Go1 1 23 (.bool (decide ((i : Int) < ((rs.length : Nat) : Int)))) <| Dn <| sw_seq <| If rfl (fun hc2 => ?_) (fun hc2 => ?_)
 refine Sk <| sw_seq <| sw_block ?_
 obtain ⟨r, hx⟩ : ∃ r, rs[i]? = some r := ⟨_, List.getElem?_eq_getElem (by omega)⟩
 have hxm := List.mem_of_getElem? hx
 have hrb := hok r hxm
 have hsa0 := Rv.sizes_at hx
 have hnl2 : nm.length = i := by rw [hnm, List.length_map, List.length_take, Nat.min_eq_left (by omega)]
 refine sw_sr ?_
 obtain ⟨p14, hi16, hp15⟩ := hT.idx i (by omega) (by decide)
 refine Gq rfl (Ix (e := 43) 10 rfl rfl hi16) <| Gq rfl (rd_loadZA (by kernel_rfl) hH hp15 rfl 0 rfl [.string (bs r.name), .int .i64 r.body.kind, .string (bs r.body.text), .int .u64 ((r.body.cl.a : Nat) : Int), .int .u64 ((r.body.cl.b : Nat) : Int), .int .u64 ((r.body.cl.c : Nat) : Int), .int .u64 ((r.body.cl.d : Nat) : Int), .slice r.body.A r.body.subs.length r.body.cap, .int .i64 r.body.pos, .int .i64 r.pos] (by kernel_rfl) (rowC_all rvC_len hx 0 _ rfl)) <| gl_st (Alc [.string (bs []), .int .i64 0, .string (bs []), .int .u64 0, .int .u64 0, .int .u64 0, .int .u64 0, .slice none 0 0, .int .i64 0, .int .i64 0] rfl hH ?_)
 clear hH; intro b17 w18 hH
 refine gl_st (Ka 7 [.string (bs r.name), .int .i64 r.body.kind, .string (bs r.body.text), .int .u64 ((r.body.cl.a : Nat) : Int), .int .u64 ((r.body.cl.b : Nat) : Int), .int .u64 ((r.body.cl.c : Nat) : Int), .int .u64 ((r.body.cl.d : Nat) : Int), .slice r.body.A r.body.subs.length r.body.cap, .int .i64 r.body.pos, .int .i64 r.pos] [.string (bs r.name), .int .i64 r.body.kind, .string (bs r.body.text), .int .u64 ((r.body.cl.a : Nat) : Int), .int .u64 ((r.body.cl.b : Nat) : Int), .int .u64 ((r.body.cl.c : Nat) : Int), .int .u64 ((r.body.cl.d : Nat) : Int), .slice r.body.A r.body.subs.length r.body.cap, .int .i64 r.body.pos, .int .i64 r.pos] rfl hH rfl rfl ?_)
 clear hH; intro w19 hH
 refine Dn <| sw_sr <| Go2 2 26 (Pp b11 0) 27 (Pp b17 1) <| Gq rfl (La 7 [.int .i64 r.body.kind, .string (bs r.body.text), .int .u64 ((r.body.cl.a : Nat) : Int), .int .u64 ((r.body.cl.b : Nat) : Int), .int .u64 ((r.body.cl.c : Nat) : Int), .int .u64 ((r.body.cl.d : Nat) : Int), .slice r.body.A r.body.subs.length r.body.cap, .int .i64 r.body.pos] hH rfl rfl) ?_
 replace hH : Hp w w19 _ _ ([_, _, _, _] ++ [_, _, _, _]) := hH
 refine gl_st (Sc rfl rfl (MExpr_ct r.body rs cap A b11 m9 vN x1 x2 lN nN pN c _ hrb.body (hall r hxm) hT h64 hkn (by omega) hov (tab_now hP hZ (by rw [off_nil]; exact hc) hH) hZ hH.zoff hH.mine) ?_)
 rintro _ w27 ⟨vo20, l21, kn22, pl23, rfl, hS24, hpz25, hov26, hF28⟩
 replace hH := hH.turns hF28
 replace hH := hH.n8
 have hE := ex_ok (rs.map Rv.rl) r.body.nd (msO lN nN) hkn
 rw [hS24] at hE
 simp only [List.length_map] at hE
 rw [Tv.nd_size] at hE
 refine Go1 1 8 (Ni ((exprM (rs.map Rv.rl) r.body.nd (msO lN nN)).1)) <| Dn <| Dr hH (slc (slc (slk (slk (slc (slk (slk (slk sln)))))))) ?_
 clear hH; intro w29 hH hS9
 refine Gp4 7 [0,1,2,3,4,5,7] 30 (Pp b11 0) 31 (Pp b11 0) 35 (Pp b11 2) 37 (Pp b17 0) hS9 <| Dq 8 rfl (fun _ hS => (Lk 1 hS rfl rfl rfl)) hS9 <| Gp2 5 [11,12,13,14,16] 44 (Pp b11 3) 46 (Ni ((exprM (rs.map Rv.rl) r.body.nd (msO lN nN)).1)) hS9 <| gd_st4 6 9 15 17 (by kernel_rfl) ?_ ?_ ?_ ?_
 refine st_q rfl rfl rfl (Lk 4 hH rfl rfl rfl) <| Nl hS9 fun hS9 => gdk [(2, Pp b3 0), (5, Pp b11 0), (20, .slice A rs.length cap), (21, Ni rs.length), (22, Ni i), (30, Pp b11 0), (31, Pp b11 0), (36, x1), (38, .string (bs r.name)), (44, Pp b11 3), (46, Ni ((exprM (rs.map Rv.rl) r.body.nd (msO lN nN)).1))] <| gd_st3 9 15 17 (by kernel_rfl) ?_ ?_ ?_
 refine st_buildS (e := 9) (zv := .string (bs [])) (m := 1) (bytes := 16) rfl rfl rfl (by kernel_rfl) (by kernel_rfl) rfl (cs := [.string (bs r.name)]) (by kernel_rfl) rfl hH ?_
 clear hH; intro b30 w31 hH
 replace hH := hH.n9
 refine Nl (hH.sb (slc (slc (slk (slk (slc (slk (slk (slk sln))))))))) fun hS9 => gdk [(2, Pp b3 0), (5, Pp b11 0), (20, .slice A rs.length cap), (21, Ni rs.length), (22, Ni i), (30, Pp b11 0), (31, Pp b11 0), (36, x1), (39, .slice (some ⟨b30, 0, none⟩) 1 1), (44, Pp b11 3), (46, Ni ((exprM (rs.map Rv.rl) r.body.nd (msO lN nN)).1))] <| gd_st3 10 15 17 (by kernel_rfl) ?_ ?_ ?_
 refine Apd (e := 9) (.string (bs [])) 1 16 0 rfl hH rfl rfl rfl (hH.row_reads 8 rfl) (by simp [Value.oneCell']) (by unfold maxLen; omega) (by omega) ?_
 clear hH; intro v32 w33 hH
 replace hH := hH.row_eq 0 (l' := (nm ++ [r.name]).length) (xs' := rowC sC (nm ++ [r.name])) rfl (by simp) (by rw [← rowC_app, rowC_one]; rfl)
 obtain ⟨A34, c35, rfl, hl36, hm37⟩ := hH.row_form 0 rfl
 replace hH := hH.n9
 refine Nl (hH.sb (slc (slc (slk (slk (slc (slk (slk (slk sln))))))))) fun hS9 => gdk [(2, Pp b3 0), (5, Pp b11 0), (20, .slice A rs.length cap), (21, Ni rs.length), (22, Ni i), (30, Pp b11 0), (31, Pp b11 0), (40, .slice A34 ((nm ++ [r.name]).length) c35), (44, Pp b11 3), (46, Ni ((exprM (rs.map Rv.rl) r.body.nd (msO lN nN)).1))] <| gd_st2 15 17 (by kernel_rfl) ?_ ?_
 refine st_q rfl rfl rfl (Lk 4 hH rfl rfl rfl) <| Nl hS9 fun hS9 => gdk [(2, Pp b3 0), (5, Pp b11 0), (20, .slice A rs.length cap), (21, Ni rs.length), (22, Ni i), (30, Pp b11 0), (31, Pp b11 0), (40, .slice A34 ((nm ++ [r.name]).length) c35), (45, x2), (46, Ni ((exprM (rs.map Rv.rl) r.body.nd (msO lN nN)).1))] <| gds 17 (st_buildS (e := 3) (zv := .int .i64 0) (m := 1) (bytes := 8) rfl rfl rfl (by kernel_rfl) (by kernel_rfl) rfl (cs := [Ni ((exprM (rs.map Rv.rl) r.body.nd (msO lN nN)).1)]) (by kernel_rfl) rfl hH ?_)
 clear hH; intro b38 w39 hH
 replace hH := hH.n10
 refine Nl (hH.sb (slc (slc (slk (slk (slc (slk (slk (slk sln))))))))) fun hS9 => gds 18 (Apd (e := 3) (.int .i64 0) 1 8 1 rfl hH rfl rfl rfl (hH.row_reads 9 rfl) (by simp [Value.oneCell']) (by unfold maxLen; omega) (by omega) ?_)
 clear hH; intro v40 w41 hH
 replace hH := hH.row_eq 1 (l' := (rt ++ [((exprM (rs.map Rv.rl) r.body.nd (msO lN nN)).1 : Int)]).length) (xs' := rowC iC (rt ++ [((exprM (rs.map Rv.rl) r.body.nd (msO lN nN)).1 : Int)])) rfl (by simp) (by rw [← rowC_app, rowC_one]; rfl)
 obtain ⟨A42, c43, rfl, hl44, hm45⟩ := hH.row_form 1 rfl
 replace hH := hH.n10
 refine Nl (hH.sb (slc (slc (slk (slk (slc (slk (slk (slk sln))))))))) fun hS9 => Gp1 3 [19,20,21] 51 (Pp b11 2) hS9 <| gds 22 (Ks 4 (.slice A34 ((nm ++ [r.name]).length) c35) rfl hH rfl rfl ?_)
 clear hH; intro w46 hH
 replace hH := hH.n10
 refine Nl (hH.sb (slc (slc (slk (slk (slc (slk (slk (slk sln))))))))) fun hS9 => Gp1 3 [23,24,25] 54 (Pp b11 3) hS9 <| gds 26 (Ks 4 (.slice A42 ((rt ++ [((exprM (rs.map Rv.rl) r.body.nd (msO lN nN)).1 : Int)]).length) c43) rfl hH rfl rfl ?_)
 clear hH; intro w47 hH
 replace hH := hH.n10
 refine Nl (hH.sb (slc (slc (slk (slk (slc (slk (slk (slk sln))))))))) fun hS9 => gdn [(2, Pp b3 0), (5, Pp b11 0), (20, .slice A rs.length cap), (21, Ni rs.length), (22, Ni i)] <| bkN <| sw_next <| sw_region <| Gw0 1 55 ((i : Int) + 1) ((i + 1 : Nat) : Int) <| Go1 1 22 (Ni (i + 1)) <| Dd <| rnd_end (g := (i, rt, nm, vN, lN, nN, pN, x1, x2)) (i + 1, rt ++ [((exprM (rs.map Rv.rl) r.body.nd (msO lN nN)).1 : Int)], nm ++ [r.name], vo20, l21, kn22, pl23, (.slice A34 ((nm ++ [r.name]).length) c35), (.slice A42 ((rt ++ [((exprM (rs.map Rv.rl) r.body.nd (msO lN nN)).1 : Int)]).length) c43)) (by kernel_rfl) ?_ ?_
 replace hH := hH.fr3.fr3.fr3.fr8.fr8.fr8.fr8
 replace hH := (hH.sb (slk (slk (slk (slk (slk (slk (slk sln)))))))).n7
 · exact ⟨by rw [hks, rootsM_at hx, hS24, List.map_cons, List.append_assoc]; rfl, by rw [hnm, names_take hx], by rw [List.length_append, List.length_singleton]; omega, by omega, hE.1, by omega, hov26, hH⟩
 · show rs.length - (i + 1) < rs.length - i; omega
 refine st_buildS (e := 3) (zv := .int .i64 0) (m := 1) (bytes := 8) rfl rfl rfl (by kernel_rfl) (by kernel_rfl) rfl (cs := [Ni ((exprM (rs.map Rv.rl) r.body.nd (msO lN nN)).1)]) (by kernel_rfl) rfl hH ?_
 clear hH; intro b48 w49 hH
 replace hH := hH.n10
 refine Nl (hH.sb (slc (slc (slk (slk (slc (slk (slk (slk sln))))))))) fun hS9 => gdk [(2, Pp b3 0), (5, Pp b11 0), (20, .slice A rs.length cap), (21, Ni rs.length), (22, Ni i), (30, Pp b11 0), (31, Pp b11 0), (40, .slice A34 ((nm ++ [r.name]).length) c35), (44, Pp b11 3), (47, .slice (some ⟨b48, 0, none⟩) 1 1)] <| gds 15 (st_q rfl rfl rfl (Lk 4 hH rfl rfl rfl) ?_)
 refine Nl hS9 fun hS9 => gds 18 (Apd (e := 3) (.int .i64 0) 1 8 1 rfl hH rfl rfl rfl (hH.row_reads 9 rfl) (by simp [Value.oneCell']) (by unfold maxLen; omega) (by omega) ?_)
 clear hH; intro v50 w51 hH
 replace hH := hH.row_eq 1 (l' := (rt ++ [((exprM (rs.map Rv.rl) r.body.nd (msO lN nN)).1 : Int)]).length) (xs' := rowC iC (rt ++ [((exprM (rs.map Rv.rl) r.body.nd (msO lN nN)).1 : Int)])) rfl (by simp) (by rw [← rowC_app, rowC_one]; rfl)
 obtain ⟨A52, c53, rfl, hl54, hm55⟩ := hH.row_form 1 rfl
 replace hH := hH.n10
 refine Nl (hH.sb (slc (slc (slk (slk (slc (slk (slk (slk sln))))))))) fun hS9 => Gp1 3 [19,20,21] 51 (Pp b11 2) hS9 <| gds 22 (Ks 4 (.slice A34 ((nm ++ [r.name]).length) c35) rfl hH rfl rfl ?_)
 clear hH; intro w56 hH
 replace hH := hH.n10
 refine Nl (hH.sb (slc (slc (slk (slk (slc (slk (slk (slk sln))))))))) fun hS9 => Gp1 3 [23,24,25] 54 (Pp b11 3) hS9 <| gds 26 (Ks 4 (.slice A52 ((rt ++ [((exprM (rs.map Rv.rl) r.body.nd (msO lN nN)).1 : Int)]).length) c53) rfl hH rfl rfl ?_)
 clear hH; intro w57 hH
 replace hH := hH.n10
 refine Nl (hH.sb (slc (slc (slk (slk (slc (slk (slk (slk sln))))))))) fun hS9 => gdn [(2, Pp b3 0), (5, Pp b11 0), (20, .slice A rs.length cap), (21, Ni rs.length), (22, Ni i)] <| bkN <| sw_next <| sw_region <| Gw0 1 55 ((i : Int) + 1) ((i + 1 : Nat) : Int) <| Go1 1 22 (Ni (i + 1)) <| Dd <| rnd_end (g := (i, rt, nm, vN, lN, nN, pN, x1, x2)) (i + 1, rt ++ [((exprM (rs.map Rv.rl) r.body.nd (msO lN nN)).1 : Int)], nm ++ [r.name], vo20, l21, kn22, pl23, (.slice A34 ((nm ++ [r.name]).length) c35), (.slice A52 ((rt ++ [((exprM (rs.map Rv.rl) r.body.nd (msO lN nN)).1 : Int)]).length) c53)) (by kernel_rfl) ?_ ?_
 replace hH := hH.fr3.fr3.fr3.fr8.fr8.fr8.fr8
 replace hH := (hH.sb (slk (slk (slk (slk (slk (slk (slk sln)))))))).n7
 · exact ⟨by rw [hks, rootsM_at hx, hS24, List.map_cons, List.append_assoc]; rfl, by rw [hnm, names_take hx], by rw [List.length_append, List.length_singleton]; omega, by omega, hE.1, by omega, hov26, hH⟩
 · show rs.length - (i + 1) < rs.length - i; omega
 refine st_q rfl rfl rfl (Lk 4 hH rfl rfl rfl) <| Nl hS9 fun hS9 => gdk [(2, Pp b3 0), (5, Pp b11 0), (20, .slice A rs.length cap), (21, Ni rs.length), (22, Ni i), (30, Pp b11 0), (31, Pp b11 0), (36, x1), (39, .slice (some ⟨b30, 0, none⟩) 1 1), (45, x2), (46, Ni ((exprM (rs.map Rv.rl) r.body.nd (msO lN nN)).1))] <| gd_st2 10 17 (by kernel_rfl) ?_ ?_
 refine Apd (e := 9) (.string (bs [])) 1 16 0 rfl hH rfl rfl rfl (hH.row_reads 8 rfl) (by simp [Value.oneCell']) (by unfold maxLen; omega) (by omega) ?_
 clear hH; intro v58 w59 hH
 replace hH := hH.row_eq 0 (l' := (nm ++ [r.name]).length) (xs' := rowC sC (nm ++ [r.name])) rfl (by simp) (by rw [← rowC_app, rowC_one]; rfl)
 obtain ⟨A60, c61, rfl, hl62, hm63⟩ := hH.row_form 0 rfl
 replace hH := hH.n9
 refine Nl (hH.sb (slc (slc (slk (slk (slc (slk (slk (slk sln))))))))) fun hS9 => gdk [(2, Pp b3 0), (5, Pp b11 0), (20, .slice A rs.length cap), (21, Ni rs.length), (22, Ni i), (30, Pp b11 0), (31, Pp b11 0), (40, .slice A60 ((nm ++ [r.name]).length) c61), (45, x2), (46, Ni ((exprM (rs.map Rv.rl) r.body.nd (msO lN nN)).1))] <| gds 17 (st_buildS (e := 3) (zv := .int .i64 0) (m := 1) (bytes := 8) rfl rfl rfl (by kernel_rfl) (by kernel_rfl) rfl (cs := [Ni ((exprM (rs.map Rv.rl) r.body.nd (msO lN nN)).1)]) (by kernel_rfl) rfl hH ?_)
 clear hH; intro b64 w65 hH
 replace hH := hH.n10
 refine Nl (hH.sb (slc (slc (slk (slk (slc (slk (slk (slk sln))))))))) fun hS9 => gds 18 (Apd (e := 3) (.int .i64 0) 1 8 1 rfl hH rfl rfl rfl (hH.row_reads 9 rfl) (by simp [Value.oneCell']) (by unfold maxLen; omega) (by omega) ?_)
 clear hH; intro v66 w67 hH
 replace hH := hH.row_eq 1 (l' := (rt ++ [((exprM (rs.map Rv.rl) r.body.nd (msO lN nN)).1 : Int)]).length) (xs' := rowC iC (rt ++ [((exprM (rs.map Rv.rl) r.body.nd (msO lN nN)).1 : Int)])) rfl (by simp) (by rw [← rowC_app, rowC_one]; rfl)
 obtain ⟨A68, c69, rfl, hl70, hm71⟩ := hH.row_form 1 rfl
 replace hH := hH.n10
 refine Nl (hH.sb (slc (slc (slk (slk (slc (slk (slk (slk sln))))))))) fun hS9 => Gp1 3 [19,20,21] 51 (Pp b11 2) hS9 <| gds 22 (Ks 4 (.slice A60 ((nm ++ [r.name]).length) c61) rfl hH rfl rfl ?_)
 clear hH; intro w72 hH
 replace hH := hH.n10
 refine Nl (hH.sb (slc (slc (slk (slk (slc (slk (slk (slk sln))))))))) fun hS9 => Gp1 3 [23,24,25] 54 (Pp b11 3) hS9 <| gds 26 (Ks 4 (.slice A68 ((rt ++ [((exprM (rs.map Rv.rl) r.body.nd (msO lN nN)).1 : Int)]).length) c69) rfl hH rfl rfl ?_)
 clear hH; intro w73 hH
 replace hH := hH.n10
 refine Nl (hH.sb (slc (slc (slk (slk (slc (slk (slk (slk sln))))))))) fun hS9 => gdn [(2, Pp b3 0), (5, Pp b11 0), (20, .slice A rs.length cap), (21, Ni rs.length), (22, Ni i)] <| bkN <| sw_next <| sw_region <| Gw0 1 55 ((i : Int) + 1) ((i + 1 : Nat) : Int) <| Go1 1 22 (Ni (i + 1)) <| Dd <| rnd_end (g := (i, rt, nm, vN, lN, nN, pN, x1, x2)) (i + 1, rt ++ [((exprM (rs.map Rv.rl) r.body.nd (msO lN nN)).1 : Int)], nm ++ [r.name], vo20, l21, kn22, pl23, (.slice A60 ((nm ++ [r.name]).length) c61), (.slice A68 ((rt ++ [((exprM (rs.map Rv.rl) r.body.nd (msO lN nN)).1 : Int)]).length) c69)) (by kernel_rfl) ?_ ?_
 replace hH := hH.fr3.fr3.fr3.fr8.fr8.fr8.fr8
 replace hH := (hH.sb (slk (slk (slk (slk (slk (slk (slk sln)))))))).n7
 · exact ⟨by rw [hks, rootsM_at hx, hS24, List.map_cons, List.append_assoc]; rfl, by rw [hnm, names_take hx], by rw [List.length_append, List.length_singleton]; omega, by omega, hE.1, by omega, hov26, hH⟩
 · show rs.length - (i + 1) < rs.length - i; omega
 refine st_buildS (e := 3) (zv := .int .i64 0) (m := 1) (bytes := 8) rfl rfl rfl (by kernel_rfl) (by kernel_rfl) rfl (cs := [Ni ((exprM (rs.map Rv.rl) r.body.nd (msO lN nN)).1)]) (by kernel_rfl) rfl hH ?_
 clear hH; intro b74 w75 hH
 replace hH := hH.n10
 refine Nl (hH.sb (slc (slc (slk (slk (slc (slk (slk (slk sln))))))))) fun hS9 => gdk [(2, Pp b3 0), (5, Pp b11 0), (20, .slice A rs.length cap), (21, Ni rs.length), (22, Ni i), (30, Pp b11 0), (31, Pp b11 0), (36, x1), (39, .slice (some ⟨b30, 0, none⟩) 1 1), (45, x2), (47, .slice (some ⟨b74, 0, none⟩) 1 1)] <| gds 10 (Apd (e := 9) (.string (bs [])) 1 16 0 rfl hH rfl rfl rfl (hH.row_reads 8 rfl) (by simp [Value.oneCell']) (by unfold maxLen; omega) (by omega) ?_)
 clear hH; intro v76 w77 hH
 replace hH := hH.row_eq 0 (l' := (nm ++ [r.name]).length) (xs' := rowC sC (nm ++ [r.name])) rfl (by simp) (by rw [← rowC_app, rowC_one]; rfl)
 obtain ⟨A78, c79, rfl, hl80, hm81⟩ := hH.row_form 0 rfl
 replace hH := hH.n10
 refine Nl (hH.sb (slc (slc (slk (slk (slc (slk (slk (slk sln))))))))) fun hS9 => gds 18 (Apd (e := 3) (.int .i64 0) 1 8 1 rfl hH rfl rfl rfl (hH.row_reads 9 rfl) (by simp [Value.oneCell']) (by unfold maxLen; omega) (by omega) ?_)
 clear hH; intro v82 w83 hH
 replace hH := hH.row_eq 1 (l' := (rt ++ [((exprM (rs.map Rv.rl) r.body.nd (msO lN nN)).1 : Int)]).length) (xs' := rowC iC (rt ++ [((exprM (rs.map Rv.rl) r.body.nd (msO lN nN)).1 : Int)])) rfl (by simp) (by rw [← rowC_app, rowC_one]; rfl)
 obtain ⟨A84, c85, rfl, hl86, hm87⟩ := hH.row_form 1 rfl
 replace hH := hH.n10
 refine Nl (hH.sb (slc (slc (slk (slk (slc (slk (slk (slk sln))))))))) fun hS9 => Gp1 3 [19,20,21] 51 (Pp b11 2) hS9 <| gds 22 (Ks 4 (.slice A78 ((nm ++ [r.name]).length) c79) rfl hH rfl rfl ?_)
 clear hH; intro w88 hH
 replace hH := hH.n10
 refine Nl (hH.sb (slc (slc (slk (slk (slc (slk (slk (slk sln))))))))) fun hS9 => Gp1 3 [23,24,25] 54 (Pp b11 3) hS9 <| gds 26 (Ks 4 (.slice A84 ((rt ++ [((exprM (rs.map Rv.rl) r.body.nd (msO lN nN)).1 : Int)]).length) c85) rfl hH rfl rfl ?_)
 clear hH; intro w89 hH
 replace hH := hH.n10
 refine Nl (hH.sb (slc (slc (slk (slk (slc (slk (slk (slk sln))))))))) fun hS9 => gdn [(2, Pp b3 0), (5, Pp b11 0), (20, .slice A rs.length cap), (21, Ni rs.length), (22, Ni i)] <| bkN <| sw_next <| sw_region <| Gw0 1 55 ((i : Int) + 1) ((i + 1 : Nat) : Int) <| Go1 1 22 (Ni (i + 1)) <| Dd <| rnd_end (g := (i, rt, nm, vN, lN, nN, pN, x1, x2)) (i + 1, rt ++ [((exprM (rs.map Rv.rl) r.body.nd (msO lN nN)).1 : Int)], nm ++ [r.name], vo20, l21, kn22, pl23, (.slice A78 ((nm ++ [r.name]).length) c79), (.slice A84 ((rt ++ [((exprM (rs.map Rv.rl) r.body.nd (msO lN nN)).1 : Int)]).length) c85)) (by kernel_rfl) ?_ ?_
 replace hH := hH.fr3.fr3.fr3.fr8.fr8.fr8.fr8
 replace hH := (hH.sb (slk (slk (slk (slk (slk (slk (slk sln)))))))).n7
 · exact ⟨by rw [hks, rootsM_at hx, hS24, List.map_cons, List.append_assoc]; rfl, by rw [hnm, names_take hx], by rw [List.length_append, List.length_singleton]; omega, by omega, hE.1, by omega, hov26, hH⟩
 · show rs.length - (i + 1) < rs.length - i; omega
 refine st_buildS (e := 3) (zv := .int .i64 0) (m := 1) (bytes := 8) rfl rfl rfl (by kernel_rfl) (by kernel_rfl) rfl (cs := [Ni ((exprM (rs.map Rv.rl) r.body.nd (msO lN nN)).1)]) (by kernel_rfl) rfl hH ?_
 clear hH; intro b90 w91 hH
 replace hH := hH.n10
 refine Nl (hH.sb (slc (slc (slk (slk (slc (slk (slk (slk sln))))))))) fun hS9 => gdk [(2, Pp b3 0), (5, Pp b11 0), (20, .slice A rs.length cap), (21, Ni rs.length), (22, Ni i), (30, Pp b11 0), (31, Pp b11 0), (36, x1), (39, .slice (some ⟨b30, 0, none⟩) 1 1), (44, Pp b11 3), (47, .slice (some ⟨b90, 0, none⟩) 1 1)] <| gd_st2 10 15 (by kernel_rfl) ?_ ?_
 refine Apd (e := 9) (.string (bs [])) 1 16 0 rfl hH rfl rfl rfl (hH.row_reads 8 rfl) (by simp [Value.oneCell']) (by unfold maxLen; omega) (by omega) ?_
 clear hH; intro v92 w93 hH
 replace hH := hH.row_eq 0 (l' := (nm ++ [r.name]).length) (xs' := rowC sC (nm ++ [r.name])) rfl (by simp) (by rw [← rowC_app, rowC_one]; rfl)
 obtain ⟨A94, c95, rfl, hl96, hm97⟩ := hH.row_form 0 rfl
 replace hH := hH.n10
 refine Nl (hH.sb (slc (slc (slk (slk (slc (slk (slk (slk sln))))))))) fun hS9 => gdk [(2, Pp b3 0), (5, Pp b11 0), (20, .slice A rs.length cap), (21, Ni rs.length), (22, Ni i), (30, Pp b11 0), (31, Pp b11 0), (40, .slice A94 ((nm ++ [r.name]).length) c95), (44, Pp b11 3), (47, .slice (some ⟨b90, 0, none⟩) 1 1)] <| gds 15 (st_q rfl rfl rfl (Lk 4 hH rfl rfl rfl) ?_)
 refine Nl hS9 fun hS9 => gds 18 (Apd (e := 3) (.int .i64 0) 1 8 1 rfl hH rfl rfl rfl (hH.row_reads 9 rfl) (by simp [Value.oneCell']) (by unfold maxLen; omega) (by omega) ?_)
 clear hH; intro v98 w99 hH
 replace hH := hH.row_eq 1 (l' := (rt ++ [((exprM (rs.map Rv.rl) r.body.nd (msO lN nN)).1 : Int)]).length) (xs' := rowC iC (rt ++ [((exprM (rs.map Rv.rl) r.body.nd (msO lN nN)).1 : Int)])) rfl (by simp) (by rw [← rowC_app, rowC_one]; rfl)
 obtain ⟨A100, c101, rfl, hl102, hm103⟩ := hH.row_form 1 rfl
 replace hH := hH.n10
 refine Nl (hH.sb (slc (slc (slk (slk (slc (slk (slk (slk sln))))))))) fun hS9 => Gp1 3 [19,20,21] 51 (Pp b11 2) hS9 <| gds 22 (Ks 4 (.slice A94 ((nm ++ [r.name]).length) c95) rfl hH rfl rfl ?_)
 clear hH; intro w104 hH
 replace hH := hH.n10
 refine Nl (hH.sb (slc (slc (slk (slk (slc (slk (slk (slk sln))))))))) fun hS9 => Gp1 3 [23,24,25] 54 (Pp b11 3) hS9 <| gds 26 (Ks 4 (.slice A100 ((rt ++ [((exprM (rs.map Rv.rl) r.body.nd (msO lN nN)).1 : Int)]).length) c101) rfl hH rfl rfl ?_)
 clear hH; intro w105 hH
 replace hH := hH.n10
 refine Nl (hH.sb (slc (slc (slk (slk (slc (slk (slk (slk sln))))))))) fun hS9 => gdn [(2, Pp b3 0), (5, Pp b11 0), (20, .slice A rs.length cap), (21, Ni rs.length), (22, Ni i)] <| bkN <| sw_next <| sw_region <| Gw0 1 55 ((i : Int) + 1) ((i + 1 : Nat) : Int) <| Go1 1 22 (Ni (i + 1)) <| Dd <| rnd_end (g := (i, rt, nm, vN, lN, nN, pN, x1, x2)) (i + 1, rt ++ [((exprM (rs.map Rv.rl) r.body.nd (msO lN nN)).1 : Int)], nm ++ [r.name], vo20, l21, kn22, pl23, (.slice A94 ((nm ++ [r.name]).length) c95), (.slice A100 ((rt ++ [((exprM (rs.map Rv.rl) r.body.nd (msO lN nN)).1 : Int)]).length) c101)) (by kernel_rfl) ?_ ?_
 replace hH := hH.fr3.fr3.fr3.fr8.fr8.fr8.fr8
 replace hH := (hH.sb (slk (slk (slk (slk (slk (slk (slk sln)))))))).n7
 · exact ⟨by rw [hks, rootsM_at hx, hS24, List.map_cons, List.append_assoc]; rfl, by rw [hnm, names_take hx], by rw [List.length_append, List.length_singleton]; omega, by omega, hE.1, by omega, hov26, hH⟩
 · show rs.length - (i + 1) < rs.length - i; omega
 refine st_q rfl rfl rfl (Lk 4 hH rfl rfl rfl) <| Nl hS9 fun hS9 => gdk [(2, Pp b3 0), (5, Pp b11 0), (20, .slice A rs.length cap), (21, Ni rs.length), (22, Ni i), (30, Pp b11 0), (31, Pp b11 0), (36, x1), (39, .slice (some ⟨b30, 0, none⟩) 1 1), (45, x2), (47, .slice (some ⟨b90, 0, none⟩) 1 1)] <| gds 10 (Apd (e := 9) (.string (bs [])) 1 16 0 rfl hH rfl rfl rfl (hH.row_reads 8 rfl) (by simp [Value.oneCell']) (by unfold maxLen; omega) (by omega) ?_)
 clear hH; intro v106 w107 hH
 replace hH := hH.row_eq 0 (l' := (nm ++ [r.name]).length) (xs' := rowC sC (nm ++ [r.name])) rfl (by simp) (by rw [← rowC_app, rowC_one]; rfl)
 obtain ⟨A108, c109, rfl, hl110, hm111⟩ := hH.row_form 0 rfl
 replace hH := hH.n10
 refine Nl (hH.sb (slc (slc (slk (slk (slc (slk (slk (slk sln))))))))) fun hS9 => gds 18 (Apd (e := 3) (.int .i64 0) 1 8 1 rfl hH rfl rfl rfl (hH.row_reads 9 rfl) (by simp [Value.oneCell']) (by unfold maxLen; omega) (by omega) ?_)
 clear hH; intro v112 w113 hH
 replace hH := hH.row_eq 1 (l' := (rt ++ [((exprM (rs.map Rv.rl) r.body.nd (msO lN nN)).1 : Int)]).length) (xs' := rowC iC (rt ++ [((exprM (rs.map Rv.rl) r.body.nd (msO lN nN)).1 : Int)])) rfl (by simp) (by rw [← rowC_app, rowC_one]; rfl)
 obtain ⟨A114, c115, rfl, hl116, hm117⟩ := hH.row_form 1 rfl
 replace hH := hH.n10
 refine Nl (hH.sb (slc (slc (slk (slk (slc (slk (slk (slk sln))))))))) fun hS9 => Gp1 3 [19,20,21] 51 (Pp b11 2) hS9 <| gds 22 (Ks 4 (.slice A108 ((nm ++ [r.name]).length) c109) rfl hH rfl rfl ?_)
 clear hH; intro w118 hH
 replace hH := hH.n10
 refine Nl (hH.sb (slc (slc (slk (slk (slc (slk (slk (slk sln))))))))) fun hS9 => Gp1 3 [23,24,25] 54 (Pp b11 3) hS9 <| gds 26 (Ks 4 (.slice A114 ((rt ++ [((exprM (rs.map Rv.rl) r.body.nd (msO lN nN)).1 : Int)]).length) c115) rfl hH rfl rfl ?_)
 clear hH; intro w119 hH
 replace hH := hH.n10
 refine Nl (hH.sb (slc (slc (slk (slk (slc (slk (slk (slk sln))))))))) fun hS9 => gdn [(2, Pp b3 0), (5, Pp b11 0), (20, .slice A rs.length cap), (21, Ni rs.length), (22, Ni i)] <| bkN <| sw_next <| sw_region <| Gw0 1 55 ((i : Int) + 1) ((i + 1 : Nat) : Int) <| Go1 1 22 (Ni (i + 1)) <| Dd <| rnd_end (g := (i, rt, nm, vN, lN, nN, pN, x1, x2)) (i + 1, rt ++ [((exprM (rs.map Rv.rl) r.body.nd (msO lN nN)).1 : Int)], nm ++ [r.name], vo20, l21, kn22, pl23, (.slice A108 ((nm ++ [r.name]).length) c109), (.slice A114 ((rt ++ [((exprM (rs.map Rv.rl) r.body.nd (msO lN nN)).1 : Int)]).length) c115)) (by kernel_rfl) ?_ ?_
 replace hH := hH.fr3.fr3.fr3.fr8.fr8.fr8.fr8
 replace hH := (hH.sb (slk (slk (slk (slk (slk (slk (slk sln)))))))).n7
 · exact ⟨by rw [hks, rootsM_at hx, hS24, List.map_cons, List.append_assoc]; rfl, by rw [hnm, names_take hx], by rw [List.length_append, List.length_singleton]; omega, by omega, hE.1, by omega, hov26, hH⟩
 · show rs.length - (i + 1) < rs.length - i; omega
 refine st_q rfl rfl rfl (Lk 4 hH rfl rfl rfl) <| Nl hS9 fun hS9 => gdk [(2, Pp b3 0), (5, Pp b11 0), (20, .slice A rs.length cap), (21, Ni rs.length), (22, Ni i), (30, Pp b11 0), (31, Pp b11 0), (36, x1), (38, .string (bs r.name)), (45, x2), (46, Ni ((exprM (rs.map Rv.rl) r.body.nd (msO lN nN)).1))] <| gd_st2 9 17 (by kernel_rfl) ?_ ?_
 refine st_buildS (e := 9) (zv := .string (bs [])) (m := 1) (bytes := 16) rfl rfl rfl (by kernel_rfl) (by kernel_rfl) rfl (cs := [.string (bs r.name)]) (by kernel_rfl) rfl hH ?_
 clear hH; intro b120 w121 hH
 replace hH := hH.n9
 refine Nl (hH.sb (slc (slc (slk (slk (slc (slk (slk (slk sln))))))))) fun hS9 => gdk [(2, Pp b3 0), (5, Pp b11 0), (20, .slice A rs.length cap), (21, Ni rs.length), (22, Ni i), (30, Pp b11 0), (31, Pp b11 0), (36, x1), (39, .slice (some ⟨b120, 0, none⟩) 1 1), (45, x2), (46, Ni ((exprM (rs.map Rv.rl) r.body.nd (msO lN nN)).1))] <| gd_st2 10 17 (by kernel_rfl) ?_ ?_
 refine Apd (e := 9) (.string (bs [])) 1 16 0 rfl hH rfl rfl rfl (hH.row_reads 8 rfl) (by simp [Value.oneCell']) (by unfold maxLen; omega) (by omega) ?_
 clear hH; intro v122 w123 hH
 replace hH := hH.row_eq 0 (l' := (nm ++ [r.name]).length) (xs' := rowC sC (nm ++ [r.name])) rfl (by simp) (by rw [← rowC_app, rowC_one]; rfl)
 obtain ⟨A124, c125, rfl, hl126, hm127⟩ := hH.row_form 0 rfl
 replace hH := hH.n9
 refine Nl (hH.sb (slc (slc (slk (slk (slc (slk (slk (slk sln))))))))) fun hS9 => gdk [(2, Pp b3 0), (5, Pp b11 0), (20, .slice A rs.length cap), (21, Ni rs.length), (22, Ni i), (30, Pp b11 0), (31, Pp b11 0), (40, .slice A124 ((nm ++ [r.name]).length) c125), (45, x2), (46, Ni ((exprM (rs.map Rv.rl) r.body.nd (msO lN nN)).1))] <| gds 17 (st_buildS (e := 3) (zv := .int .i64 0) (m := 1) (bytes := 8) rfl rfl rfl (by kernel_rfl) (by kernel_rfl) rfl (cs := [Ni ((exprM (rs.map Rv.rl) r.body.nd (msO lN nN)).1)]) (by kernel_rfl) rfl hH ?_)
 clear hH; intro b128 w129 hH
 replace hH := hH.n10
 refine Nl (hH.sb (slc (slc (slk (slk (slc (slk (slk (slk sln))))))))) fun hS9 => gds 18 (Apd (e := 3) (.int .i64 0) 1 8 1 rfl hH rfl rfl rfl (hH.row_reads 9 rfl) (by simp [Value.oneCell']) (by unfold maxLen; omega) (by omega) ?_)
 clear hH; intro v130 w131 hH
 replace hH := hH.row_eq 1 (l' := (rt ++ [((exprM (rs.map Rv.rl) r.body.nd (msO lN nN)).1 : Int)]).length) (xs' := rowC iC (rt ++ [((exprM (rs.map Rv.rl) r.body.nd (msO lN nN)).1 : Int)])) rfl (by simp) (by rw [← rowC_app, rowC_one]; rfl)
 obtain ⟨A132, c133, rfl, hl134, hm135⟩ := hH.row_form 1 rfl
 replace hH := hH.n10
 refine Nl (hH.sb (slc (slc (slk (slk (slc (slk (slk (slk sln))))))))) fun hS9 => Gp1 3 [19,20,21] 51 (Pp b11 2) hS9 <| gds 22 (Ks 4 (.slice A124 ((nm ++ [r.name]).length) c125) rfl hH rfl rfl ?_)
 clear hH; intro w136 hH
 replace hH := hH.n10
 refine Nl (hH.sb (slc (slc (slk (slk (slc (slk (slk (slk sln))))))))) fun hS9 => Gp1 3 [23,24,25] 54 (Pp b11 3) hS9 <| gds 26 (Ks 4 (.slice A132 ((rt ++ [((exprM (rs.map Rv.rl) r.body.nd (msO lN nN)).1 : Int)]).length) c133) rfl hH rfl rfl ?_)
 clear hH; intro w137 hH
 replace hH := hH.n10
 refine Nl (hH.sb (slc (slc (slk (slk (slc (slk (slk (slk sln))))))))) fun hS9 => gdn [(2, Pp b3 0), (5, Pp b11 0), (20, .slice A rs.length cap), (21, Ni rs.length), (22, Ni i)] <| bkN <| sw_next <| sw_region <| Gw0 1 55 ((i : Int) + 1) ((i + 1 : Nat) : Int) <| Go1 1 22 (Ni (i + 1)) <| Dd <| rnd_end (g := (i, rt, nm, vN, lN, nN, pN, x1, x2)) (i + 1, rt ++ [((exprM (rs.map Rv.rl) r.body.nd (msO lN nN)).1 : Int)], nm ++ [r.name], vo20, l21, kn22, pl23, (.slice A124 ((nm ++ [r.name]).length) c125), (.slice A132 ((rt ++ [((exprM (rs.map Rv.rl) r.body.nd (msO lN nN)).1 : Int)]).length) c133)) (by kernel_rfl) ?_ ?_
 replace hH := hH.fr3.fr3.fr3.fr8.fr8.fr8.fr8
 replace hH := (hH.sb (slk (slk (slk (slk (slk (slk (slk sln)))))))).n7
 · exact ⟨by rw [hks, rootsM_at hx, hS24, List.map_cons, List.append_assoc]; rfl, by rw [hnm, names_take hx], by rw [List.length_append, List.length_singleton]; omega, by omega, hE.1, by omega, hov26, hH⟩
 · show rs.length - (i + 1) < rs.length - i; omega
 refine st_buildS (e := 3) (zv := .int .i64 0) (m := 1) (bytes := 8) rfl rfl rfl (by kernel_rfl) (by kernel_rfl) rfl (cs := [Ni ((exprM (rs.map Rv.rl) r.body.nd (msO lN nN)).1)]) (by kernel_rfl) rfl hH ?_
 clear hH; intro b138 w139 hH
 replace hH := hH.n10
 refine Nl (hH.sb (slc (slc (slk (slk (slc (slk (slk (slk sln))))))))) fun hS9 => gdk [(2, Pp b3 0), (5, Pp b11 0), (20, .slice A rs.length cap), (21, Ni rs.length), (22, Ni i), (30, Pp b11 0), (31, Pp b11 0), (36, x1), (39, .slice (some ⟨b120, 0, none⟩) 1 1), (45, x2), (47, .slice (some ⟨b138, 0, none⟩) 1 1)] <| gds 10 (Apd (e := 9) (.string (bs [])) 1 16 0 rfl hH rfl rfl rfl (hH.row_reads 8 rfl) (by simp [Value.oneCell']) (by unfold maxLen; omega) (by omega) ?_)
 clear hH; intro v140 w141 hH
 replace hH := hH.row_eq 0 (l' := (nm ++ [r.name]).length) (xs' := rowC sC (nm ++ [r.name])) rfl (by simp) (by rw [← rowC_app, rowC_one]; rfl)
 obtain ⟨A142, c143, rfl, hl144, hm145⟩ := hH.row_form 0 rfl
 replace hH := hH.n10
 refine Nl (hH.sb (slc (slc (slk (slk (slc (slk (slk (slk sln))))))))) fun hS9 => gds 18 (Apd (e := 3) (.int .i64 0) 1 8 1 rfl hH rfl rfl rfl (hH.row_reads 9 rfl) (by simp [Value.oneCell']) (by unfold maxLen; omega) (by omega) ?_)
 clear hH; intro v146 w147 hH
 replace hH := hH.row_eq 1 (l' := (rt ++ [((exprM (rs.map Rv.rl) r.body.nd (msO lN nN)).1 : Int)]).length) (xs' := rowC iC (rt ++ [((exprM (rs.map Rv.rl) r.body.nd (msO lN nN)).1 : Int)])) rfl (by simp) (by rw [← rowC_app, rowC_one]; rfl)
 obtain ⟨A148, c149, rfl, hl150, hm151⟩ := hH.row_form 1 rfl
 replace hH := hH.n10
 refine Nl (hH.sb (slc (slc (slk (slk (slc (slk (slk (slk sln))))))))) fun hS9 => Gp1 3 [19,20,21] 51 (Pp b11 2) hS9 <| gds 22 (Ks 4 (.slice A142 ((nm ++ [r.name]).length) c143) rfl hH rfl rfl ?_)
 clear hH; intro w152 hH
 replace hH := hH.n10
 refine Nl (hH.sb (slc (slc (slk (slk (slc (slk (slk (slk sln))))))))) fun hS9 => Gp1 3 [23,24,25] 54 (Pp b11 3) hS9 <| gds 26 (Ks 4 (.slice A148 ((rt ++ [((exprM (rs.map Rv.rl) r.body.nd (msO lN nN)).1 : Int)]).length) c149) rfl hH rfl rfl ?_)
 clear hH; intro w153 hH
 replace hH := hH.n10
 refine Nl (hH.sb (slc (slc (slk (slk (slc (slk (slk (slk sln))))))))) fun hS9 => gdn [(2, Pp b3 0), (5, Pp b11 0), (20, .slice A rs.length cap), (21, Ni rs.length), (22, Ni i)] <| bkN <| sw_next <| sw_region <| Gw0 1 55 ((i : Int) + 1) ((i + 1 : Nat) : Int) <| Go1 1 22 (Ni (i + 1)) <| Dd <| rnd_end (g := (i, rt, nm, vN, lN, nN, pN, x1, x2)) (i + 1, rt ++ [((exprM (rs.map Rv.rl) r.body.nd (msO lN nN)).1 : Int)], nm ++ [r.name], vo20, l21, kn22, pl23, (.slice A142 ((nm ++ [r.name]).length) c143), (.slice A148 ((rt ++ [((exprM (rs.map Rv.rl) r.body.nd (msO lN nN)).1 : Int)]).length) c149)) (by kernel_rfl) ?_ ?_
 replace hH := hH.fr3.fr3.fr3.fr8.fr8.fr8.fr8
 replace hH := (hH.sb (slk (slk (slk (slk (slk (slk (slk sln)))))))).n7
 · exact ⟨by rw [hks, rootsM_at hx, hS24, List.map_cons, List.append_assoc]; rfl, by rw [hnm, names_take hx], by rw [List.length_append, List.length_singleton]; omega, by omega, hE.1, by omega, hov26, hH⟩
 · show rs.length - (i + 1) < rs.length - i; omega
 refine st_buildS (e := 3) (zv := .int .i64 0) (m := 1) (bytes := 8) rfl rfl rfl (by kernel_rfl) (by kernel_rfl) rfl (cs := [Ni ((exprM (rs.map Rv.rl) r.body.nd (msO lN nN)).1)]) (by kernel_rfl) rfl hH ?_
 clear hH; intro b154 w155 hH
 replace hH := hH.n9
 refine Nl (hH.sb (slc (slc (slk (slk (slc (slk (slk (slk sln))))))))) fun hS9 => gdk [(2, Pp b3 0), (5, Pp b11 0), (20, .slice A rs.length cap), (21, Ni rs.length), (22, Ni i), (30, Pp b11 0), (31, Pp b11 0), (36, x1), (38, .string (bs r.name)), (45, x2), (47, .slice (some ⟨b154, 0, none⟩) 1 1)] <| gds 9 (st_buildS (e := 9) (zv := .string (bs [])) (m := 1) (bytes := 16) rfl rfl rfl (by kernel_rfl) (by kernel_rfl) rfl (cs := [.string (bs r.name)]) (by kernel_rfl) rfl hH ?_)
 clear hH; intro b156 w157 hH
 replace hH := hH.n10
 refine Nl (hH.sb (slc (slc (slk (slk (slc (slk (slk (slk sln))))))))) fun hS9 => gds 10 (Apd (e := 9) (.string (bs [])) 1 16 0 rfl hH rfl rfl rfl (hH.row_reads 9 rfl) (by simp [Value.oneCell']) (by unfold maxLen; omega) (by omega) ?_)
 clear hH; intro v158 w159 hH
 replace hH := hH.row_eq 0 (l' := (nm ++ [r.name]).length) (xs' := rowC sC (nm ++ [r.name])) rfl (by simp) (by rw [← rowC_app, rowC_one]; rfl)
 obtain ⟨A160, c161, rfl, hl162, hm163⟩ := hH.row_form 0 rfl
 replace hH := hH.n10
 refine Nl (hH.sb (slc (slc (slk (slk (slc (slk (slk (slk sln))))))))) fun hS9 => gds 18 (Apd (e := 3) (.int .i64 0) 1 8 1 rfl hH rfl rfl rfl (hH.row_reads 8 rfl) (by simp [Value.oneCell']) (by unfold maxLen; omega) (by omega) ?_)
 clear hH; intro v164 w165 hH
 replace hH := hH.row_eq 1 (l' := (rt ++ [((exprM (rs.map Rv.rl) r.body.nd (msO lN nN)).1 : Int)]).length) (xs' := rowC iC (rt ++ [((exprM (rs.map Rv.rl) r.body.nd (msO lN nN)).1 : Int)])) rfl (by simp) (by rw [← rowC_app, rowC_one]; rfl)
 obtain ⟨A166, c167, rfl, hl168, hm169⟩ := hH.row_form 1 rfl
 replace hH := hH.n10
 refine Nl (hH.sb (slc (slc (slk (slk (slc (slk (slk (slk sln))))))))) fun hS9 => Gp1 3 [19,20,21] 51 (Pp b11 2) hS9 <| gds 22 (Ks 4 (.slice A160 ((nm ++ [r.name]).length) c161) rfl hH rfl rfl ?_)
 clear hH; intro w170 hH
 replace hH := hH.n10
 refine Nl (hH.sb (slc (slc (slk (slk (slc (slk (slk (slk sln))))))))) fun hS9 => Gp1 3 [23,24,25] 54 (Pp b11 3) hS9 <| gds 26 (Ks 4 (.slice A166 ((rt ++ [((exprM (rs.map Rv.rl) r.body.nd (msO lN nN)).1 : Int)]).length) c167) rfl hH rfl rfl ?_)
 clear hH; intro w171 hH
 replace hH := hH.n10
 refine Nl (hH.sb (slc (slc (slk (slk (slc (slk (slk (slk sln))))))))) fun hS9 => gdn [(2, Pp b3 0), (5, Pp b11 0), (20, .slice A rs.length cap), (21, Ni rs.length), (22, Ni i)] <| bkN <| sw_next <| sw_region <| Gw0 1 55 ((i : Int) + 1) ((i + 1 : Nat) : Int) <| Go1 1 22 (Ni (i + 1)) <| Dd <| rnd_end (g := (i, rt, nm, vN, lN, nN, pN, x1, x2)) (i + 1, rt ++ [((exprM (rs.map Rv.rl) r.body.nd (msO lN nN)).1 : Int)], nm ++ [r.name], vo20, l21, kn22, pl23, (.slice A160 ((nm ++ [r.name]).length) c161), (.slice A166 ((rt ++ [((exprM (rs.map Rv.rl) r.body.nd (msO lN nN)).1 : Int)]).length) c167)) (by kernel_rfl) ?_ ?_
 replace hH := hH.fr3.fr3.fr3.fr8.fr8.fr8.fr8
 replace hH := (hH.sb (slk (slk (slk (slk (slk (slk (slk sln)))))))).n7
 · exact ⟨by rw [hks, rootsM_at hx, hS24, List.map_cons, List.append_assoc]; rfl, by rw [hnm, names_take hx], by rw [List.length_append, List.length_singleton]; omega, by omega, hE.1, by omega, hov26, hH⟩
 · show rs.length - (i + 1) < rs.length - i; omega
 refine st_buildS (e := 3) (zv := .int .i64 0) (m := 1) (bytes := 8) rfl rfl rfl (by kernel_rfl) (by kernel_rfl) rfl (cs := [Ni ((exprM (rs.map Rv.rl) r.body.nd (msO lN nN)).1)]) (by kernel_rfl) rfl hH ?_
 clear hH; intro b172 w173 hH
 replace hH := hH.n9
 refine Nl (hH.sb (slc (slc (slk (slk (slc (slk (slk (slk sln))))))))) fun hS9 => gdk [(2, Pp b3 0), (5, Pp b11 0), (20, .slice A rs.length cap), (21, Ni rs.length), (22, Ni i), (30, Pp b11 0), (31, Pp b11 0), (36, x1), (38, .string (bs r.name)), (44, Pp b11 3), (47, .slice (some ⟨b172, 0, none⟩) 1 1)] <| gd_st2 9 15 (by kernel_rfl) ?_ ?_
 refine st_buildS (e := 9) (zv := .string (bs [])) (m := 1) (bytes := 16) rfl rfl rfl (by kernel_rfl) (by kernel_rfl) rfl (cs := [.string (bs r.name)]) (by kernel_rfl) rfl hH ?_
 clear hH; intro b174 w175 hH
 replace hH := hH.n10
 refine Nl (hH.sb (slc (slc (slk (slk (slc (slk (slk (slk sln))))))))) fun hS9 => gdk [(2, Pp b3 0), (5, Pp b11 0), (20, .slice A rs.length cap), (21, Ni rs.length), (22, Ni i), (30, Pp b11 0), (31, Pp b11 0), (36, x1), (39, .slice (some ⟨b174, 0, none⟩) 1 1), (44, Pp b11 3), (47, .slice (some ⟨b172, 0, none⟩) 1 1)] <| gd_st2 10 15 (by kernel_rfl) ?_ ?_
 refine Apd (e := 9) (.string (bs [])) 1 16 0 rfl hH rfl rfl rfl (hH.row_reads 9 rfl) (by simp [Value.oneCell']) (by unfold maxLen; omega) (by omega) ?_
 clear hH; intro v176 w177 hH
 replace hH := hH.row_eq 0 (l' := (nm ++ [r.name]).length) (xs' := rowC sC (nm ++ [r.name])) rfl (by simp) (by rw [← rowC_app, rowC_one]; rfl)
 obtain ⟨A178, c179, rfl, hl180, hm181⟩ := hH.row_form 0 rfl
 replace hH := hH.n10
 refine Nl (hH.sb (slc (slc (slk (slk (slc (slk (slk (slk sln))))))))) fun hS9 => gdk [(2, Pp b3 0), (5, Pp b11 0), (20, .slice A rs.length cap), (21, Ni rs.length), (22, Ni i), (30, Pp b11 0), (31, Pp b11 0), (40, .slice A178 ((nm ++ [r.name]).length) c179), (44, Pp b11 3), (47, .slice (some ⟨b172, 0, none⟩) 1 1)] <| gds 15 (st_q rfl rfl rfl (Lk 4 hH rfl rfl rfl) ?_)
 refine Nl hS9 fun hS9 => gds 18 (Apd (e := 3) (.int .i64 0) 1 8 1 rfl hH rfl rfl rfl (hH.row_reads 8 rfl) (by simp [Value.oneCell']) (by unfold maxLen; omega) (by omega) ?_)
 clear hH; intro v182 w183 hH
 replace hH := hH.row_eq 1 (l' := (rt ++ [((exprM (rs.map Rv.rl) r.body.nd (msO lN nN)).1 : Int)]).length) (xs' := rowC iC (rt ++ [((exprM (rs.map Rv.rl) r.body.nd (msO lN nN)).1 : Int)])) rfl (by simp) (by rw [← rowC_app, rowC_one]; rfl)
 obtain ⟨A184, c185, rfl, hl186, hm187⟩ := hH.row_form 1 rfl
 replace hH := hH.n10
 refine Nl (hH.sb (slc (slc (slk (slk (slc (slk (slk (slk sln))))))))) fun hS9 => Gp1 3 [19,20,21] 51 (Pp b11 2) hS9 <| gds 22 (Ks 4 (.slice A178 ((nm ++ [r.name]).length) c179) rfl hH rfl rfl ?_)
 clear hH; intro w188 hH
 replace hH := hH.n10
 refine Nl (hH.sb (slc (slc (slk (slk (slc (slk (slk (slk sln))))))))) fun hS9 => Gp1 3 [23,24,25] 54 (Pp b11 3) hS9 <| gds 26 (Ks 4 (.slice A184 ((rt ++ [((exprM (rs.map Rv.rl) r.body.nd (msO lN nN)).1 : Int)]).length) c185) rfl hH rfl rfl ?_)
 clear hH; intro w189 hH
 replace hH := hH.n10
 refine Nl (hH.sb (slc (slc (slk (slk (slc (slk (slk (slk sln))))))))) fun hS9 => gdn [(2, Pp b3 0), (5, Pp b11 0), (20, .slice A rs.length cap), (21, Ni rs.length), (22, Ni i)] <| bkN <| sw_next <| sw_region <| Gw0 1 55 ((i : Int) + 1) ((i + 1 : Nat) : Int) <| Go1 1 22 (Ni (i + 1)) <| Dd <| rnd_end (g := (i, rt, nm, vN, lN, nN, pN, x1, x2)) (i + 1, rt ++ [((exprM (rs.map Rv.rl) r.body.nd (msO lN nN)).1 : Int)], nm ++ [r.name], vo20, l21, kn22, pl23, (.slice A178 ((nm ++ [r.name]).length) c179), (.slice A184 ((rt ++ [((exprM (rs.map Rv.rl) r.body.nd (msO lN nN)).1 : Int)]).length) c185)) (by kernel_rfl) ?_ ?_
 replace hH := hH.fr3.fr3.fr3.fr8.fr8.fr8.fr8
 replace hH := (hH.sb (slk (slk (slk (slk (slk (slk (slk sln)))))))).n7
 · exact ⟨by rw [hks, rootsM_at hx, hS24, List.map_cons, List.append_assoc]; rfl, by rw [hnm, names_take hx], by rw [List.length_append, List.length_singleton]; omega, by omega, hE.1, by omega, hov26, hH⟩
 · show rs.length - (i + 1) < rs.length - i; omega
 refine st_q rfl rfl rfl (Lk 4 hH rfl rfl rfl) <| Nl hS9 fun hS9 => gdk [(2, Pp b3 0), (5, Pp b11 0), (20, .slice A rs.length cap), (21, Ni rs.length), (22, Ni i), (30, Pp b11 0), (31, Pp b11 0), (36, x1), (39, .slice (some ⟨b174, 0, none⟩) 1 1), (45, x2), (47, .slice (some ⟨b172, 0, none⟩) 1 1)] <| gds 10 (Apd (e := 9) (.string (bs [])) 1 16 0 rfl hH rfl rfl rfl (hH.row_reads 9 rfl) (by simp [Value.oneCell']) (by unfold maxLen; omega) (by omega) ?_)
 clear hH; intro v190 w191 hH
 replace hH := hH.row_eq 0 (l' := (nm ++ [r.name]).length) (xs' := rowC sC (nm ++ [r.name])) rfl (by simp) (by rw [← rowC_app, rowC_one]; rfl)
 obtain ⟨A192, c193, rfl, hl194, hm195⟩ := hH.row_form 0 rfl
 replace hH := hH.n10
 refine Nl (hH.sb (slc (slc (slk (slk (slc (slk (slk (slk sln))))))))) fun hS9 => gds 18 (Apd (e := 3) (.int .i64 0) 1 8 1 rfl hH rfl rfl rfl (hH.row_reads 8 rfl) (by simp [Value.oneCell']) (by unfold maxLen; omega) (by omega) ?_)
 clear hH; intro v196 w197 hH
 replace hH := hH.row_eq 1 (l' := (rt ++ [((exprM (rs.map Rv.rl) r.body.nd (msO lN nN)).1 : Int)]).length) (xs' := rowC iC (rt ++ [((exprM (rs.map Rv.rl) r.body.nd (msO lN nN)).1 : Int)])) rfl (by simp) (by rw [← rowC_app, rowC_one]; rfl)
 obtain ⟨A198, c199, rfl, hl200, hm201⟩ := hH.row_form 1 rfl
 replace hH := hH.n10
 refine Nl (hH.sb (slc (slc (slk (slk (slc (slk (slk (slk sln))))))))) fun hS9 => Gp1 3 [19,20,21] 51 (Pp b11 2) hS9 <| gds 22 (Ks 4 (.slice A192 ((nm ++ [r.name]).length) c193) rfl hH rfl rfl ?_)
 clear hH; intro w202 hH
 replace hH := hH.n10
 refine Nl (hH.sb (slc (slc (slk (slk (slc (slk (slk (slk sln))))))))) fun hS9 => Gp1 3 [23,24,25] 54 (Pp b11 3) hS9 <| gds 26 (Ks 4 (.slice A198 ((rt ++ [((exprM (rs.map Rv.rl) r.body.nd (msO lN nN)).1 : Int)]).length) c199) rfl hH rfl rfl ?_)
 clear hH; intro w203 hH
 replace hH := hH.n10
 refine Nl (hH.sb (slc (slc (slk (slk (slc (slk (slk (slk sln))))))))) fun hS9 => gdn [(2, Pp b3 0), (5, Pp b11 0), (20, .slice A rs.length cap), (21, Ni rs.length), (22, Ni i)] <| bkN <| sw_next <| sw_region <| Gw0 1 55 ((i : Int) + 1) ((i + 1 : Nat) : Int) <| Go1 1 22 (Ni (i + 1)) <| Dd <| rnd_end (g := (i, rt, nm, vN, lN, nN, pN, x1, x2)) (i + 1, rt ++ [((exprM (rs.map Rv.rl) r.body.nd (msO lN nN)).1 : Int)], nm ++ [r.name], vo20, l21, kn22, pl23, (.slice A192 ((nm ++ [r.name]).length) c193), (.slice A198 ((rt ++ [((exprM (rs.map Rv.rl) r.body.nd (msO lN nN)).1 : Int)]).length) c199)) (by kernel_rfl) ?_ ?_
 replace hH := hH.fr3.fr3.fr3.fr8.fr8.fr8.fr8
 replace hH := (hH.sb (slk (slk (slk (slk (slk (slk (slk sln)))))))).n7
 · exact ⟨by rw [hks, rootsM_at hx, hS24, List.map_cons, List.append_assoc]; rfl, by rw [hnm, names_take hx], by rw [List.length_append, List.length_singleton]; omega, by omega, hE.1, by omega, hov26, hH⟩
 · show rs.length - (i + 1) < rs.length - i; omega
 refine st_q rfl rfl rfl (Lk 4 hH rfl rfl rfl) <| Nl hS9 fun hS9 => gdk [(2, Pp b3 0), (5, Pp b11 0), (20, .slice A rs.length cap), (21, Ni rs.length), (22, Ni i), (30, Pp b11 0), (31, Pp b11 0), (36, x1), (38, .string (bs r.name)), (45, x2), (47, .slice (some ⟨b172, 0, none⟩) 1 1)] <| gds 9 (st_buildS (e := 9) (zv := .string (bs [])) (m := 1) (bytes := 16) rfl rfl rfl (by kernel_rfl) (by kernel_rfl) rfl (cs := [.string (bs r.name)]) (by kernel_rfl) rfl hH ?_)
 clear hH; intro b204 w205 hH
 replace hH := hH.n10
 refine Nl (hH.sb (slc (slc (slk (slk (slc (slk (slk (slk sln))))))))) fun hS9 => gds 10 (Apd (e := 9) (.string (bs [])) 1 16 0 rfl hH rfl rfl rfl (hH.row_reads 9 rfl) (by simp [Value.oneCell']) (by unfold maxLen; omega) (by omega) ?_)
 clear hH; intro v206 w207 hH
 replace hH := hH.row_eq 0 (l' := (nm ++ [r.name]).length) (xs' := rowC sC (nm ++ [r.name])) rfl (by simp) (by rw [← rowC_app, rowC_one]; rfl)
 obtain ⟨A208, c209, rfl, hl210, hm211⟩ := hH.row_form 0 rfl
 replace hH := hH.n10
 refine Nl (hH.sb (slc (slc (slk (slk (slc (slk (slk (slk sln))))))))) fun hS9 => gds 18 (Apd (e := 3) (.int .i64 0) 1 8 1 rfl hH rfl rfl rfl (hH.row_reads 8 rfl) (by simp [Value.oneCell']) (by unfold maxLen; omega) (by omega) ?_)
 clear hH; intro v212 w213 hH
 replace hH := hH.row_eq 1 (l' := (rt ++ [((exprM (rs.map Rv.rl) r.body.nd (msO lN nN)).1 : Int)]).length) (xs' := rowC iC (rt ++ [((exprM (rs.map Rv.rl) r.body.nd (msO lN nN)).1 : Int)])) rfl (by simp) (by rw [← rowC_app, rowC_one]; rfl)
 obtain ⟨A214, c215, rfl, hl216, hm217⟩ := hH.row_form 1 rfl
 replace hH := hH.n10
 refine Nl (hH.sb (slc (slc (slk (slk (slc (slk (slk (slk sln))))))))) fun hS9 => Gp1 3 [19,20,21] 51 (Pp b11 2) hS9 <| gds 22 (Ks 4 (.slice A208 ((nm ++ [r.name]).length) c209) rfl hH rfl rfl ?_)
 clear hH; intro w218 hH
 replace hH := hH.n10
 refine Nl (hH.sb (slc (slc (slk (slk (slc (slk (slk (slk sln))))))))) fun hS9 => Gp1 3 [23,24,25] 54 (Pp b11 3) hS9 <| gds 26 (Ks 4 (.slice A214 ((rt ++ [((exprM (rs.map Rv.rl) r.body.nd (msO lN nN)).1 : Int)]).length) c215) rfl hH rfl rfl ?_)
 clear hH; intro w219 hH
 replace hH := hH.n10
 refine Nl (hH.sb (slc (slc (slk (slk (slc (slk (slk (slk sln))))))))) fun hS9 => gdn [(2, Pp b3 0), (5, Pp b11 0), (20, .slice A rs.length cap), (21, Ni rs.length), (22, Ni i)] <| bkN <| sw_next <| sw_region <| Gw0 1 55 ((i : Int) + 1) ((i + 1 : Nat) : Int) <| Go1 1 22 (Ni (i + 1)) <| Dd <| rnd_end (g := (i, rt, nm, vN, lN, nN, pN, x1, x2)) (i + 1, rt ++ [((exprM (rs.map Rv.rl) r.body.nd (msO lN nN)).1 : Int)], nm ++ [r.name], vo20, l21, kn22, pl23, (.slice A208 ((nm ++ [r.name]).length) c209), (.slice A214 ((rt ++ [((exprM (rs.map Rv.rl) r.body.nd (msO lN nN)).1 : Int)]).length) c215)) (by kernel_rfl) ?_ ?_
 replace hH := hH.fr3.fr3.fr3.fr8.fr8.fr8.fr8
 replace hH := (hH.sb (slk (slk (slk (slk (slk (slk (slk sln)))))))).n7
 · exact ⟨by rw [hks, rootsM_at hx, hS24, List.map_cons, List.append_assoc]; rfl, by rw [hnm, names_take hx], by rw [List.length_append, List.length_singleton]; omega, by omega, hE.1, by omega, hov26, hH⟩
 · show rs.length - (i + 1) < rs.length - i; omega
 refine st_buildS (e := 9) (zv := .string (bs [])) (m := 1) (bytes := 16) rfl rfl rfl (by kernel_rfl) (by kernel_rfl) rfl (cs := [.string (bs r.name)]) (by kernel_rfl) rfl hH ?_
 clear hH; intro b220 w221 hH
 replace hH := hH.n9
 refine Nl (hH.sb (slc (slc (slk (slk (slc (slk (slk (slk sln))))))))) fun hS9 => gdk [(2, Pp b3 0), (5, Pp b11 0), (20, .slice A rs.length cap), (21, Ni rs.length), (22, Ni i), (30, Pp b11 0), (31, Pp b11 0), (35, Pp b11 2), (39, .slice (some ⟨b220, 0, none⟩) 1 1), (44, Pp b11 3), (46, Ni ((exprM (rs.map Rv.rl) r.body.nd (msO lN nN)).1))] <| gd_st3 6 15 17 (by kernel_rfl) ?_ ?_ ?_
 refine st_q rfl rfl rfl (Lk 4 hH rfl rfl rfl) <| Nl hS9 fun hS9 => gdk [(2, Pp b3 0), (5, Pp b11 0), (20, .slice A rs.length cap), (21, Ni rs.length), (22, Ni i), (30, Pp b11 0), (31, Pp b11 0), (36, x1), (39, .slice (some ⟨b220, 0, none⟩) 1 1), (44, Pp b11 3), (46, Ni ((exprM (rs.map Rv.rl) r.body.nd (msO lN nN)).1))] <| gd_st3 10 15 17 (by kernel_rfl) ?_ ?_ ?_
 refine Apd (e := 9) (.string (bs [])) 1 16 0 rfl hH rfl rfl rfl (hH.row_reads 8 rfl) (by simp [Value.oneCell']) (by unfold maxLen; omega) (by omega) ?_
 clear hH; intro v222 w223 hH
 replace hH := hH.row_eq 0 (l' := (nm ++ [r.name]).length) (xs' := rowC sC (nm ++ [r.name])) rfl (by simp) (by rw [← rowC_app, rowC_one]; rfl)
 obtain ⟨A224, c225, rfl, hl226, hm227⟩ := hH.row_form 0 rfl
 replace hH := hH.n9
 refine Nl (hH.sb (slc (slc (slk (slk (slc (slk (slk (slk sln))))))))) fun hS9 => gdk [(2, Pp b3 0), (5, Pp b11 0), (20, .slice A rs.length cap), (21, Ni rs.length), (22, Ni i), (30, Pp b11 0), (31, Pp b11 0), (40, .slice A224 ((nm ++ [r.name]).length) c225), (44, Pp b11 3), (46, Ni ((exprM (rs.map Rv.rl) r.body.nd (msO lN nN)).1))] <| gd_st2 15 17 (by kernel_rfl) ?_ ?_
 refine st_q rfl rfl rfl (Lk 4 hH rfl rfl rfl) <| Nl hS9 fun hS9 => gdk [(2, Pp b3 0), (5, Pp b11 0), (20, .slice A rs.length cap), (21, Ni rs.length), (22, Ni i), (30, Pp b11 0), (31, Pp b11 0), (40, .slice A224 ((nm ++ [r.name]).length) c225), (45, x2), (46, Ni ((exprM (rs.map Rv.rl) r.body.nd (msO lN nN)).1))] <| gds 17 (st_buildS (e := 3) (zv := .int .i64 0) (m := 1) (bytes := 8) rfl rfl rfl (by kernel_rfl) (by kernel_rfl) rfl (cs := [Ni ((exprM (rs.map Rv.rl) r.body.nd (msO lN nN)).1)]) (by kernel_rfl) rfl hH ?_)
 clear hH; intro b228 w229 hH
 replace hH := hH.n10
 refine Nl (hH.sb (slc (slc (slk (slk (slc (slk (slk (slk sln))))))))) fun hS9 => gds 18 (Apd (e := 3) (.int .i64 0) 1 8 1 rfl hH rfl rfl rfl (hH.row_reads 9 rfl) (by simp [Value.oneCell']) (by unfold maxLen; omega) (by omega) ?_)
 clear hH; intro v230 w231 hH
 replace hH := hH.row_eq 1 (l' := (rt ++ [((exprM (rs.map Rv.rl) r.body.nd (msO lN nN)).1 : Int)]).length) (xs' := rowC iC (rt ++ [((exprM (rs.map Rv.rl) r.body.nd (msO lN nN)).1 : Int)])) rfl (by simp) (by rw [← rowC_app, rowC_one]; rfl)
 obtain ⟨A232, c233, rfl, hl234, hm235⟩ := hH.row_form 1 rfl
 replace hH := hH.n10
 refine Nl (hH.sb (slc (slc (slk (slk (slc (slk (slk (slk sln))))))))) fun hS9 => Gp1 3 [19,20,21] 51 (Pp b11 2) hS9 <| gds 22 (Ks 4 (.slice A224 ((nm ++ [r.name]).length) c225) rfl hH rfl rfl ?_)
 clear hH; intro w236 hH
 replace hH := hH.n10
 refine Nl (hH.sb (slc (slc (slk (slk (slc (slk (slk (slk sln))))))))) fun hS9 => Gp1 3 [23,24,25] 54 (Pp b11 3) hS9 <| gds 26 (Ks 4 (.slice A232 ((rt ++ [((exprM (rs.map Rv.rl) r.body.nd (msO lN nN)).1 : Int)]).length) c233) rfl hH rfl rfl ?_)
 clear hH; intro w237 hH
 replace hH := hH.n10
 refine Nl (hH.sb (slc (slc (slk (slk (slc (slk (slk (slk sln))))))))) fun hS9 => gdn [(2, Pp b3 0), (5, Pp b11 0), (20, .slice A rs.length cap), (21, Ni rs.length), (22, Ni i)] <| bkN <| sw_next <| sw_region <| Gw0 1 55 ((i : Int) + 1) ((i + 1 : Nat) : Int) <| Go1 1 22 (Ni (i + 1)) <| Dd <| rnd_end (g := (i, rt, nm, vN, lN, nN, pN, x1, x2)) (i + 1, rt ++ [((exprM (rs.map Rv.rl) r.body.nd (msO lN nN)).1 : Int)], nm ++ [r.name], vo20, l21, kn22, pl23, (.slice A224 ((nm ++ [r.name]).length) c225), (.slice A232 ((rt ++ [((exprM (rs.map Rv.rl) r.body.nd (msO lN nN)).1 : Int)]).length) c233)) (by kernel_rfl) ?_ ?_
 replace hH := hH.fr3.fr3.fr3.fr8.fr8.fr8.fr8
 replace hH := (hH.sb (slk (slk (slk (slk (slk (slk (slk sln)))))))).n7
 · exact ⟨by rw [hks, rootsM_at hx, hS24, List.map_cons, List.append_assoc]; rfl, by rw [hnm, names_take hx], by rw [List.length_append, List.length_singleton]; omega, by omega, hE.1, by omega, hov26, hH⟩
 · show rs.length - (i + 1) < rs.length - i; omega
 refine st_buildS (e := 3) (zv := .int .i64 0) (m := 1) (bytes := 8) rfl rfl rfl (by kernel_rfl) (by kernel_rfl) rfl (cs := [Ni ((exprM (rs.map Rv.rl) r.body.nd (msO lN nN)).1)]) (by kernel_rfl) rfl hH ?_
 clear hH; intro b238 w239 hH
 replace hH := hH.n10
 refine Nl (hH.sb (slc (slc (slk (slk (slc (slk (slk (slk sln))))))))) fun hS9 => gdk [(2, Pp b3 0), (5, Pp b11 0), (20, .slice A rs.length cap), (21, Ni rs.length), (22, Ni i), (30, Pp b11 0), (31, Pp b11 0), (40, .slice A224 ((nm ++ [r.name]).length) c225), (44, Pp b11 3), (47, .slice (some ⟨b238, 0, none⟩) 1 1)] <| gds 15 (st_q rfl rfl rfl (Lk 4 hH rfl rfl rfl) ?_)
 refine Nl hS9 fun hS9 => gds 18 (Apd (e := 3) (.int .i64 0) 1 8 1 rfl hH rfl rfl rfl (hH.row_reads 9 rfl) (by simp [Value.oneCell']) (by unfold maxLen; omega) (by omega) ?_)
 clear hH; intro v240 w241 hH
 replace hH := hH.row_eq 1 (l' := (rt ++ [((exprM (rs.map Rv.rl) r.body.nd (msO lN nN)).1 : Int)]).length) (xs' := rowC iC (rt ++ [((exprM (rs.map Rv.rl) r.body.nd (msO lN nN)).1 : Int)])) rfl (by simp) (by rw [← rowC_app, rowC_one]; rfl)
 obtain ⟨A242, c243, rfl, hl244, hm245⟩ := hH.row_form 1 rfl
 replace hH := hH.n10
 refine Nl (hH.sb (slc (slc (slk (slk (slc (slk (slk (slk sln))))))))) fun hS9 => Gp1 3 [19,20,21] 51 (Pp b11 2) hS9 <| gds 22 (Ks 4 (.slice A224 ((nm ++ [r.name]).length) c225) rfl hH rfl rfl ?_)
 clear hH; intro w246 hH
 replace hH := hH.n10
 refine Nl (hH.sb (slc (slc (slk (slk (slc (slk (slk (slk sln))))))))) fun hS9 => Gp1 3 [23,24,25] 54 (Pp b11 3) hS9 <| gds 26 (Ks 4 (.slice A242 ((rt ++ [((exprM (rs.map Rv.rl) r.body.nd (msO lN nN)).1 : Int)]).length) c243) rfl hH rfl rfl ?_)
 clear hH; intro w247 hH
 replace hH := hH.n10
 refine Nl (hH.sb (slc (slc (slk (slk (slc (slk (slk (slk sln))))))))) fun hS9 => gdn [(2, Pp b3 0), (5, Pp b11 0), (20, .slice A rs.length cap), (21, Ni rs.length), (22, Ni i)] <| bkN <| sw_next <| sw_region <| Gw0 1 55 ((i : Int) + 1) ((i + 1 : Nat) : Int) <| Go1 1 22 (Ni (i + 1)) <| Dd <| rnd_end (g := (i, rt, nm, vN, lN, nN, pN, x1, x2)) (i + 1, rt ++ [((exprM (rs.map Rv.rl) r.body.nd (msO lN nN)).1 : Int)], nm ++ [r.name], vo20, l21, kn22, pl23, (.slice A224 ((nm ++ [r.name]).length) c225), (.slice A242 ((rt ++ [((exprM (rs.map Rv.rl) r.body.nd (msO lN nN)).1 : Int)]).length) c243)) (by kernel_rfl) ?_ ?_
 replace hH := hH.fr3.fr3.fr3.fr8.fr8.fr8.fr8
 replace hH := (hH.sb (slk (slk (slk (slk (slk (slk (slk sln)))))))).n7
 · exact ⟨by rw [hks, rootsM_at hx, hS24, List.map_cons, List.append_assoc]; rfl, by rw [hnm, names_take hx], by rw [List.length_append, List.length_singleton]; omega, by omega, hE.1, by omega, hov26, hH⟩
 · show rs.length - (i + 1) < rs.length - i; omega
 refine st_q rfl rfl rfl (Lk 4 hH rfl rfl rfl) <| Nl hS9 fun hS9 => gdk [(2, Pp b3 0), (5, Pp b11 0), (20, .slice A rs.length cap), (21, Ni rs.length), (22, Ni i), (30, Pp b11 0), (31, Pp b11 0), (36, x1), (39, .slice (some ⟨b220, 0, none⟩) 1 1), (45, x2), (46, Ni ((exprM (rs.map Rv.rl) r.body.nd (msO lN nN)).1))] <| gd_st2 10 17 (by kernel_rfl) ?_ ?_
 refine Apd (e := 9) (.string (bs [])) 1 16 0 rfl hH rfl rfl rfl (hH.row_reads 8 rfl) (by simp [Value.oneCell']) (by unfold maxLen; omega) (by omega) ?_
 clear hH; intro v248 w249 hH
 replace hH := hH.row_eq 0 (l' := (nm ++ [r.name]).length) (xs' := rowC sC (nm ++ [r.name])) rfl (by simp) (by rw [← rowC_app, rowC_one]; rfl)
 obtain ⟨A250, c251, rfl, hl252, hm253⟩ := hH.row_form 0 rfl
 replace hH := hH.n9
 refine Nl (hH.sb (slc (slc (slk (slk (slc (slk (slk (slk sln))))))))) fun hS9 => gdk [(2, Pp b3 0), (5, Pp b11 0), (20, .slice A rs.length cap), (21, Ni rs.length), (22, Ni i), (30, Pp b11 0), (31, Pp b11 0), (40, .slice A250 ((nm ++ [r.name]).length) c251), (45, x2), (46, Ni ((exprM (rs.map Rv.rl) r.body.nd (msO lN nN)).1))] <| gds 17 (st_buildS (e := 3) (zv := .int .i64 0) (m := 1) (bytes := 8) rfl rfl rfl (by kernel_rfl) (by kernel_rfl) rfl (cs := [Ni ((exprM (rs.map Rv.rl) r.body.nd (msO lN nN)).1)]) (by kernel_rfl) rfl hH ?_)
 clear hH; intro b254 w255 hH
 replace hH := hH.n10
 refine Nl (hH.sb (slc (slc (slk (slk (slc (slk (slk (slk sln))))))))) fun hS9 => gds 18 (Apd (e := 3) (.int .i64 0) 1 8 1 rfl hH rfl rfl rfl (hH.row_reads 9 rfl) (by simp [Value.oneCell']) (by unfold maxLen; omega) (by omega) ?_)
 clear hH; intro v256 w257 hH
 replace hH := hH.row_eq 1 (l' := (rt ++ [((exprM (rs.map Rv.rl) r.body.nd (msO lN nN)).1 : Int)]).length) (xs' := rowC iC (rt ++ [((exprM (rs.map Rv.rl) r.body.nd (msO lN nN)).1 : Int)])) rfl (by simp) (by rw [← rowC_app, rowC_one]; rfl)
 obtain ⟨A258, c259, rfl, hl260, hm261⟩ := hH.row_form 1 rfl
 replace hH := hH.n10
 refine Nl (hH.sb (slc (slc (slk (slk (slc (slk (slk (slk sln))))))))) fun hS9 => Gp1 3 [19,20,21] 51 (Pp b11 2) hS9 <| gds 22 (Ks 4 (.slice A250 ((nm ++ [r.name]).length) c251) rfl hH rfl rfl ?_)
 clear hH; intro w262 hH
 replace hH := hH.n10
 refine Nl (hH.sb (slc (slc (slk (slk (slc (slk (slk (slk sln))))))))) fun hS9 => Gp1 3 [23,24,25] 54 (Pp b11 3) hS9 <| gds 26 (Ks 4 (.slice A258 ((rt ++ [((exprM (rs.map Rv.rl) r.body.nd (msO lN nN)).1 : Int)]).length) c259) rfl hH rfl rfl ?_)
 clear hH; intro w263 hH
 replace hH := hH.n10
 refine Nl (hH.sb (slc (slc (slk (slk (slc (slk (slk (slk sln))))))))) fun hS9 => gdn [(2, Pp b3 0), (5, Pp b11 0), (20, .slice A rs.length cap), (21, Ni rs.length), (22, Ni i)] <| bkN <| sw_next <| sw_region <| Gw0 1 55 ((i : Int) + 1) ((i + 1 : Nat) : Int) <| Go1 1 22 (Ni (i + 1)) <| Dd <| rnd_end (g := (i, rt, nm, vN, lN, nN, pN, x1, x2)) (i + 1, rt ++ [((exprM (rs.map Rv.rl) r.body.nd (msO lN nN)).1 : Int)], nm ++ [r.name], vo20, l21, kn22, pl23, (.slice A250 ((nm ++ [r.name]).length) c251), (.slice A258 ((rt ++ [((exprM (rs.map Rv.rl) r.body.nd (msO lN nN)).1 : Int)]).length) c259)) (by kernel_rfl) ?_ ?_
 replace hH := hH.fr3.fr3.fr3.fr8.fr8.fr8.fr8
 replace hH := (hH.sb (slk (slk (slk (slk (slk (slk (slk sln)))))))).n7
 · exact ⟨by rw [hks, rootsM_at hx, hS24, List.map_cons, List.append_assoc]; rfl, by rw [hnm, names_take hx], by rw [List.length_append, List.length_singleton]; omega, by omega, hE.1, by omega, hov26, hH⟩
 · show rs.length - (i + 1) < rs.length - i; omega
 refine st_buildS (e := 3) (zv := .int .i64 0) (m := 1) (bytes := 8) rfl rfl rfl (by kernel_rfl) (by kernel_rfl) rfl (cs := [Ni ((exprM (rs.map Rv.rl) r.body.nd (msO lN nN)).1)]) (by kernel_rfl) rfl hH ?_
 clear hH; intro b264 w265 hH
 replace hH := hH.n10
 refine Nl (hH.sb (slc (slc (slk (slk (slc (slk (slk (slk sln))))))))) fun hS9 => gdk [(2, Pp b3 0), (5, Pp b11 0), (20, .slice A rs.length cap), (21, Ni rs.length), (22, Ni i), (30, Pp b11 0), (31, Pp b11 0), (36, x1), (39, .slice (some ⟨b220, 0, none⟩) 1 1), (45, x2), (47, .slice (some ⟨b264, 0, none⟩) 1 1)] <| gds 10 (Apd (e := 9) (.string (bs [])) 1 16 0 rfl hH rfl rfl rfl (hH.row_reads 8 rfl) (by simp [Value.oneCell']) (by unfold maxLen; omega) (by omega) ?_)
 clear hH; intro v266 w267 hH
 replace hH := hH.row_eq 0 (l' := (nm ++ [r.name]).length) (xs' := rowC sC (nm ++ [r.name])) rfl (by simp) (by rw [← rowC_app, rowC_one]; rfl)
 obtain ⟨A268, c269, rfl, hl270, hm271⟩ := hH.row_form 0 rfl
 replace hH := hH.n10
 refine Nl (hH.sb (slc (slc (slk (slk (slc (slk (slk (slk sln))))))))) fun hS9 => gds 18 (Apd (e := 3) (.int .i64 0) 1 8 1 rfl hH rfl rfl rfl (hH.row_reads 9 rfl) (by simp [Value.oneCell']) (by unfold maxLen; omega) (by omega) ?_)
 clear hH; intro v272 w273 hH
 replace hH := hH.row_eq 1 (l' := (rt ++ [((exprM (rs.map Rv.rl) r.body.nd (msO lN nN)).1 : Int)]).length) (xs' := rowC iC (rt ++ [((exprM (rs.map Rv.rl) r.body.nd (msO lN nN)).1 : Int)])) rfl (by simp) (by rw [← rowC_app, rowC_one]; rfl)
 obtain ⟨A274, c275, rfl, hl276, hm277⟩ := hH.row_form 1 rfl
 replace hH := hH.n10
 refine Nl (hH.sb (slc (slc (slk (slk (slc (slk (slk (slk sln))))))))) fun hS9 => Gp1 3 [19,20,21] 51 (Pp b11 2) hS9 <| gds 22 (Ks 4 (.slice A268 ((nm ++ [r.name]).length) c269) rfl hH rfl rfl ?_)
 clear hH; intro w278 hH
 replace hH := hH.n10
 refine Nl (hH.sb (slc (slc (slk (slk (slc (slk (slk (slk sln))))))))) fun hS9 => Gp1 3 [23,24,25] 54 (Pp b11 3) hS9 <| gds 26 (Ks 4 (.slice A274 ((rt ++ [((exprM (rs.map Rv.rl) r.body.nd (msO lN nN)).1 : Int)]).length) c275) rfl hH rfl rfl ?_)
 clear hH; intro w279 hH
 replace hH := hH.n10
 refine Nl (hH.sb (slc (slc (slk (slk (slc (slk (slk (slk sln))))))))) fun hS9 => gdn [(2, Pp b3 0), (5, Pp b11 0), (20, .slice A rs.length cap), (21, Ni rs.length), (22, Ni i)] <| bkN <| sw_next <| sw_region <| Gw0 1 55 ((i : Int) + 1) ((i + 1 : Nat) : Int) <| Go1 1 22 (Ni (i + 1)) <| Dd <| rnd_end (g := (i, rt, nm, vN, lN, nN, pN, x1, x2)) (i + 1, rt ++ [((exprM (rs.map Rv.rl) r.body.nd (msO lN nN)).1 : Int)], nm ++ [r.name], vo20, l21, kn22, pl23, (.slice A268 ((nm ++ [r.name]).length) c269), (.slice A274 ((rt ++ [((exprM (rs.map Rv.rl) r.body.nd (msO lN nN)).1 : Int)]).length) c275)) (by kernel_rfl) ?_ ?_
 replace hH := hH.fr3.fr3.fr3.fr8.fr8.fr8.fr8
 replace hH := (hH.sb (slk (slk (slk (slk (slk (slk (slk sln)))))))).n7
 · exact ⟨by rw [hks, rootsM_at hx, hS24, List.map_cons, List.append_assoc]; rfl, by rw [hnm, names_take hx], by rw [List.length_append, List.length_singleton]; omega, by omega, hE.1, by omega, hov26, hH⟩
 · show rs.length - (i + 1) < rs.length - i; omega
 refine st_buildS (e := 3) (zv := .int .i64 0) (m := 1) (bytes := 8) rfl rfl rfl (by kernel_rfl) (by kernel_rfl) rfl (cs := [Ni ((exprM (rs.map Rv.rl) r.body.nd (msO lN nN)).1)]) (by kernel_rfl) rfl hH ?_
 clear hH; intro b280 w281 hH
 replace hH := hH.n10
 refine Nl (hH.sb (slc (slc (slk (slk (slc (slk (slk (slk sln))))))))) fun hS9 => gdk [(2, Pp b3 0), (5, Pp b11 0), (20, .slice A rs.length cap), (21, Ni rs.length), (22, Ni i), (30, Pp b11 0), (31, Pp b11 0), (36, x1), (39, .slice (some ⟨b220, 0, none⟩) 1 1), (44, Pp b11 3), (47, .slice (some ⟨b280, 0, none⟩) 1 1)] <| gd_st2 10 15 (by kernel_rfl) ?_ ?_
 refine Apd (e := 9) (.string (bs [])) 1 16 0 rfl hH rfl rfl rfl (hH.row_reads 8 rfl) (by simp [Value.oneCell']) (by unfold maxLen; omega) (by omega) ?_
 clear hH; intro v282 w283 hH
 replace hH := hH.row_eq 0 (l' := (nm ++ [r.name]).length) (xs' := rowC sC (nm ++ [r.name])) rfl (by simp) (by rw [← rowC_app, rowC_one]; rfl)
 obtain ⟨A284, c285, rfl, hl286, hm287⟩ := hH.row_form 0 rfl
 replace hH := hH.n10
 refine Nl (hH.sb (slc (slc (slk (slk (slc (slk (slk (slk sln))))))))) fun hS9 => gdk [(2, Pp b3 0), (5, Pp b11 0), (20, .slice A rs.length cap), (21, Ni rs.length), (22, Ni i), (30, Pp b11 0), (31, Pp b11 0), (40, .slice A284 ((nm ++ [r.name]).length) c285), (44, Pp b11 3), (47, .slice (some ⟨b280, 0, none⟩) 1 1)] <| gds 15 (st_q rfl rfl rfl (Lk 4 hH rfl rfl rfl) ?_)
 refine Nl hS9 fun hS9 => gds 18 (Apd (e := 3) (.int .i64 0) 1 8 1 rfl hH rfl rfl rfl (hH.row_reads 9 rfl) (by simp [Value.oneCell']) (by unfold maxLen; omega) (by omega) ?_)
 clear hH; intro v288 w289 hH
 replace hH := hH.row_eq 1 (l' := (rt ++ [((exprM (rs.map Rv.rl) r.body.nd (msO lN nN)).1 : Int)]).length) (xs' := rowC iC (rt ++ [((exprM (rs.map Rv.rl) r.body.nd (msO lN nN)).1 : Int)])) rfl (by simp) (by rw [← rowC_app, rowC_one]; rfl)
 obtain ⟨A290, c291, rfl, hl292, hm293⟩ := hH.row_form 1 rfl
 replace hH := hH.n10
 refine Nl (hH.sb (slc (slc (slk (slk (slc (slk (slk (slk sln))))))))) fun hS9 => Gp1 3 [19,20,21] 51 (Pp b11 2) hS9 <| gds 22 (Ks 4 (.slice A284 ((nm ++ [r.name]).length) c285) rfl hH rfl rfl ?_)
 clear hH; intro w294 hH
 replace hH := hH.n10
 refine Nl (hH.sb (slc (slc (slk (slk (slc (slk (slk (slk sln))))))))) fun hS9 => Gp1 3 [23,24,25] 54 (Pp b11 3) hS9 <| gds 26 (Ks 4 (.slice A290 ((rt ++ [((exprM (rs.map Rv.rl) r.body.nd (msO lN nN)).1 : Int)]).length) c291) rfl hH rfl rfl ?_)
 clear hH; intro w295 hH
 replace hH := hH.n10
 refine Nl (hH.sb (slc (slc (slk (slk (slc (slk (slk (slk sln))))))))) fun hS9 => gdn [(2, Pp b3 0), (5, Pp b11 0), (20, .slice A rs.length cap), (21, Ni rs.length), (22, Ni i)] <| bkN <| sw_next <| sw_region <| Gw0 1 55 ((i : Int) + 1) ((i + 1 : Nat) : Int) <| Go1 1 22 (Ni (i + 1)) <| Dd <| rnd_end (g := (i, rt, nm, vN, lN, nN, pN, x1, x2)) (i + 1, rt ++ [((exprM (rs.map Rv.rl) r.body.nd (msO lN nN)).1 : Int)], nm ++ [r.name], vo20, l21, kn22, pl23, (.slice A284 ((nm ++ [r.name]).length) c285), (.slice A290 ((rt ++ [((exprM (rs.map Rv.rl) r.body.nd (msO lN nN)).1 : Int)]).length) c291)) (by kernel_rfl) ?_ ?_
 replace hH := hH.fr3.fr3.fr3.fr8.fr8.fr8.fr8
 replace hH := (hH.sb (slk (slk (slk (slk (slk (slk (slk sln)))))))).n7
 · exact ⟨by rw [hks, rootsM_at hx, hS24, List.map_cons, List.append_assoc]; rfl, by rw [hnm, names_take hx], by rw [List.length_append, List.length_singleton]; omega, by omega, hE.1, by omega, hov26, hH⟩
 · show rs.length - (i + 1) < rs.length - i; omega
 refine st_q rfl rfl rfl (Lk 4 hH rfl rfl rfl) <| Nl hS9 fun hS9 => gdk [(2, Pp b3 0), (5, Pp b11 0), (20, .slice A rs.length cap), (21, Ni rs.length), (22, Ni i), (30, Pp b11 0), (31, Pp b11 0), (36, x1), (39, .slice (some ⟨b220, 0, none⟩) 1 1), (45, x2), (47, .slice (some ⟨b280, 0, none⟩) 1 1)] <| gds 10 (Apd (e := 9) (.string (bs [])) 1 16 0 rfl hH rfl rfl rfl (hH.row_reads 8 rfl) (by simp [Value.oneCell']) (by unfold maxLen; omega) (by omega) ?_)
 clear hH; intro v296 w297 hH
 replace hH := hH.row_eq 0 (l' := (nm ++ [r.name]).length) (xs' := rowC sC (nm ++ [r.name])) rfl (by simp) (by rw [← rowC_app, rowC_one]; rfl)
 obtain ⟨A298, c299, rfl, hl300, hm301⟩ := hH.row_form 0 rfl
 replace hH := hH.n10
 refine Nl (hH.sb (slc (slc (slk (slk (slc (slk (slk (slk sln))))))))) fun hS9 => gds 18 (Apd (e := 3) (.int .i64 0) 1 8 1 rfl hH rfl rfl rfl (hH.row_reads 9 rfl) (by simp [Value.oneCell']) (by unfold maxLen; omega) (by omega) ?_)
 clear hH; intro v302 w303 hH
 replace hH := hH.row_eq 1 (l' := (rt ++ [((exprM (rs.map Rv.rl) r.body.nd (msO lN nN)).1 : Int)]).length) (xs' := rowC iC (rt ++ [((exprM (rs.map Rv.rl) r.body.nd (msO lN nN)).1 : Int)])) rfl (by simp) (by rw [← rowC_app, rowC_one]; rfl)
 obtain ⟨A304, c305, rfl, hl306, hm307⟩ := hH.row_form 1 rfl
 replace hH := hH.n10
 refine Nl (hH.sb (slc (slc (slk (slk (slc (slk (slk (slk sln))))))))) fun hS9 => Gp1 3 [19,20,21] 51 (Pp b11 2) hS9 <| gds 22 (Ks 4 (.slice A298 ((nm ++ [r.name]).length) c299) rfl hH rfl rfl ?_)
 clear hH; intro w308 hH
 replace hH := hH.n10
 refine Nl (hH.sb (slc (slc (slk (slk (slc (slk (slk (slk sln))))))))) fun hS9 => Gp1 3 [23,24,25] 54 (Pp b11 3) hS9 <| gds 26 (Ks 4 (.slice A304 ((rt ++ [((exprM (rs.map Rv.rl) r.body.nd (msO lN nN)).1 : Int)]).length) c305) rfl hH rfl rfl ?_)
 clear hH; intro w309 hH
 replace hH := hH.n10
 refine Nl (hH.sb (slc (slc (slk (slk (slc (slk (slk (slk sln))))))))) fun hS9 => gdn [(2, Pp b3 0), (5, Pp b11 0), (20, .slice A rs.length cap), (21, Ni rs.length), (22, Ni i)] <| bkN <| sw_next <| sw_region <| Gw0 1 55 ((i : Int) + 1) ((i + 1 : Nat) : Int) <| Go1 1 22 (Ni (i + 1)) <| Dd <| rnd_end (g := (i, rt, nm, vN, lN, nN, pN, x1, x2)) (i + 1, rt ++ [((exprM (rs.map Rv.rl) r.body.nd (msO lN nN)).1 : Int)], nm ++ [r.name], vo20, l21, kn22, pl23, (.slice A298 ((nm ++ [r.name]).length) c299), (.slice A304 ((rt ++ [((exprM (rs.map Rv.rl) r.body.nd (msO lN nN)).1 : Int)]).length) c305)) (by kernel_rfl) ?_ ?_
 replace hH := hH.fr3.fr3.fr3.fr8.fr8.fr8.fr8
 replace hH := (hH.sb (slk (slk (slk (slk (slk (slk (slk sln)))))))).n7
 · exact ⟨by rw [hks, rootsM_at hx, hS24, List.map_cons, List.append_assoc]; rfl, by rw [hnm, names_take hx], by rw [List.length_append, List.length_singleton]; omega, by omega, hE.1, by omega, hov26, hH⟩
 · show rs.length - (i + 1) < rs.length - i; omega
 refine st_q rfl rfl rfl (Lk 4 hH rfl rfl rfl) <| Nl hS9 fun hS9 => gdk [(2, Pp b3 0), (5, Pp b11 0), (20, .slice A rs.length cap), (21, Ni rs.length), (22, Ni i), (30, Pp b11 0), (31, Pp b11 0), (35, Pp b11 2), (39, .slice (some ⟨b220, 0, none⟩) 1 1), (45, x2), (46, Ni ((exprM (rs.map Rv.rl) r.body.nd (msO lN nN)).1))] <| gd_st2 6 17 (by kernel_rfl) ?_ ?_
 refine st_q rfl rfl rfl (Lk 4 hH rfl rfl rfl) <| Nl hS9 fun hS9 => gdk [(2, Pp b3 0), (5, Pp b11 0), (20, .slice A rs.length cap), (21, Ni rs.length), (22, Ni i), (30, Pp b11 0), (31, Pp b11 0), (36, x1), (39, .slice (some ⟨b220, 0, none⟩) 1 1), (45, x2), (46, Ni ((exprM (rs.map Rv.rl) r.body.nd (msO lN nN)).1))] <| gd_st2 10 17 (by kernel_rfl) ?_ ?_
 refine Apd (e := 9) (.string (bs [])) 1 16 0 rfl hH rfl rfl rfl (hH.row_reads 8 rfl) (by simp [Value.oneCell']) (by unfold maxLen; omega) (by omega) ?_
 clear hH; intro v310 w311 hH
 replace hH := hH.row_eq 0 (l' := (nm ++ [r.name]).length) (xs' := rowC sC (nm ++ [r.name])) rfl (by simp) (by rw [← rowC_app, rowC_one]; rfl)
 obtain ⟨A312, c313, rfl, hl314, hm315⟩ := hH.row_form 0 rfl
 replace hH := hH.n9
 refine Nl (hH.sb (slc (slc (slk (slk (slc (slk (slk (slk sln))))))))) fun hS9 => gdk [(2, Pp b3 0), (5, Pp b11 0), (20, .slice A rs.length cap), (21, Ni rs.length), (22, Ni i), (30, Pp b11 0), (31, Pp b11 0), (40, .slice A312 ((nm ++ [r.name]).length) c313), (45, x2), (46, Ni ((exprM (rs.map Rv.rl) r.body.nd (msO lN nN)).1))] <| gds 17 (st_buildS (e := 3) (zv := .int .i64 0) (m := 1) (bytes := 8) rfl rfl rfl (by kernel_rfl) (by kernel_rfl) rfl (cs := [Ni ((exprM (rs.map Rv.rl) r.body.nd (msO lN nN)).1)]) (by kernel_rfl) rfl hH ?_)
 clear hH; intro b316 w317 hH
 replace hH := hH.n10
 refine Nl (hH.sb (slc (slc (slk (slk (slc (slk (slk (slk sln))))))))) fun hS9 => gds 18 (Apd (e := 3) (.int .i64 0) 1 8 1 rfl hH rfl rfl rfl (hH.row_reads 9 rfl) (by simp [Value.oneCell']) (by unfold maxLen; omega) (by omega) ?_)
 clear hH; intro v318 w319 hH
 replace hH := hH.row_eq 1 (l' := (rt ++ [((exprM (rs.map Rv.rl) r.body.nd (msO lN nN)).1 : Int)]).length) (xs' := rowC iC (rt ++ [((exprM (rs.map Rv.rl) r.body.nd (msO lN nN)).1 : Int)])) rfl (by simp) (by rw [← rowC_app, rowC_one]; rfl)
 obtain ⟨A320, c321, rfl, hl322, hm323⟩ := hH.row_form 1 rfl
 replace hH := hH.n10
 refine Nl (hH.sb (slc (slc (slk (slk (slc (slk (slk (slk sln))))))))) fun hS9 => Gp1 3 [19,20,21] 51 (Pp b11 2) hS9 <| gds 22 (Ks 4 (.slice A312 ((nm ++ [r.name]).length) c313) rfl hH rfl rfl ?_)
 clear hH; intro w324 hH
 replace hH := hH.n10
 refine Nl (hH.sb (slc (slc (slk (slk (slc (slk (slk (slk sln))))))))) fun hS9 => Gp1 3 [23,24,25] 54 (Pp b11 3) hS9 <| gds 26 (Ks 4 (.slice A320 ((rt ++ [((exprM (rs.map Rv.rl) r.body.nd (msO lN nN)).1 : Int)]).length) c321) rfl hH rfl rfl ?_)
 clear hH; intro w325 hH
 replace hH := hH.n10
 refine Nl (hH.sb (slc (slc (slk (slk (slc (slk (slk (slk sln))))))))) fun hS9 => gdn [(2, Pp b3 0), (5, Pp b11 0), (20, .slice A rs.length cap), (21, Ni rs.length), (22, Ni i)] <| bkN <| sw_next <| sw_region <| Gw0 1 55 ((i : Int) + 1) ((i + 1 : Nat) : Int) <| Go1 1 22 (Ni (i + 1)) <| Dd <| rnd_end (g := (i, rt, nm, vN, lN, nN, pN, x1, x2)) (i + 1, rt ++ [((exprM (rs.map Rv.rl) r.body.nd (msO lN nN)).1 : Int)], nm ++ [r.name], vo20, l21, kn22, pl23, (.slice A312 ((nm ++ [r.name]).length) c313), (.slice A320 ((rt ++ [((exprM (rs.map Rv.rl) r.body.nd (msO lN nN)).1 : Int)]).length) c321)) (by kernel_rfl) ?_ ?_
 replace hH := hH.fr3.fr3.fr3.fr8.fr8.fr8.fr8
 replace hH := (hH.sb (slk (slk (slk (slk (slk (slk (slk sln)))))))).n7
 · exact ⟨by rw [hks, rootsM_at hx, hS24, List.map_cons, List.append_assoc]; rfl, by rw [hnm, names_take hx], by rw [List.length_append, List.length_singleton]; omega, by omega, hE.1, by omega, hov26, hH⟩
 · show rs.length - (i + 1) < rs.length - i; omega
 refine st_buildS (e := 3) (zv := .int .i64 0) (m := 1) (bytes := 8) rfl rfl rfl (by kernel_rfl) (by kernel_rfl) rfl (cs := [Ni ((exprM (rs.map Rv.rl) r.body.nd (msO lN nN)).1)]) (by kernel_rfl) rfl hH ?_
 clear hH; intro b326 w327 hH
 replace hH := hH.n10
 refine Nl (hH.sb (slc (slc (slk (slk (slc (slk (slk (slk sln))))))))) fun hS9 => gdk [(2, Pp b3 0), (5, Pp b11 0), (20, .slice A rs.length cap), (21, Ni rs.length), (22, Ni i), (30, Pp b11 0), (31, Pp b11 0), (36, x1), (39, .slice (some ⟨b220, 0, none⟩) 1 1), (45, x2), (47, .slice (some ⟨b326, 0, none⟩) 1 1)] <| gds 10 (Apd (e := 9) (.string (bs [])) 1 16 0 rfl hH rfl rfl rfl (hH.row_reads 8 rfl) (by simp [Value.oneCell']) (by unfold maxLen; omega) (by omega) ?_)
 clear hH; intro v328 w329 hH
 replace hH := hH.row_eq 0 (l' := (nm ++ [r.name]).length) (xs' := rowC sC (nm ++ [r.name])) rfl (by simp) (by rw [← rowC_app, rowC_one]; rfl)
 obtain ⟨A330, c331, rfl, hl332, hm333⟩ := hH.row_form 0 rfl
 replace hH := hH.n10
 refine Nl (hH.sb (slc (slc (slk (slk (slc (slk (slk (slk sln))))))))) fun hS9 => gds 18 (Apd (e := 3) (.int .i64 0) 1 8 1 rfl hH rfl rfl rfl (hH.row_reads 9 rfl) (by simp [Value.oneCell']) (by unfold maxLen; omega) (by omega) ?_)
 clear hH; intro v334 w335 hH
 replace hH := hH.row_eq 1 (l' := (rt ++ [((exprM (rs.map Rv.rl) r.body.nd (msO lN nN)).1 : Int)]).length) (xs' := rowC iC (rt ++ [((exprM (rs.map Rv.rl) r.body.nd (msO lN nN)).1 : Int)])) rfl (by simp) (by rw [← rowC_app, rowC_one]; rfl)
 obtain ⟨A336, c337, rfl, hl338, hm339⟩ := hH.row_form 1 rfl
 replace hH := hH.n10
 refine Nl (hH.sb (slc (slc (slk (slk (slc (slk (slk (slk sln))))))))) fun hS9 => Gp1 3 [19,20,21] 51 (Pp b11 2) hS9 <| gds 22 (Ks 4 (.slice A330 ((nm ++ [r.name]).length) c331) rfl hH rfl rfl ?_)
 clear hH; intro w340 hH
 replace hH := hH.n10
 refine Nl (hH.sb (slc (slc (slk (slk (slc (slk (slk (slk sln))))))))) fun hS9 => Gp1 3 [23,24,25] 54 (Pp b11 3) hS9 <| gds 26 (Ks 4 (.slice A336 ((rt ++ [((exprM (rs.map Rv.rl) r.body.nd (msO lN nN)).1 : Int)]).length) c337) rfl hH rfl rfl ?_)
 clear hH; intro w341 hH
 replace hH := hH.n10
 refine Nl (hH.sb (slc (slc (slk (slk (slc (slk (slk (slk sln))))))))) fun hS9 => gdn [(2, Pp b3 0), (5, Pp b11 0), (20, .slice A rs.length cap), (21, Ni rs.length), (22, Ni i)] <| bkN <| sw_next <| sw_region <| Gw0 1 55 ((i : Int) + 1) ((i + 1 : Nat) : Int) <| Go1 1 22 (Ni (i + 1)) <| Dd <| rnd_end (g := (i, rt, nm, vN, lN, nN, pN, x1, x2)) (i + 1, rt ++ [((exprM (rs.map Rv.rl) r.body.nd (msO lN nN)).1 : Int)], nm ++ [r.name], vo20, l21, kn22, pl23, (.slice A330 ((nm ++ [r.name]).length) c331), (.slice A336 ((rt ++ [((exprM (rs.map Rv.rl) r.body.nd (msO lN nN)).1 : Int)]).length) c337)) (by kernel_rfl) ?_ ?_
 replace hH := hH.fr3.fr3.fr3.fr8.fr8.fr8.fr8
 replace hH := (hH.sb (slk (slk (slk (slk (slk (slk (slk sln)))))))).n7
 · exact ⟨by rw [hks, rootsM_at hx, hS24, List.map_cons, List.append_assoc]; rfl, by rw [hnm, names_take hx], by rw [List.length_append, List.length_singleton]; omega, by omega, hE.1, by omega, hov26, hH⟩
 · show rs.length - (i + 1) < rs.length - i; omega
 refine st_buildS (e := 3) (zv := .int .i64 0) (m := 1) (bytes := 8) rfl rfl rfl (by kernel_rfl) (by kernel_rfl) rfl (cs := [Ni ((exprM (rs.map Rv.rl) r.body.nd (msO lN nN)).1)]) (by kernel_rfl) rfl hH ?_
 clear hH; intro b342 w343 hH
 replace hH := hH.n10
 refine Nl (hH.sb (slc (slc (slk (slk (slc (slk (slk (slk sln))))))))) fun hS9 => gdk [(2, Pp b3 0), (5, Pp b11 0), (20, .slice A rs.length cap), (21, Ni rs.length), (22, Ni i), (30, Pp b11 0), (31, Pp b11 0), (35, Pp b11 2), (39, .slice (some ⟨b220, 0, none⟩) 1 1), (45, x2), (47, .slice (some ⟨b342, 0, none⟩) 1 1)] <| gds 6 (st_q rfl rfl rfl (Lk 4 hH rfl rfl rfl) ?_)
 refine Nl hS9 fun hS9 => gds 10 (Apd (e := 9) (.string (bs [])) 1 16 0 rfl hH rfl rfl rfl (hH.row_reads 8 rfl) (by simp [Value.oneCell']) (by unfold maxLen; omega) (by omega) ?_)
 clear hH; intro v344 w345 hH
 replace hH := hH.row_eq 0 (l' := (nm ++ [r.name]).length) (xs' := rowC sC (nm ++ [r.name])) rfl (by simp) (by rw [← rowC_app, rowC_one]; rfl)
 obtain ⟨A346, c347, rfl, hl348, hm349⟩ := hH.row_form 0 rfl
 replace hH := hH.n10
 refine Nl (hH.sb (slc (slc (slk (slk (slc (slk (slk (slk sln))))))))) fun hS9 => gds 18 (Apd (e := 3) (.int .i64 0) 1 8 1 rfl hH rfl rfl rfl (hH.row_reads 9 rfl) (by simp [Value.oneCell']) (by unfold maxLen; omega) (by omega) ?_)
 clear hH; intro v350 w351 hH
 replace hH := hH.row_eq 1 (l' := (rt ++ [((exprM (rs.map Rv.rl) r.body.nd (msO lN nN)).1 : Int)]).length) (xs' := rowC iC (rt ++ [((exprM (rs.map Rv.rl) r.body.nd (msO lN nN)).1 : Int)])) rfl (by simp) (by rw [← rowC_app, rowC_one]; rfl)
 obtain ⟨A352, c353, rfl, hl354, hm355⟩ := hH.row_form 1 rfl
 replace hH := hH.n10
 refine Nl (hH.sb (slc (slc (slk (slk (slc (slk (slk (slk sln))))))))) fun hS9 => Gp1 3 [19,20,21] 51 (Pp b11 2) hS9 <| gds 22 (Ks 4 (.slice A346 ((nm ++ [r.name]).length) c347) rfl hH rfl rfl ?_)
 clear hH; intro w356 hH
 replace hH := hH.n10
 refine Nl (hH.sb (slc (slc (slk (slk (slc (slk (slk (slk sln))))))))) fun hS9 => Gp1 3 [23,24,25] 54 (Pp b11 3) hS9 <| gds 26 (Ks 4 (.slice A352 ((rt ++ [((exprM (rs.map Rv.rl) r.body.nd (msO lN nN)).1 : Int)]).length) c353) rfl hH rfl rfl ?_)
 clear hH; intro w357 hH
 replace hH := hH.n10
 refine Nl (hH.sb (slc (slc (slk (slk (slc (slk (slk (slk sln))))))))) fun hS9 => gdn [(2, Pp b3 0), (5, Pp b11 0), (20, .slice A rs.length cap), (21, Ni rs.length), (22, Ni i)] <| bkN <| sw_next <| sw_region <| Gw0 1 55 ((i : Int) + 1) ((i + 1 : Nat) : Int) <| Go1 1 22 (Ni (i + 1)) <| Dd <| rnd_end (g := (i, rt, nm, vN, lN, nN, pN, x1, x2)) (i + 1, rt ++ [((exprM (rs.map Rv.rl) r.body.nd (msO lN nN)).1 : Int)], nm ++ [r.name], vo20, l21, kn22, pl23, (.slice A346 ((nm ++ [r.name]).length) c347), (.slice A352 ((rt ++ [((exprM (rs.map Rv.rl) r.body.nd (msO lN nN)).1 : Int)]).length) c353)) (by kernel_rfl) ?_ ?_
 replace hH := hH.fr3.fr3.fr3.fr8.fr8.fr8.fr8
 replace hH := (hH.sb (slk (slk (slk (slk (slk (slk (slk sln)))))))).n7
 · exact ⟨by rw [hks, rootsM_at hx, hS24, List.map_cons, List.append_assoc]; rfl, by rw [hnm, names_take hx], by rw [List.length_append, List.length_singleton]; omega, by omega, hE.1, by omega, hov26, hH⟩
 · show rs.length - (i + 1) < rs.length - i; omega
 refine st_buildS (e := 3) (zv := .int .i64 0) (m := 1) (bytes := 8) rfl rfl rfl (by kernel_rfl) (by kernel_rfl) rfl (cs := [Ni ((exprM (rs.map Rv.rl) r.body.nd (msO lN nN)).1)]) (by kernel_rfl) rfl hH ?_
 clear hH; intro b358 w359 hH
 replace hH := hH.n10
 refine Nl (hH.sb (slc (slc (slk (slk (slc (slk (slk (slk sln))))))))) fun hS9 => gdk [(2, Pp b3 0), (5, Pp b11 0), (20, .slice A rs.length cap), (21, Ni rs.length), (22, Ni i), (30, Pp b11 0), (31, Pp b11 0), (35, Pp b11 2), (39, .slice (some ⟨b220, 0, none⟩) 1 1), (44, Pp b11 3), (47, .slice (some ⟨b358, 0, none⟩) 1 1)] <| gd_st2 6 15 (by kernel_rfl) ?_ ?_
 refine st_q rfl rfl rfl (Lk 4 hH rfl rfl rfl) <| Nl hS9 fun hS9 => gdk [(2, Pp b3 0), (5, Pp b11 0), (20, .slice A rs.length cap), (21, Ni rs.length), (22, Ni i), (30, Pp b11 0), (31, Pp b11 0), (36, x1), (39, .slice (some ⟨b220, 0, none⟩) 1 1), (44, Pp b11 3), (47, .slice (some ⟨b358, 0, none⟩) 1 1)] <| gd_st2 10 15 (by kernel_rfl) ?_ ?_
 refine Apd (e := 9) (.string (bs [])) 1 16 0 rfl hH rfl rfl rfl (hH.row_reads 8 rfl) (by simp [Value.oneCell']) (by unfold maxLen; omega) (by omega) ?_
 clear hH; intro v360 w361 hH
 replace hH := hH.row_eq 0 (l' := (nm ++ [r.name]).length) (xs' := rowC sC (nm ++ [r.name])) rfl (by simp) (by rw [← rowC_app, rowC_one]; rfl)
 obtain ⟨A362, c363, rfl, hl364, hm365⟩ := hH.row_form 0 rfl
 replace hH := hH.n10
 refine Nl (hH.sb (slc (slc (slk (slk (slc (slk (slk (slk sln))))))))) fun hS9 => gdk [(2, Pp b3 0), (5, Pp b11 0), (20, .slice A rs.length cap), (21, Ni rs.length), (22, Ni i), (30, Pp b11 0), (31, Pp b11 0), (40, .slice A362 ((nm ++ [r.name]).length) c363), (44, Pp b11 3), (47, .slice (some ⟨b358, 0, none⟩) 1 1)] <| gds 15 (st_q rfl rfl rfl (Lk 4 hH rfl rfl rfl) ?_)
 refine Nl hS9 fun hS9 => gds 18 (Apd (e := 3) (.int .i64 0) 1 8 1 rfl hH rfl rfl rfl (hH.row_reads 9 rfl) (by simp [Value.oneCell']) (by unfold maxLen; omega) (by omega) ?_)
 clear hH; intro v366 w367 hH
 replace hH := hH.row_eq 1 (l' := (rt ++ [((exprM (rs.map Rv.rl) r.body.nd (msO lN nN)).1 : Int)]).length) (xs' := rowC iC (rt ++ [((exprM (rs.map Rv.rl) r.body.nd (msO lN nN)).1 : Int)])) rfl (by simp) (by rw [← rowC_app, rowC_one]; rfl)
 obtain ⟨A368, c369, rfl, hl370, hm371⟩ := hH.row_form 1 rfl
 replace hH := hH.n10
 refine Nl (hH.sb (slc (slc (slk (slk (slc (slk (slk (slk sln))))))))) fun hS9 => Gp1 3 [19,20,21] 51 (Pp b11 2) hS9 <| gds 22 (Ks 4 (.slice A362 ((nm ++ [r.name]).length) c363) rfl hH rfl rfl ?_)
 clear hH; intro w372 hH
 replace hH := hH.n10
 refine Nl (hH.sb (slc (slc (slk (slk (slc (slk (slk (slk sln))))))))) fun hS9 => Gp1 3 [23,24,25] 54 (Pp b11 3) hS9 <| gds 26 (Ks 4 (.slice A368 ((rt ++ [((exprM (rs.map Rv.rl) r.body.nd (msO lN nN)).1 : Int)]).length) c369) rfl hH rfl rfl ?_)
 clear hH; intro w373 hH
 replace hH := hH.n10
 refine Nl (hH.sb (slc (slc (slk (slk (slc (slk (slk (slk sln))))))))) fun hS9 => gdn [(2, Pp b3 0), (5, Pp b11 0), (20, .slice A rs.length cap), (21, Ni rs.length), (22, Ni i)] <| bkN <| sw_next <| sw_region <| Gw0 1 55 ((i : Int) + 1) ((i + 1 : Nat) : Int) <| Go1 1 22 (Ni (i + 1)) <| Dd <| rnd_end (g := (i, rt, nm, vN, lN, nN, pN, x1, x2)) (i + 1, rt ++ [((exprM (rs.map Rv.rl) r.body.nd (msO lN nN)).1 : Int)], nm ++ [r.name], vo20, l21, kn22, pl23, (.slice A362 ((nm ++ [r.name]).length) c363), (.slice A368 ((rt ++ [((exprM (rs.map Rv.rl) r.body.nd (msO lN nN)).1 : Int)]).length) c369)) (by kernel_rfl) ?_ ?_
 replace hH := hH.fr3.fr3.fr3.fr8.fr8.fr8.fr8
 replace hH := (hH.sb (slk (slk (slk (slk (slk (slk (slk sln)))))))).n7
 · exact ⟨by rw [hks, rootsM_at hx, hS24, List.map_cons, List.append_assoc]; rfl, by rw [hnm, names_take hx], by rw [List.length_append, List.length_singleton]; omega, by omega, hE.1, by omega, hov26, hH⟩
 · show rs.length - (i + 1) < rs.length - i; omega
 refine st_q rfl rfl rfl (Lk 4 hH rfl rfl rfl) <| Nl hS9 fun hS9 => gdk [(2, Pp b3 0), (5, Pp b11 0), (20, .slice A rs.length cap), (21, Ni rs.length), (22, Ni i), (30, Pp b11 0), (31, Pp b11 0), (36, x1), (39, .slice (some ⟨b220, 0, none⟩) 1 1), (45, x2), (47, .slice (some ⟨b358, 0, none⟩) 1 1)] <| gds 10 (Apd (e := 9) (.string (bs [])) 1 16 0 rfl hH rfl rfl rfl (hH.row_reads 8 rfl) (by simp [Value.oneCell']) (by unfold maxLen; omega) (by omega) ?_)
 clear hH; intro v374 w375 hH
 replace hH := hH.row_eq 0 (l' := (nm ++ [r.name]).length) (xs' := rowC sC (nm ++ [r.name])) rfl (by simp) (by rw [← rowC_app, rowC_one]; rfl)
 obtain ⟨A376, c377, rfl, hl378, hm379⟩ := hH.row_form 0 rfl
 replace hH := hH.n10
 refine Nl (hH.sb (slc (slc (slk (slk (slc (slk (slk (slk sln))))))))) fun hS9 => gds 18 (Apd (e := 3) (.int .i64 0) 1 8 1 rfl hH rfl rfl rfl (hH.row_reads 9 rfl) (by simp [Value.oneCell']) (by unfold maxLen; omega) (by omega) ?_)
 clear hH; intro v380 w381 hH
 replace hH := hH.row_eq 1 (l' := (rt ++ [((exprM (rs.map Rv.rl) r.body.nd (msO lN nN)).1 : Int)]).length) (xs' := rowC iC (rt ++ [((exprM (rs.map Rv.rl) r.body.nd (msO lN nN)).1 : Int)])) rfl (by simp) (by rw [← rowC_app, rowC_one]; rfl)
 obtain ⟨A382, c383, rfl, hl384, hm385⟩ := hH.row_form 1 rfl
 replace hH := hH.n10
 refine Nl (hH.sb (slc (slc (slk (slk (slc (slk (slk (slk sln))))))))) fun hS9 => Gp1 3 [19,20,21] 51 (Pp b11 2) hS9 <| gds 22 (Ks 4 (.slice A376 ((nm ++ [r.name]).length) c377) rfl hH rfl rfl ?_)
 clear hH; intro w386 hH
 replace hH := hH.n10
 refine Nl (hH.sb (slc (slc (slk (slk (slc (slk (slk (slk sln))))))))) fun hS9 => Gp1 3 [23,24,25] 54 (Pp b11 3) hS9 <| gds 26 (Ks 4 (.slice A382 ((rt ++ [((exprM (rs.map Rv.rl) r.body.nd (msO lN nN)).1 : Int)]).length) c383) rfl hH rfl rfl ?_)
 clear hH; intro w387 hH
 replace hH := hH.n10
 refine Nl (hH.sb (slc (slc (slk (slk (slc (slk (slk (slk sln))))))))) fun hS9 => gdn [(2, Pp b3 0), (5, Pp b11 0), (20, .slice A rs.length cap), (21, Ni rs.length), (22, Ni i)] <| bkN <| sw_next <| sw_region <| Gw0 1 55 ((i : Int) + 1) ((i + 1 : Nat) : Int) <| Go1 1 22 (Ni (i + 1)) <| Dd <| rnd_end (g := (i, rt, nm, vN, lN, nN, pN, x1, x2)) (i + 1, rt ++ [((exprM (rs.map Rv.rl) r.body.nd (msO lN nN)).1 : Int)], nm ++ [r.name], vo20, l21, kn22, pl23, (.slice A376 ((nm ++ [r.name]).length) c377), (.slice A382 ((rt ++ [((exprM (rs.map Rv.rl) r.body.nd (msO lN nN)).1 : Int)]).length) c383)) (by kernel_rfl) ?_ ?_
 replace hH := hH.fr3.fr3.fr3.fr8.fr8.fr8.fr8
 replace hH := (hH.sb (slk (slk (slk (slk (slk (slk (slk sln)))))))).n7
 · exact ⟨by rw [hks, rootsM_at hx, hS24, List.map_cons, List.append_assoc]; rfl, by rw [hnm, names_take hx], by rw [List.length_append, List.length_singleton]; omega, by omega, hE.1, by omega, hov26, hH⟩
 · show rs.length - (i + 1) < rs.length - i; omega
 refine st_q rfl rfl rfl (Lk 4 hH rfl rfl rfl) <| Nl hS9 fun hS9 => gdk [(2, Pp b3 0), (5, Pp b11 0), (20, .slice A rs.length cap), (21, Ni rs.length), (22, Ni i), (30, Pp b11 0), (31, Pp b11 0), (35, Pp b11 2), (39, .slice (some ⟨b220, 0, none⟩) 1 1), (45, x2), (47, .slice (some ⟨b358, 0, none⟩) 1 1)] <| gds 6 (st_q rfl rfl rfl (Lk 4 hH rfl rfl rfl) ?_)
 refine Nl hS9 fun hS9 => gds 10 (Apd (e := 9) (.string (bs [])) 1 16 0 rfl hH rfl rfl rfl (hH.row_reads 8 rfl) (by simp [Value.oneCell']) (by unfold maxLen; omega) (by omega) ?_)
 clear hH; intro v388 w389 hH
 replace hH := hH.row_eq 0 (l' := (nm ++ [r.name]).length) (xs' := rowC sC (nm ++ [r.name])) rfl (by simp) (by rw [← rowC_app, rowC_one]; rfl)
 obtain ⟨A390, c391, rfl, hl392, hm393⟩ := hH.row_form 0 rfl
 replace hH := hH.n10
 refine Nl (hH.sb (slc (slc (slk (slk (slc (slk (slk (slk sln))))))))) fun hS9 => gds 18 (Apd (e := 3) (.int .i64 0) 1 8 1 rfl hH rfl rfl rfl (hH.row_reads 9 rfl) (by simp [Value.oneCell']) (by unfold maxLen; omega) (by omega) ?_)
 clear hH; intro v394 w395 hH
 replace hH := hH.row_eq 1 (l' := (rt ++ [((exprM (rs.map Rv.rl) r.body.nd (msO lN nN)).1 : Int)]).length) (xs' := rowC iC (rt ++ [((exprM (rs.map Rv.rl) r.body.nd (msO lN nN)).1 : Int)])) rfl (by simp) (by rw [← rowC_app, rowC_one]; rfl)
 obtain ⟨A396, c397, rfl, hl398, hm399⟩ := hH.row_form 1 rfl
 replace hH := hH.n10
 refine Nl (hH.sb (slc (slc (slk (slk (slc (slk (slk (slk sln))))))))) fun hS9 => Gp1 3 [19,20,21] 51 (Pp b11 2) hS9 <| gds 22 (Ks 4 (.slice A390 ((nm ++ [r.name]).length) c391) rfl hH rfl rfl ?_)
 clear hH; intro w400 hH
 replace hH := hH.n10
 refine Nl (hH.sb (slc (slc (slk (slk (slc (slk (slk (slk sln))))))))) fun hS9 => Gp1 3 [23,24,25] 54 (Pp b11 3) hS9 <| gds 26 (Ks 4 (.slice A396 ((rt ++ [((exprM (rs.map Rv.rl) r.body.nd (msO lN nN)).1 : Int)]).length) c397) rfl hH rfl rfl ?_)
 clear hH; intro w401 hH
 replace hH := hH.n10
 refine Nl (hH.sb (slc (slc (slk (slk (slc (slk (slk (slk sln))))))))) fun hS9 => gdn [(2, Pp b3 0), (5, Pp b11 0), (20, .slice A rs.length cap), (21, Ni rs.length), (22, Ni i)] <| bkN <| sw_next <| sw_region <| Gw0 1 55 ((i : Int) + 1) ((i + 1 : Nat) : Int) <| Go1 1 22 (Ni (i + 1)) <| Dd <| rnd_end (g := (i, rt, nm, vN, lN, nN, pN, x1, x2)) (i + 1, rt ++ [((exprM (rs.map Rv.rl) r.body.nd (msO lN nN)).1 : Int)], nm ++ [r.name], vo20, l21, kn22, pl23, (.slice A390 ((nm ++ [r.name]).length) c391), (.slice A396 ((rt ++ [((exprM (rs.map Rv.rl) r.body.nd (msO lN nN)).1 : Int)]).length) c397)) (by kernel_rfl) ?_ ?_
 replace hH := hH.fr3.fr3.fr3.fr8.fr8.fr8.fr8
 replace hH := (hH.sb (slk (slk (slk (slk (slk (slk (slk sln)))))))).n7
 · exact ⟨by rw [hks, rootsM_at hx, hS24, List.map_cons, List.append_assoc]; rfl, by rw [hnm, names_take hx], by rw [List.length_append, List.length_singleton]; omega, by omega, hE.1, by omega, hov26, hH⟩
 · show rs.length - (i + 1) < rs.length - i; omega
 refine st_q rfl rfl rfl (Lk 4 hH rfl rfl rfl) <| Nl hS9 fun hS9 => gdk [(2, Pp b3 0), (5, Pp b11 0), (20, .slice A rs.length cap), (21, Ni rs.length), (22, Ni i), (30, Pp b11 0), (31, Pp b11 0), (35, Pp b11 2), (38, .string (bs r.name)), (45, x2), (46, Ni ((exprM (rs.map Rv.rl) r.body.nd (msO lN nN)).1))] <| gd_st3 6 9 17 (by kernel_rfl) ?_ ?_ ?_
 refine st_q rfl rfl rfl (Lk 4 hH rfl rfl rfl) <| Nl hS9 fun hS9 => gdk [(2, Pp b3 0), (5, Pp b11 0), (20, .slice A rs.length cap), (21, Ni rs.length), (22, Ni i), (30, Pp b11 0), (31, Pp b11 0), (36, x1), (38, .string (bs r.name)), (45, x2), (46, Ni ((exprM (rs.map Rv.rl) r.body.nd (msO lN nN)).1))] <| gd_st2 9 17 (by kernel_rfl) ?_ ?_
 refine st_buildS (e := 9) (zv := .string (bs [])) (m := 1) (bytes := 16) rfl rfl rfl (by kernel_rfl) (by kernel_rfl) rfl (cs := [.string (bs r.name)]) (by kernel_rfl) rfl hH ?_
 clear hH; intro b402 w403 hH
 replace hH := hH.n9
 refine Nl (hH.sb (slc (slc (slk (slk (slc (slk (slk (slk sln))))))))) fun hS9 => gdk [(2, Pp b3 0), (5, Pp b11 0), (20, .slice A rs.length cap), (21, Ni rs.length), (22, Ni i), (30, Pp b11 0), (31, Pp b11 0), (36, x1), (39, .slice (some ⟨b402, 0, none⟩) 1 1), (45, x2), (46, Ni ((exprM (rs.map Rv.rl) r.body.nd (msO lN nN)).1))] <| gd_st2 10 17 (by kernel_rfl) ?_ ?_
 refine Apd (e := 9) (.string (bs [])) 1 16 0 rfl hH rfl rfl rfl (hH.row_reads 8 rfl) (by simp [Value.oneCell']) (by unfold maxLen; omega) (by omega) ?_
 clear hH; intro v404 w405 hH
 replace hH := hH.row_eq 0 (l' := (nm ++ [r.name]).length) (xs' := rowC sC (nm ++ [r.name])) rfl (by simp) (by rw [← rowC_app, rowC_one]; rfl)
 obtain ⟨A406, c407, rfl, hl408, hm409⟩ := hH.row_form 0 rfl
 replace hH := hH.n9
 refine Nl (hH.sb (slc (slc (slk (slk (slc (slk (slk (slk sln))))))))) fun hS9 => gdk [(2, Pp b3 0), (5, Pp b11 0), (20, .slice A rs.length cap), (21, Ni rs.length), (22, Ni i), (30, Pp b11 0), (31, Pp b11 0), (40, .slice A406 ((nm ++ [r.name]).length) c407), (45, x2), (46, Ni ((exprM (rs.map Rv.rl) r.body.nd (msO lN nN)).1))] <| gds 17 (st_buildS (e := 3) (zv := .int .i64 0) (m := 1) (bytes := 8) rfl rfl rfl (by kernel_rfl) (by kernel_rfl) rfl (cs := [Ni ((exprM (rs.map Rv.rl) r.body.nd (msO lN nN)).1)]) (by kernel_rfl) rfl hH ?_)
 clear hH; intro b410 w411 hH
 replace hH := hH.n10
 refine Nl (hH.sb (slc (slc (slk (slk (slc (slk (slk (slk sln))))))))) fun hS9 => gds 18 (Apd (e := 3) (.int .i64 0) 1 8 1 rfl hH rfl rfl rfl (hH.row_reads 9 rfl) (by simp [Value.oneCell']) (by unfold maxLen; omega) (by omega) ?_)
 clear hH; intro v412 w413 hH
 replace hH := hH.row_eq 1 (l' := (rt ++ [((exprM (rs.map Rv.rl) r.body.nd (msO lN nN)).1 : Int)]).length) (xs' := rowC iC (rt ++ [((exprM (rs.map Rv.rl) r.body.nd (msO lN nN)).1 : Int)])) rfl (by simp) (by rw [← rowC_app, rowC_one]; rfl)
 obtain ⟨A414, c415, rfl, hl416, hm417⟩ := hH.row_form 1 rfl
 replace hH := hH.n10
 refine Nl (hH.sb (slc (slc (slk (slk (slc (slk (slk (slk sln))))))))) fun hS9 => Gp1 3 [19,20,21] 51 (Pp b11 2) hS9 <| gds 22 (Ks 4 (.slice A406 ((nm ++ [r.name]).length) c407) rfl hH rfl rfl ?_)
 clear hH; intro w418 hH
 replace hH := hH.n10
 refine Nl (hH.sb (slc (slc (slk (slk (slc (slk (slk (slk sln))))))))) fun hS9 => Gp1 3 [23,24,25] 54 (Pp b11 3) hS9 <| gds 26 (Ks 4 (.slice A414 ((rt ++ [((exprM (rs.map Rv.rl) r.body.nd (msO lN nN)).1 : Int)]).length) c415) rfl hH rfl rfl ?_)
 clear hH; intro w419 hH
 replace hH := hH.n10
 refine Nl (hH.sb (slc (slc (slk (slk (slc (slk (slk (slk sln))))))))) fun hS9 => gdn [(2, Pp b3 0), (5, Pp b11 0), (20, .slice A rs.length cap), (21, Ni rs.length), (22, Ni i)] <| bkN <| sw_next <| sw_region <| Gw0 1 55 ((i : Int) + 1) ((i + 1 : Nat) : Int) <| Go1 1 22 (Ni (i + 1)) <| Dd <| rnd_end (g := (i, rt, nm, vN, lN, nN, pN, x1, x2)) (i + 1, rt ++ [((exprM (rs.map Rv.rl) r.body.nd (msO lN nN)).1 : Int)], nm ++ [r.name], vo20, l21, kn22, pl23, (.slice A406 ((nm ++ [r.name]).length) c407), (.slice A414 ((rt ++ [((exprM (rs.map Rv.rl) r.body.nd (msO lN nN)).1 : Int)]).length) c415)) (by kernel_rfl) ?_ ?_
 replace hH := hH.fr3.fr3.fr3.fr8.fr8.fr8.fr8
 replace hH := (hH.sb (slk (slk (slk (slk (slk (slk (slk sln)))))))).n7
 · exact ⟨by rw [hks, rootsM_at hx, hS24, List.map_cons, List.append_assoc]; rfl, by rw [hnm, names_take hx], by rw [List.length_append, List.length_singleton]; omega, by omega, hE.1, by omega, hov26, hH⟩
 · show rs.length - (i + 1) < rs.length - i; omega
 refine st_buildS (e := 3) (zv := .int .i64 0) (m := 1) (bytes := 8) rfl rfl rfl (by kernel_rfl) (by kernel_rfl) rfl (cs := [Ni ((exprM (rs.map Rv.rl) r.body.nd (msO lN nN)).1)]) (by kernel_rfl) rfl hH ?_
 clear hH; intro b420 w421 hH
 replace hH := hH.n10
 refine Nl (hH.sb (slc (slc (slk (slk (slc (slk (slk (slk sln))))))))) fun hS9 => gdk [(2, Pp b3 0), (5, Pp b11 0), (20, .slice A rs.length cap), (21, Ni rs.length), (22, Ni i), (30, Pp b11 0), (31, Pp b11 0), (36, x1), (39, .slice (some ⟨b402, 0, none⟩) 1 1), (45, x2), (47, .slice (some ⟨b420, 0, none⟩) 1 1)] <| gds 10 (Apd (e := 9) (.string (bs [])) 1 16 0 rfl hH rfl rfl rfl (hH.row_reads 8 rfl) (by simp [Value.oneCell']) (by unfold maxLen; omega) (by omega) ?_)
 clear hH; intro v422 w423 hH
 replace hH := hH.row_eq 0 (l' := (nm ++ [r.name]).length) (xs' := rowC sC (nm ++ [r.name])) rfl (by simp) (by rw [← rowC_app, rowC_one]; rfl)
 obtain ⟨A424, c425, rfl, hl426, hm427⟩ := hH.row_form 0 rfl
 replace hH := hH.n10
 refine Nl (hH.sb (slc (slc (slk (slk (slc (slk (slk (slk sln))))))))) fun hS9 => gds 18 (Apd (e := 3) (.int .i64 0) 1 8 1 rfl hH rfl rfl rfl (hH.row_reads 9 rfl) (by simp [Value.oneCell']) (by unfold maxLen; omega) (by omega) ?_)
 clear hH; intro v428 w429 hH
 replace hH := hH.row_eq 1 (l' := (rt ++ [((exprM (rs.map Rv.rl) r.body.nd (msO lN nN)).1 : Int)]).length) (xs' := rowC iC (rt ++ [((exprM (rs.map Rv.rl) r.body.nd (msO lN nN)).1 : Int)])) rfl (by simp) (by rw [← rowC_app, rowC_one]; rfl)
 obtain ⟨A430, c431, rfl, hl432, hm433⟩ := hH.row_form 1 rfl
 replace hH := hH.n10
 refine Nl (hH.sb (slc (slc (slk (slk (slc (slk (slk (slk sln))))))))) fun hS9 => Gp1 3 [19,20,21] 51 (Pp b11 2) hS9 <| gds 22 (Ks 4 (.slice A424 ((nm ++ [r.name]).length) c425) rfl hH rfl rfl ?_)
 clear hH; intro w434 hH
 replace hH := hH.n10
 refine Nl (hH.sb (slc (slc (slk (slk (slc (slk (slk (slk sln))))))))) fun hS9 => Gp1 3 [23,24,25] 54 (Pp b11 3) hS9 <| gds 26 (Ks 4 (.slice A430 ((rt ++ [((exprM (rs.map Rv.rl) r.body.nd (msO lN nN)).1 : Int)]).length) c431) rfl hH rfl rfl ?_)
 clear hH; intro w435 hH
 replace hH := hH.n10
 refine Nl (hH.sb (slc (slc (slk (slk (slc (slk (slk (slk sln))))))))) fun hS9 => gdn [(2, Pp b3 0), (5, Pp b11 0), (20, .slice A rs.length cap), (21, Ni rs.length), (22, Ni i)] <| bkN <| sw_next <| sw_region <| Gw0 1 55 ((i : Int) + 1) ((i + 1 : Nat) : Int) <| Go1 1 22 (Ni (i + 1)) <| Dd <| rnd_end (g := (i, rt, nm, vN, lN, nN, pN, x1, x2)) (i + 1, rt ++ [((exprM (rs.map Rv.rl) r.body.nd (msO lN nN)).1 : Int)], nm ++ [r.name], vo20, l21, kn22, pl23, (.slice A424 ((nm ++ [r.name]).length) c425), (.slice A430 ((rt ++ [((exprM (rs.map Rv.rl) r.body.nd (msO lN nN)).1 : Int)]).length) c431)) (by kernel_rfl) ?_ ?_
 replace hH := hH.fr3.fr3.fr3.fr8.fr8.fr8.fr8
 replace hH := (hH.sb (slk (slk (slk (slk (slk (slk (slk sln)))))))).n7
 · exact ⟨by rw [hks, rootsM_at hx, hS24, List.map_cons, List.append_assoc]; rfl, by rw [hnm, names_take hx], by rw [List.length_append, List.length_singleton]; omega, by omega, hE.1, by omega, hov26, hH⟩
 · show rs.length - (i + 1) < rs.length - i; omega
 refine st_buildS (e := 3) (zv := .int .i64 0) (m := 1) (bytes := 8) rfl rfl rfl (by kernel_rfl) (by kernel_rfl) rfl (cs := [Ni ((exprM (rs.map Rv.rl) r.body.nd (msO lN nN)).1)]) (by kernel_rfl) rfl hH ?_
 clear hH; intro b436 w437 hH
 replace hH := hH.n9
 refine Nl (hH.sb (slc (slc (slk (slk (slc (slk (slk (slk sln))))))))) fun hS9 => gdk [(2, Pp b3 0), (5, Pp b11 0), (20, .slice A rs.length cap), (21, Ni rs.length), (22, Ni i), (30, Pp b11 0), (31, Pp b11 0), (36, x1), (38, .string (bs r.name)), (45, x2), (47, .slice (some ⟨b436, 0, none⟩) 1 1)] <| gds 9 (st_buildS (e := 9) (zv := .string (bs [])) (m := 1) (bytes := 16) rfl rfl rfl (by kernel_rfl) (by kernel_rfl) rfl (cs := [.string (bs r.name)]) (by kernel_rfl) rfl hH ?_)
 clear hH; intro b438 w439 hH
 replace hH := hH.n10
 refine Nl (hH.sb (slc (slc (slk (slk (slc (slk (slk (slk sln))))))))) fun hS9 => gds 10 (Apd (e := 9) (.string (bs [])) 1 16 0 rfl hH rfl rfl rfl (hH.row_reads 9 rfl) (by simp [Value.oneCell']) (by unfold maxLen; omega) (by omega) ?_)
 clear hH; intro v440 w441 hH
 replace hH := hH.row_eq 0 (l' := (nm ++ [r.name]).length) (xs' := rowC sC (nm ++ [r.name])) rfl (by simp) (by rw [← rowC_app, rowC_one]; rfl)
 obtain ⟨A442, c443, rfl, hl444, hm445⟩ := hH.row_form 0 rfl
 replace hH := hH.n10
 refine Nl (hH.sb (slc (slc (slk (slk (slc (slk (slk (slk sln))))))))) fun hS9 => gds 18 (Apd (e := 3) (.int .i64 0) 1 8 1 rfl hH rfl rfl rfl (hH.row_reads 8 rfl) (by simp [Value.oneCell']) (by unfold maxLen; omega) (by omega) ?_)
 clear hH; intro v446 w447 hH
 replace hH := hH.row_eq 1 (l' := (rt ++ [((exprM (rs.map Rv.rl) r.body.nd (msO lN nN)).1 : Int)]).length) (xs' := rowC iC (rt ++ [((exprM (rs.map Rv.rl) r.body.nd (msO lN nN)).1 : Int)])) rfl (by simp) (by rw [← rowC_app, rowC_one]; rfl)
 obtain ⟨A448, c449, rfl, hl450, hm451⟩ := hH.row_form 1 rfl
 replace hH := hH.n10
 refine Nl (hH.sb (slc (slc (slk (slk (slc (slk (slk (slk sln))))))))) fun hS9 => Gp1 3 [19,20,21] 51 (Pp b11 2) hS9 <| gds 22 (Ks 4 (.slice A442 ((nm ++ [r.name]).length) c443) rfl hH rfl rfl ?_)
 clear hH; intro w452 hH
 replace hH := hH.n10
 refine Nl (hH.sb (slc (slc (slk (slk (slc (slk (slk (slk sln))))))))) fun hS9 => Gp1 3 [23,24,25] 54 (Pp b11 3) hS9 <| gds 26 (Ks 4 (.slice A448 ((rt ++ [((exprM (rs.map Rv.rl) r.body.nd (msO lN nN)).1 : Int)]).length) c449) rfl hH rfl rfl ?_)
 clear hH; intro w453 hH
 replace hH := hH.n10
 refine Nl (hH.sb (slc (slc (slk (slk (slc (slk (slk (slk sln))))))))) fun hS9 => gdn [(2, Pp b3 0), (5, Pp b11 0), (20, .slice A rs.length cap), (21, Ni rs.length), (22, Ni i)] <| bkN <| sw_next <| sw_region <| Gw0 1 55 ((i : Int) + 1) ((i + 1 : Nat) : Int) <| Go1 1 22 (Ni (i + 1)) <| Dd <| rnd_end (g := (i, rt, nm, vN, lN, nN, pN, x1, x2)) (i + 1, rt ++ [((exprM (rs.map Rv.rl) r.body.nd (msO lN nN)).1 : Int)], nm ++ [r.name], vo20, l21, kn22, pl23, (.slice A442 ((nm ++ [r.name]).length) c443), (.slice A448 ((rt ++ [((exprM (rs.map Rv.rl) r.body.nd (msO lN nN)).1 : Int)]).length) c449)) (by kernel_rfl) ?_ ?_
 replace hH := hH.fr3.fr3.fr3.fr8.fr8.fr8.fr8
 replace hH := (hH.sb (slk (slk (slk (slk (slk (slk (slk sln)))))))).n7
 · exact ⟨by rw [hks, rootsM_at hx, hS24, List.map_cons, List.append_assoc]; rfl, by rw [hnm, names_take hx], by rw [List.length_append, List.length_singleton]; omega, by omega, hE.1, by omega, hov26, hH⟩
 · show rs.length - (i + 1) < rs.length - i; omega
 refine st_buildS (e := 9) (zv := .string (bs [])) (m := 1) (bytes := 16) rfl rfl rfl (by kernel_rfl) (by kernel_rfl) rfl (cs := [.string (bs r.name)]) (by kernel_rfl) rfl hH ?_
 clear hH; intro b454 w455 hH
 replace hH := hH.n9
 refine Nl (hH.sb (slc (slc (slk (slk (slc (slk (slk (slk sln))))))))) fun hS9 => gdk [(2, Pp b3 0), (5, Pp b11 0), (20, .slice A rs.length cap), (21, Ni rs.length), (22, Ni i), (30, Pp b11 0), (31, Pp b11 0), (35, Pp b11 2), (39, .slice (some ⟨b454, 0, none⟩) 1 1), (45, x2), (46, Ni ((exprM (rs.map Rv.rl) r.body.nd (msO lN nN)).1))] <| gd_st2 6 17 (by kernel_rfl) ?_ ?_
 refine st_q rfl rfl rfl (Lk 4 hH rfl rfl rfl) <| Nl hS9 fun hS9 => gdk [(2, Pp b3 0), (5, Pp b11 0), (20, .slice A rs.length cap), (21, Ni rs.length), (22, Ni i), (30, Pp b11 0), (31, Pp b11 0), (36, x1), (39, .slice (some ⟨b454, 0, none⟩) 1 1), (45, x2), (46, Ni ((exprM (rs.map Rv.rl) r.body.nd (msO lN nN)).1))] <| gd_st2 10 17 (by kernel_rfl) ?_ ?_
 refine Apd (e := 9) (.string (bs [])) 1 16 0 rfl hH rfl rfl rfl (hH.row_reads 8 rfl) (by simp [Value.oneCell']) (by unfold maxLen; omega) (by omega) ?_
 clear hH; intro v456 w457 hH
 replace hH := hH.row_eq 0 (l' := (nm ++ [r.name]).length) (xs' := rowC sC (nm ++ [r.name])) rfl (by simp) (by rw [← rowC_app, rowC_one]; rfl)
 obtain ⟨A458, c459, rfl, hl460, hm461⟩ := hH.row_form 0 rfl
 replace hH := hH.n9
 refine Nl (hH.sb (slc (slc (slk (slk (slc (slk (slk (slk sln))))))))) fun hS9 => gdk [(2, Pp b3 0), (5, Pp b11 0), (20, .slice A rs.length cap), (21, Ni rs.length), (22, Ni i), (30, Pp b11 0), (31, Pp b11 0), (40, .slice A458 ((nm ++ [r.name]).length) c459), (45, x2), (46, Ni ((exprM (rs.map Rv.rl) r.body.nd (msO lN nN)).1))] <| gds 17 (st_buildS (e := 3) (zv := .int .i64 0) (m := 1) (bytes := 8) rfl rfl rfl (by kernel_rfl) (by kernel_rfl) rfl (cs := [Ni ((exprM (rs.map Rv.rl) r.body.nd (msO lN nN)).1)]) (by kernel_rfl) rfl hH ?_)
 clear hH; intro b462 w463 hH
 replace hH := hH.n10
 refine Nl (hH.sb (slc (slc (slk (slk (slc (slk (slk (slk sln))))))))) fun hS9 => gds 18 (Apd (e := 3) (.int .i64 0) 1 8 1 rfl hH rfl rfl rfl (hH.row_reads 9 rfl) (by simp [Value.oneCell']) (by unfold maxLen; omega) (by omega) ?_)
 clear hH; intro v464 w465 hH
 replace hH := hH.row_eq 1 (l' := (rt ++ [((exprM (rs.map Rv.rl) r.body.nd (msO lN nN)).1 : Int)]).length) (xs' := rowC iC (rt ++ [((exprM (rs.map Rv.rl) r.body.nd (msO lN nN)).1 : Int)])) rfl (by simp) (by rw [← rowC_app, rowC_one]; rfl)
 obtain ⟨A466, c467, rfl, hl468, hm469⟩ := hH.row_form 1 rfl
 replace hH := hH.n10
 refine Nl (hH.sb (slc (slc (slk (slk (slc (slk (slk (slk sln))))))))) fun hS9 => Gp1 3 [19,20,21] 51 (Pp b11 2) hS9 <| gds 22 (Ks 4 (.slice A458 ((nm ++ [r.name]).length) c459) rfl hH rfl rfl ?_)
 clear hH; intro w470 hH
 replace hH := hH.n10
 refine Nl (hH.sb (slc (slc (slk (slk (slc (slk (slk (slk sln))))))))) fun hS9 => Gp1 3 [23,24,25] 54 (Pp b11 3) hS9 <| gds 26 (Ks 4 (.slice A466 ((rt ++ [((exprM (rs.map Rv.rl) r.body.nd (msO lN nN)).1 : Int)]).length) c467) rfl hH rfl rfl ?_)
 clear hH; intro w471 hH
 replace hH := hH.n10
 refine Nl (hH.sb (slc (slc (slk (slk (slc (slk (slk (slk sln))))))))) fun hS9 => gdn [(2, Pp b3 0), (5, Pp b11 0), (20, .slice A rs.length cap), (21, Ni rs.length), (22, Ni i)] <| bkN <| sw_next <| sw_region <| Gw0 1 55 ((i : Int) + 1) ((i + 1 : Nat) : Int) <| Go1 1 22 (Ni (i + 1)) <| Dd <| rnd_end (g := (i, rt, nm, vN, lN, nN, pN, x1, x2)) (i + 1, rt ++ [((exprM (rs.map Rv.rl) r.body.nd (msO lN nN)).1 : Int)], nm ++ [r.name], vo20, l21, kn22, pl23, (.slice A458 ((nm ++ [r.name]).length) c459), (.slice A466 ((rt ++ [((exprM (rs.map Rv.rl) r.body.nd (msO lN nN)).1 : Int)]).length) c467)) (by kernel_rfl) ?_ ?_
 replace hH := hH.fr3.fr3.fr3.fr8.fr8.fr8.fr8
 replace hH := (hH.sb (slk (slk (slk (slk (slk (slk (slk sln)))))))).n7
 · exact ⟨by rw [hks, rootsM_at hx, hS24, List.map_cons, List.append_assoc]; rfl, by rw [hnm, names_take hx], by rw [List.length_append, List.length_singleton]; omega, by omega, hE.1, by omega, hov26, hH⟩
 · show rs.length - (i + 1) < rs.length - i; omega
 refine st_buildS (e := 3) (zv := .int .i64 0) (m := 1) (bytes := 8) rfl rfl rfl (by kernel_rfl) (by kernel_rfl) rfl (cs := [Ni ((exprM (rs.map Rv.rl) r.body.nd (msO lN nN)).1)]) (by kernel_rfl) rfl hH ?_
 clear hH; intro b472 w473 hH
 replace hH := hH.n10
 refine Nl (hH.sb (slc (slc (slk (slk (slc (slk (slk (slk sln))))))))) fun hS9 => gdk [(2, Pp b3 0), (5, Pp b11 0), (20, .slice A rs.length cap), (21, Ni rs.length), (22, Ni i), (30, Pp b11 0), (31, Pp b11 0), (36, x1), (39, .slice (some ⟨b454, 0, none⟩) 1 1), (45, x2), (47, .slice (some ⟨b472, 0, none⟩) 1 1)] <| gds 10 (Apd (e := 9) (.string (bs [])) 1 16 0 rfl hH rfl rfl rfl (hH.row_reads 8 rfl) (by simp [Value.oneCell']) (by unfold maxLen; omega) (by omega) ?_)
 clear hH; intro v474 w475 hH
 replace hH := hH.row_eq 0 (l' := (nm ++ [r.name]).length) (xs' := rowC sC (nm ++ [r.name])) rfl (by simp) (by rw [← rowC_app, rowC_one]; rfl)
 obtain ⟨A476, c477, rfl, hl478, hm479⟩ := hH.row_form 0 rfl
 replace hH := hH.n10
 refine Nl (hH.sb (slc (slc (slk (slk (slc (slk (slk (slk sln))))))))) fun hS9 => gds 18 (Apd (e := 3) (.int .i64 0) 1 8 1 rfl hH rfl rfl rfl (hH.row_reads 9 rfl) (by simp [Value.oneCell']) (by unfold maxLen; omega) (by omega) ?_)
 clear hH; intro v480 w481 hH
 replace hH := hH.row_eq 1 (l' := (rt ++ [((exprM (rs.map Rv.rl) r.body.nd (msO lN nN)).1 : Int)]).length) (xs' := rowC iC (rt ++ [((exprM (rs.map Rv.rl) r.body.nd (msO lN nN)).1 : Int)])) rfl (by simp) (by rw [← rowC_app, rowC_one]; rfl)
 obtain ⟨A482, c483, rfl, hl484, hm485⟩ := hH.row_form 1 rfl
 replace hH := hH.n10
 refine Nl (hH.sb (slc (slc (slk (slk (slc (slk (slk (slk sln))))))))) fun hS9 => Gp1 3 [19,20,21] 51 (Pp b11 2) hS9 <| gds 22 (Ks 4 (.slice A476 ((nm ++ [r.name]).length) c477) rfl hH rfl rfl ?_)
 clear hH; intro w486 hH
 replace hH := hH.n10
 refine Nl (hH.sb (slc (slc (slk (slk (slc (slk (slk (slk sln))))))))) fun hS9 => Gp1 3 [23,24,25] 54 (Pp b11 3) hS9 <| gds 26 (Ks 4 (.slice A482 ((rt ++ [((exprM (rs.map Rv.rl) r.body.nd (msO lN nN)).1 : Int)]).length) c483) rfl hH rfl rfl ?_)
 clear hH; intro w487 hH
 replace hH := hH.n10
 refine Nl (hH.sb (slc (slc (slk (slk (slc (slk (slk (slk sln))))))))) fun hS9 => gdn [(2, Pp b3 0), (5, Pp b11 0), (20, .slice A rs.length cap), (21, Ni rs.length), (22, Ni i)] <| bkN <| sw_next <| sw_region <| Gw0 1 55 ((i : Int) + 1) ((i + 1 : Nat) : Int) <| Go1 1 22 (Ni (i + 1)) <| Dd <| rnd_end (g := (i, rt, nm, vN, lN, nN, pN, x1, x2)) (i + 1, rt ++ [((exprM (rs.map Rv.rl) r.body.nd (msO lN nN)).1 : Int)], nm ++ [r.name], vo20, l21, kn22, pl23, (.slice A476 ((nm ++ [r.name]).length) c477), (.slice A482 ((rt ++ [((exprM (rs.map Rv.rl) r.body.nd (msO lN nN)).1 : Int)]).length) c483)) (by kernel_rfl) ?_ ?_
 replace hH := hH.fr3.fr3.fr3.fr8.fr8.fr8.fr8
 replace hH := (hH.sb (slk (slk (slk (slk (slk (slk (slk sln)))))))).n7
 · exact ⟨by rw [hks, rootsM_at hx, hS24, List.map_cons, List.append_assoc]; rfl, by rw [hnm, names_take hx], by rw [List.length_append, List.length_singleton]; omega, by omega, hE.1, by omega, hov26, hH⟩
 · show rs.length - (i + 1) < rs.length - i; omega
 refine st_buildS (e := 3) (zv := .int .i64 0) (m := 1) (bytes := 8) rfl rfl rfl (by kernel_rfl) (by kernel_rfl) rfl (cs := [Ni ((exprM (rs.map Rv.rl) r.body.nd (msO lN nN)).1)]) (by kernel_rfl) rfl hH ?_
 clear hH; intro b488 w489 hH
 replace hH := hH.n10
 refine Nl (hH.sb (slc (slc (slk (slk (slc (slk (slk (slk sln))))))))) fun hS9 => gdk [(2, Pp b3 0), (5, Pp b11 0), (20, .slice A rs.length cap), (21, Ni rs.length), (22, Ni i), (30, Pp b11 0), (31, Pp b11 0), (35, Pp b11 2), (39, .slice (some ⟨b454, 0, none⟩) 1 1), (45, x2), (47, .slice (some ⟨b488, 0, none⟩) 1 1)] <| gds 6 (st_q rfl rfl rfl (Lk 4 hH rfl rfl rfl) ?_)
 refine Nl hS9 fun hS9 => gds 10 (Apd (e := 9) (.string (bs [])) 1 16 0 rfl hH rfl rfl rfl (hH.row_reads 8 rfl) (by simp [Value.oneCell']) (by unfold maxLen; omega) (by omega) ?_)
 clear hH; intro v490 w491 hH
 replace hH := hH.row_eq 0 (l' := (nm ++ [r.name]).length) (xs' := rowC sC (nm ++ [r.name])) rfl (by simp) (by rw [← rowC_app, rowC_one]; rfl)
 obtain ⟨A492, c493, rfl, hl494, hm495⟩ := hH.row_form 0 rfl
 replace hH := hH.n10
 refine Nl (hH.sb (slc (slc (slk (slk (slc (slk (slk (slk sln))))))))) fun hS9 => gds 18 (Apd (e := 3) (.int .i64 0) 1 8 1 rfl hH rfl rfl rfl (hH.row_reads 9 rfl) (by simp [Value.oneCell']) (by unfold maxLen; omega) (by omega) ?_)
 clear hH; intro v496 w497 hH
 replace hH := hH.row_eq 1 (l' := (rt ++ [((exprM (rs.map Rv.rl) r.body.nd (msO lN nN)).1 : Int)]).length) (xs' := rowC iC (rt ++ [((exprM (rs.map Rv.rl) r.body.nd (msO lN nN)).1 : Int)])) rfl (by simp) (by rw [← rowC_app, rowC_one]; rfl)
 obtain ⟨A498, c499, rfl, hl500, hm501⟩ := hH.row_form 1 rfl
 replace hH := hH.n10
 refine Nl (hH.sb (slc (slc (slk (slk (slc (slk (slk (slk sln))))))))) fun hS9 => Gp1 3 [19,20,21] 51 (Pp b11 2) hS9 <| gds 22 (Ks 4 (.slice A492 ((nm ++ [r.name]).length) c493) rfl hH rfl rfl ?_)
 clear hH; intro w502 hH
 replace hH := hH.n10
 refine Nl (hH.sb (slc (slc (slk (slk (slc (slk (slk (slk sln))))))))) fun hS9 => Gp1 3 [23,24,25] 54 (Pp b11 3) hS9 <| gds 26 (Ks 4 (.slice A498 ((rt ++ [((exprM (rs.map Rv.rl) r.body.nd (msO lN nN)).1 : Int)]).length) c499) rfl hH rfl rfl ?_)
 clear hH; intro w503 hH
 replace hH := hH.n10
 refine Nl (hH.sb (slc (slc (slk (slk (slc (slk (slk (slk sln))))))))) fun hS9 => gdn [(2, Pp b3 0), (5, Pp b11 0), (20, .slice A rs.length cap), (21, Ni rs.length), (22, Ni i)] <| bkN <| sw_next <| sw_region <| Gw0 1 55 ((i : Int) + 1) ((i + 1 : Nat) : Int) <| Go1 1 22 (Ni (i + 1)) <| Dd <| rnd_end (g := (i, rt, nm, vN, lN, nN, pN, x1, x2)) (i + 1, rt ++ [((exprM (rs.map Rv.rl) r.body.nd (msO lN nN)).1 : Int)], nm ++ [r.name], vo20, l21, kn22, pl23, (.slice A492 ((nm ++ [r.name]).length) c493), (.slice A498 ((rt ++ [((exprM (rs.map Rv.rl) r.body.nd (msO lN nN)).1 : Int)]).length) c499)) (by kernel_rfl) ?_ ?_
 replace hH := hH.fr3.fr3.fr3.fr8.fr8.fr8.fr8
 replace hH := (hH.sb (slk (slk (slk (slk (slk (slk (slk sln)))))))).n7
 · exact ⟨by rw [hks, rootsM_at hx, hS24, List.map_cons, List.append_assoc]; rfl, by rw [hnm, names_take hx], by rw [List.length_append, List.length_singleton]; omega, by omega, hE.1, by omega, hov26, hH⟩
 · show rs.length - (i + 1) < rs.length - i; omega
 refine st_buildS (e := 3) (zv := .int .i64 0) (m := 1) (bytes := 8) rfl rfl rfl (by kernel_rfl) (by kernel_rfl) rfl (cs := [Ni ((exprM (rs.map Rv.rl) r.body.nd (msO lN nN)).1)]) (by kernel_rfl) rfl hH ?_
 clear hH; intro b504 w505 hH
 replace hH := hH.n9
 refine Nl (hH.sb (slc (slc (slk (slk (slc (slk (slk (slk sln))))))))) fun hS9 => gdk [(2, Pp b3 0), (5, Pp b11 0), (20, .slice A rs.length cap), (21, Ni rs.length), (22, Ni i), (30, Pp b11 0), (31, Pp b11 0), (35, Pp b11 2), (38, .string (bs r.name)), (45, x2), (47, .slice (some ⟨b504, 0, none⟩) 1 1)] <| gd_st2 6 9 (by kernel_rfl) ?_ ?_
 refine st_q rfl rfl rfl (Lk 4 hH rfl rfl rfl) <| Nl hS9 fun hS9 => gdk [(2, Pp b3 0), (5, Pp b11 0), (20, .slice A rs.length cap), (21, Ni rs.length), (22, Ni i), (30, Pp b11 0), (31, Pp b11 0), (36, x1), (38, .string (bs r.name)), (45, x2), (47, .slice (some ⟨b504, 0, none⟩) 1 1)] <| gds 9 (st_buildS (e := 9) (zv := .string (bs [])) (m := 1) (bytes := 16) rfl rfl rfl (by kernel_rfl) (by kernel_rfl) rfl (cs := [.string (bs r.name)]) (by kernel_rfl) rfl hH ?_)
 clear hH; intro b506 w507 hH
 replace hH := hH.n10
 refine Nl (hH.sb (slc (slc (slk (slk (slc (slk (slk (slk sln))))))))) fun hS9 => gds 10 (Apd (e := 9) (.string (bs [])) 1 16 0 rfl hH rfl rfl rfl (hH.row_reads 9 rfl) (by simp [Value.oneCell']) (by unfold maxLen; omega) (by omega) ?_)
 clear hH; intro v508 w509 hH
 replace hH := hH.row_eq 0 (l' := (nm ++ [r.name]).length) (xs' := rowC sC (nm ++ [r.name])) rfl (by simp) (by rw [← rowC_app, rowC_one]; rfl)
 obtain ⟨A510, c511, rfl, hl512, hm513⟩ := hH.row_form 0 rfl
 replace hH := hH.n10
 refine Nl (hH.sb (slc (slc (slk (slk (slc (slk (slk (slk sln))))))))) fun hS9 => gds 18 (Apd (e := 3) (.int .i64 0) 1 8 1 rfl hH rfl rfl rfl (hH.row_reads 8 rfl) (by simp [Value.oneCell']) (by unfold maxLen; omega) (by omega) ?_)
 clear hH; intro v514 w515 hH
 replace hH := hH.row_eq 1 (l' := (rt ++ [((exprM (rs.map Rv.rl) r.body.nd (msO lN nN)).1 : Int)]).length) (xs' := rowC iC (rt ++ [((exprM (rs.map Rv.rl) r.body.nd (msO lN nN)).1 : Int)])) rfl (by simp) (by rw [← rowC_app, rowC_one]; rfl)
 obtain ⟨A516, c517, rfl, hl518, hm519⟩ := hH.row_form 1 rfl
 replace hH := hH.n10
 refine Nl (hH.sb (slc (slc (slk (slk (slc (slk (slk (slk sln))))))))) fun hS9 => Gp1 3 [19,20,21] 51 (Pp b11 2) hS9 <| gds 22 (Ks 4 (.slice A510 ((nm ++ [r.name]).length) c511) rfl hH rfl rfl ?_)
 clear hH; intro w520 hH
 replace hH := hH.n10
 refine Nl (hH.sb (slc (slc (slk (slk (slc (slk (slk (slk sln))))))))) fun hS9 => Gp1 3 [23,24,25] 54 (Pp b11 3) hS9 <| gds 26 (Ks 4 (.slice A516 ((rt ++ [((exprM (rs.map Rv.rl) r.body.nd (msO lN nN)).1 : Int)]).length) c517) rfl hH rfl rfl ?_)
 clear hH; intro w521 hH
 replace hH := hH.n10
 refine Nl (hH.sb (slc (slc (slk (slk (slc (slk (slk (slk sln))))))))) fun hS9 => gdn [(2, Pp b3 0), (5, Pp b11 0), (20, .slice A rs.length cap), (21, Ni rs.length), (22, Ni i)] <| bkN <| sw_next <| sw_region <| Gw0 1 55 ((i : Int) + 1) ((i + 1 : Nat) : Int) <| Go1 1 22 (Ni (i + 1)) <| Dd <| rnd_end (g := (i, rt, nm, vN, lN, nN, pN, x1, x2)) (i + 1, rt ++ [((exprM (rs.map Rv.rl) r.body.nd (msO lN nN)).1 : Int)], nm ++ [r.name], vo20, l21, kn22, pl23, (.slice A510 ((nm ++ [r.name]).length) c511), (.slice A516 ((rt ++ [((exprM (rs.map Rv.rl) r.body.nd (msO lN nN)).1 : Int)]).length) c517)) (by kernel_rfl) ?_ ?_
 replace hH := hH.fr3.fr3.fr3.fr8.fr8.fr8.fr8
 replace hH := (hH.sb (slk (slk (slk (slk (slk (slk (slk sln)))))))).n7
 · exact ⟨by rw [hks, rootsM_at hx, hS24, List.map_cons, List.append_assoc]; rfl, by rw [hnm, names_take hx], by rw [List.length_append, List.length_singleton]; omega, by omega, hE.1, by omega, hov26, hH⟩
 · show rs.length - (i + 1) < rs.length - i; omega
 refine st_buildS (e := 9) (zv := .string (bs [])) (m := 1) (bytes := 16) rfl rfl rfl (by kernel_rfl) (by kernel_rfl) rfl (cs := [.string (bs r.name)]) (by kernel_rfl) rfl hH ?_
 clear hH; intro b522 w523 hH
 replace hH := hH.n10
 refine Nl (hH.sb (slc (slc (slk (slk (slc (slk (slk (slk sln))))))))) fun hS9 => gdk [(2, Pp b3 0), (5, Pp b11 0), (20, .slice A rs.length cap), (21, Ni rs.length), (22, Ni i), (30, Pp b11 0), (31, Pp b11 0), (35, Pp b11 2), (39, .slice (some ⟨b522, 0, none⟩) 1 1), (45, x2), (47, .slice (some ⟨b504, 0, none⟩) 1 1)] <| gds 6 (st_q rfl rfl rfl (Lk 4 hH rfl rfl rfl) ?_)
 refine Nl hS9 fun hS9 => gds 10 (Apd (e := 9) (.string (bs [])) 1 16 0 rfl hH rfl rfl rfl (hH.row_reads 9 rfl) (by simp [Value.oneCell']) (by unfold maxLen; omega) (by omega) ?_)
 clear hH; intro v524 w525 hH
 replace hH := hH.row_eq 0 (l' := (nm ++ [r.name]).length) (xs' := rowC sC (nm ++ [r.name])) rfl (by simp) (by rw [← rowC_app, rowC_one]; rfl)
 obtain ⟨A526, c527, rfl, hl528, hm529⟩ := hH.row_form 0 rfl
 replace hH := hH.n10
 refine Nl (hH.sb (slc (slc (slk (slk (slc (slk (slk (slk sln))))))))) fun hS9 => gds 18 (Apd (e := 3) (.int .i64 0) 1 8 1 rfl hH rfl rfl rfl (hH.row_reads 8 rfl) (by simp [Value.oneCell']) (by unfold maxLen; omega) (by omega) ?_)
 clear hH; intro v530 w531 hH
 replace hH := hH.row_eq 1 (l' := (rt ++ [((exprM (rs.map Rv.rl) r.body.nd (msO lN nN)).1 : Int)]).length) (xs' := rowC iC (rt ++ [((exprM (rs.map Rv.rl) r.body.nd (msO lN nN)).1 : Int)])) rfl (by simp) (by rw [← rowC_app, rowC_one]; rfl)
 obtain ⟨A532, c533, rfl, hl534, hm535⟩ := hH.row_form 1 rfl
 replace hH := hH.n10
 refine Nl (hH.sb (slc (slc (slk (slk (slc (slk (slk (slk sln))))))))) fun hS9 => Gp1 3 [19,20,21] 51 (Pp b11 2) hS9 <| gds 22 (Ks 4 (.slice A526 ((nm ++ [r.name]).length) c527) rfl hH rfl rfl ?_)
 clear hH; intro w536 hH
 replace hH := hH.n10
 refine Nl (hH.sb (slc (slc (slk (slk (slc (slk (slk (slk sln))))))))) fun hS9 => Gp1 3 [23,24,25] 54 (Pp b11 3) hS9 <| gds 26 (Ks 4 (.slice A532 ((rt ++ [((exprM (rs.map Rv.rl) r.body.nd (msO lN nN)).1 : Int)]).length) c533) rfl hH rfl rfl ?_)
 clear hH; intro w537 hH
 replace hH := hH.n10
 refine Nl (hH.sb (slc (slc (slk (slk (slc (slk (slk (slk sln))))))))) fun hS9 => gdn [(2, Pp b3 0), (5, Pp b11 0), (20, .slice A rs.length cap), (21, Ni rs.length), (22, Ni i)] <| bkN <| sw_next <| sw_region <| Gw0 1 55 ((i : Int) + 1) ((i + 1 : Nat) : Int) <| Go1 1 22 (Ni (i + 1)) <| Dd <| rnd_end (g := (i, rt, nm, vN, lN, nN, pN, x1, x2)) (i + 1, rt ++ [((exprM (rs.map Rv.rl) r.body.nd (msO lN nN)).1 : Int)], nm ++ [r.name], vo20, l21, kn22, pl23, (.slice A526 ((nm ++ [r.name]).length) c527), (.slice A532 ((rt ++ [((exprM (rs.map Rv.rl) r.body.nd (msO lN nN)).1 : Int)]).length) c533)) (by kernel_rfl) ?_ ?_
 replace hH := hH.fr3.fr3.fr3.fr8.fr8.fr8.fr8
 replace hH := (hH.sb (slk (slk (slk (slk (slk (slk (slk sln)))))))).n7
 · exact ⟨by rw [hks, rootsM_at hx, hS24, List.map_cons, List.append_assoc]; rfl, by rw [hnm, names_take hx], by rw [List.length_append, List.length_singleton]; omega, by omega, hE.1, by omega, hov26, hH⟩
 · show rs.length - (i + 1) < rs.length - i; omega
 refine st_buildS (e := 3) (zv := .int .i64 0) (m := 1) (bytes := 8) rfl rfl rfl (by kernel_rfl) (by kernel_rfl) rfl (cs := [Ni ((exprM (rs.map Rv.rl) r.body.nd (msO lN nN)).1)]) (by kernel_rfl) rfl hH ?_
 clear hH; intro b538 w539 hH
 replace hH := hH.n9
 refine Nl (hH.sb (slc (slc (slk (slk (slc (slk (slk (slk sln))))))))) fun hS9 => gdk [(2, Pp b3 0), (5, Pp b11 0), (20, .slice A rs.length cap), (21, Ni rs.length), (22, Ni i), (30, Pp b11 0), (31, Pp b11 0), (35, Pp b11 2), (38, .string (bs r.name)), (44, Pp b11 3), (47, .slice (some ⟨b538, 0, none⟩) 1 1)] <| gd_st3 6 9 15 (by kernel_rfl) ?_ ?_ ?_
 refine st_q rfl rfl rfl (Lk 4 hH rfl rfl rfl) <| Nl hS9 fun hS9 => gdk [(2, Pp b3 0), (5, Pp b11 0), (20, .slice A rs.length cap), (21, Ni rs.length), (22, Ni i), (30, Pp b11 0), (31, Pp b11 0), (36, x1), (38, .string (bs r.name)), (44, Pp b11 3), (47, .slice (some ⟨b538, 0, none⟩) 1 1)] <| gd_st2 9 15 (by kernel_rfl) ?_ ?_
 refine st_buildS (e := 9) (zv := .string (bs [])) (m := 1) (bytes := 16) rfl rfl rfl (by kernel_rfl) (by kernel_rfl) rfl (cs := [.string (bs r.name)]) (by kernel_rfl) rfl hH ?_
 clear hH; intro b540 w541 hH
 replace hH := hH.n10
 refine Nl (hH.sb (slc (slc (slk (slk (slc (slk (slk (slk sln))))))))) fun hS9 => gdk [(2, Pp b3 0), (5, Pp b11 0), (20, .slice A rs.length cap), (21, Ni rs.length), (22, Ni i), (30, Pp b11 0), (31, Pp b11 0), (36, x1), (39, .slice (some ⟨b540, 0, none⟩) 1 1), (44, Pp b11 3), (47, .slice (some ⟨b538, 0, none⟩) 1 1)] <| gd_st2 10 15 (by kernel_rfl) ?_ ?_
 refine Apd (e := 9) (.string (bs [])) 1 16 0 rfl hH rfl rfl rfl (hH.row_reads 9 rfl) (by simp [Value.oneCell']) (by unfold maxLen; omega) (by omega) ?_
 clear hH; intro v542 w543 hH
 replace hH := hH.row_eq 0 (l' := (nm ++ [r.name]).length) (xs' := rowC sC (nm ++ [r.name])) rfl (by simp) (by rw [← rowC_app, rowC_one]; rfl)
 obtain ⟨A544, c545, rfl, hl546, hm547⟩ := hH.row_form 0 rfl
 replace hH := hH.n10
 refine Nl (hH.sb (slc (slc (slk (slk (slc (slk (slk (slk sln))))))))) fun hS9 => gdk [(2, Pp b3 0), (5, Pp b11 0), (20, .slice A rs.length cap), (21, Ni rs.length), (22, Ni i), (30, Pp b11 0), (31, Pp b11 0), (40, .slice A544 ((nm ++ [r.name]).length) c545), (44, Pp b11 3), (47, .slice (some ⟨b538, 0, none⟩) 1 1)] <| gds 15 (st_q rfl rfl rfl (Lk 4 hH rfl rfl rfl) ?_)
 refine Nl hS9 fun hS9 => gds 18 (Apd (e := 3) (.int .i64 0) 1 8 1 rfl hH rfl rfl rfl (hH.row_reads 8 rfl) (by simp [Value.oneCell']) (by unfold maxLen; omega) (by omega) ?_)
 clear hH; intro v548 w549 hH
 replace hH := hH.row_eq 1 (l' := (rt ++ [((exprM (rs.map Rv.rl) r.body.nd (msO lN nN)).1 : Int)]).length) (xs' := rowC iC (rt ++ [((exprM (rs.map Rv.rl) r.body.nd (msO lN nN)).1 : Int)])) rfl (by simp) (by rw [← rowC_app, rowC_one]; rfl)
 obtain ⟨A550, c551, rfl, hl552, hm553⟩ := hH.row_form 1 rfl
 replace hH := hH.n10
 refine Nl (hH.sb (slc (slc (slk (slk (slc (slk (slk (slk sln))))))))) fun hS9 => Gp1 3 [19,20,21] 51 (Pp b11 2) hS9 <| gds 22 (Ks 4 (.slice A544 ((nm ++ [r.name]).length) c545) rfl hH rfl rfl ?_)
 clear hH; intro w554 hH
 replace hH := hH.n10
 refine Nl (hH.sb (slc (slc (slk (slk (slc (slk (slk (slk sln))))))))) fun hS9 => Gp1 3 [23,24,25] 54 (Pp b11 3) hS9 <| gds 26 (Ks 4 (.slice A550 ((rt ++ [((exprM (rs.map Rv.rl) r.body.nd (msO lN nN)).1 : Int)]).length) c551) rfl hH rfl rfl ?_)
 clear hH; intro w555 hH
 replace hH := hH.n10
 refine Nl (hH.sb (slc (slc (slk (slk (slc (slk (slk (slk sln))))))))) fun hS9 => gdn [(2, Pp b3 0), (5, Pp b11 0), (20, .slice A rs.length cap), (21, Ni rs.length), (22, Ni i)] <| bkN <| sw_next <| sw_region <| Gw0 1 55 ((i : Int) + 1) ((i + 1 : Nat) : Int) <| Go1 1 22 (Ni (i + 1)) <| Dd <| rnd_end (g := (i, rt, nm, vN, lN, nN, pN, x1, x2)) (i + 1, rt ++ [((exprM (rs.map Rv.rl) r.body.nd (msO lN nN)).1 : Int)], nm ++ [r.name], vo20, l21, kn22, pl23, (.slice A544 ((nm ++ [r.name]).length) c545), (.slice A550 ((rt ++ [((exprM (rs.map Rv.rl) r.body.nd (msO lN nN)).1 : Int)]).length) c551)) (by kernel_rfl) ?_ ?_
 replace hH := hH.fr3.fr3.fr3.fr8.fr8.fr8.fr8
 replace hH := (hH.sb (slk (slk (slk (slk (slk (slk (slk sln)))))))).n7
 · exact ⟨by rw [hks, rootsM_at hx, hS24, List.map_cons, List.append_assoc]; rfl, by rw [hnm, names_take hx], by rw [List.length_append, List.length_singleton]; omega, by omega, hE.1, by omega, hov26, hH⟩
 · show rs.length - (i + 1) < rs.length - i; omega
 refine st_q rfl rfl rfl (Lk 4 hH rfl rfl rfl) <| Nl hS9 fun hS9 => gdk [(2, Pp b3 0), (5, Pp b11 0), (20, .slice A rs.length cap), (21, Ni rs.length), (22, Ni i), (30, Pp b11 0), (31, Pp b11 0), (36, x1), (39, .slice (some ⟨b540, 0, none⟩) 1 1), (45, x2), (47, .slice (some ⟨b538, 0, none⟩) 1 1)] <| gds 10 (Apd (e := 9) (.string (bs [])) 1 16 0 rfl hH rfl rfl rfl (hH.row_reads 9 rfl) (by simp [Value.oneCell']) (by unfold maxLen; omega) (by omega) ?_)
 clear hH; intro v556 w557 hH
 replace hH := hH.row_eq 0 (l' := (nm ++ [r.name]).length) (xs' := rowC sC (nm ++ [r.name])) rfl (by simp) (by rw [← rowC_app, rowC_one]; rfl)
 obtain ⟨A558, c559, rfl, hl560, hm561⟩ := hH.row_form 0 rfl
 replace hH := hH.n10
 refine Nl (hH.sb (slc (slc (slk (slk (slc (slk (slk (slk sln))))))))) fun hS9 => gds 18 (Apd (e := 3) (.int .i64 0) 1 8 1 rfl hH rfl rfl rfl (hH.row_reads 8 rfl) (by simp [Value.oneCell']) (by unfold maxLen; omega) (by omega) ?_)
 clear hH; intro v562 w563 hH
 replace hH := hH.row_eq 1 (l' := (rt ++ [((exprM (rs.map Rv.rl) r.body.nd (msO lN nN)).1 : Int)]).length) (xs' := rowC iC (rt ++ [((exprM (rs.map Rv.rl) r.body.nd (msO lN nN)).1 : Int)])) rfl (by simp) (by rw [← rowC_app, rowC_one]; rfl)
 obtain ⟨A564, c565, rfl, hl566, hm567⟩ := hH.row_form 1 rfl
 replace hH := hH.n10
 refine Nl (hH.sb (slc (slc (slk (slk (slc (slk (slk (slk sln))))))))) fun hS9 => Gp1 3 [19,20,21] 51 (Pp b11 2) hS9 <| gds 22 (Ks 4 (.slice A558 ((nm ++ [r.name]).length) c559) rfl hH rfl rfl ?_)
 clear hH; intro w568 hH
 replace hH := hH.n10
 refine Nl (hH.sb (slc (slc (slk (slk (slc (slk (slk (slk sln))))))))) fun hS9 => Gp1 3 [23,24,25] 54 (Pp b11 3) hS9 <| gds 26 (Ks 4 (.slice A564 ((rt ++ [((exprM (rs.map Rv.rl) r.body.nd (msO lN nN)).1 : Int)]).length) c565) rfl hH rfl rfl ?_)
 clear hH; intro w569 hH
 replace hH := hH.n10
 refine Nl (hH.sb (slc (slc (slk (slk (slc (slk (slk (slk sln))))))))) fun hS9 => gdn [(2, Pp b3 0), (5, Pp b11 0), (20, .slice A rs.length cap), (21, Ni rs.length), (22, Ni i)] <| bkN <| sw_next <| sw_region <| Gw0 1 55 ((i : Int) + 1) ((i + 1 : Nat) : Int) <| Go1 1 22 (Ni (i + 1)) <| Dd <| rnd_end (g := (i, rt, nm, vN, lN, nN, pN, x1, x2)) (i + 1, rt ++ [((exprM (rs.map Rv.rl) r.body.nd (msO lN nN)).1 : Int)], nm ++ [r.name], vo20, l21, kn22, pl23, (.slice A558 ((nm ++ [r.name]).length) c559), (.slice A564 ((rt ++ [((exprM (rs.map Rv.rl) r.body.nd (msO lN nN)).1 : Int)]).length) c565)) (by kernel_rfl) ?_ ?_
 replace hH := hH.fr3.fr3.fr3.fr8.fr8.fr8.fr8
 replace hH := (hH.sb (slk (slk (slk (slk (slk (slk (slk sln)))))))).n7
 · exact ⟨by rw [hks, rootsM_at hx, hS24, List.map_cons, List.append_assoc]; rfl, by rw [hnm, names_take hx], by rw [List.length_append, List.length_singleton]; omega, by omega, hE.1, by omega, hov26, hH⟩
 · show rs.length - (i + 1) < rs.length - i; omega
 refine st_q rfl rfl rfl (Lk 4 hH rfl rfl rfl) <| Nl hS9 fun hS9 => gdk [(2, Pp b3 0), (5, Pp b11 0), (20, .slice A rs.length cap), (21, Ni rs.length), (22, Ni i), (30, Pp b11 0), (31, Pp b11 0), (36, x1), (38, .string (bs r.name)), (45, x2), (47, .slice (some ⟨b538, 0, none⟩) 1 1)] <| gds 9 (st_buildS (e := 9) (zv := .string (bs [])) (m := 1) (bytes := 16) rfl rfl rfl (by kernel_rfl) (by kernel_rfl) rfl (cs := [.string (bs r.name)]) (by kernel_rfl) rfl hH ?_)
 clear hH; intro b570 w571 hH
 replace hH := hH.n10
 refine Nl (hH.sb (slc (slc (slk (slk (slc (slk (slk (slk sln))))))))) fun hS9 => gds 10 (Apd (e := 9) (.string (bs [])) 1 16 0 rfl hH rfl rfl rfl (hH.row_reads 9 rfl) (by simp [Value.oneCell']) (by unfold maxLen; omega) (by omega) ?_)
 clear hH; intro v572 w573 hH
 replace hH := hH.row_eq 0 (l' := (nm ++ [r.name]).length) (xs' := rowC sC (nm ++ [r.name])) rfl (by simp) (by rw [← rowC_app, rowC_one]; rfl)
 obtain ⟨A574, c575, rfl, hl576, hm577⟩ := hH.row_form 0 rfl
 replace hH := hH.n10
 refine Nl (hH.sb (slc (slc (slk (slk (slc (slk (slk (slk sln))))))))) fun hS9 => gds 18 (Apd (e := 3) (.int .i64 0) 1 8 1 rfl hH rfl rfl rfl (hH.row_reads 8 rfl) (by simp [Value.oneCell']) (by unfold maxLen; omega) (by omega) ?_)
 clear hH; intro v578 w579 hH
 replace hH := hH.row_eq 1 (l' := (rt ++ [((exprM (rs.map Rv.rl) r.body.nd (msO lN nN)).1 : Int)]).length) (xs' := rowC iC (rt ++ [((exprM (rs.map Rv.rl) r.body.nd (msO lN nN)).1 : Int)])) rfl (by simp) (by rw [← rowC_app, rowC_one]; rfl)
 obtain ⟨A580, c581, rfl, hl582, hm583⟩ := hH.row_form 1 rfl
 replace hH := hH.n10
 refine Nl (hH.sb (slc (slc (slk (slk (slc (slk (slk (slk sln))))))))) fun hS9 => Gp1 3 [19,20,21] 51 (Pp b11 2) hS9 <| gds 22 (Ks 4 (.slice A574 ((nm ++ [r.name]).length) c575) rfl hH rfl rfl ?_)
 clear hH; intro w584 hH
 replace hH := hH.n10
 refine Nl (hH.sb (slc (slc (slk (slk (slc (slk (slk (slk sln))))))))) fun hS9 => Gp1 3 [23,24,25] 54 (Pp b11 3) hS9 <| gds 26 (Ks 4 (.slice A580 ((rt ++ [((exprM (rs.map Rv.rl) r.body.nd (msO lN nN)).1 : Int)]).length) c581) rfl hH rfl rfl ?_)
 clear hH; intro w585 hH
 replace hH := hH.n10
 refine Nl (hH.sb (slc (slc (slk (slk (slc (slk (slk (slk sln))))))))) fun hS9 => gdn [(2, Pp b3 0), (5, Pp b11 0), (20, .slice A rs.length cap), (21, Ni rs.length), (22, Ni i)] <| bkN <| sw_next <| sw_region <| Gw0 1 55 ((i : Int) + 1) ((i + 1 : Nat) : Int) <| Go1 1 22 (Ni (i + 1)) <| Dd <| rnd_end (g := (i, rt, nm, vN, lN, nN, pN, x1, x2)) (i + 1, rt ++ [((exprM (rs.map Rv.rl) r.body.nd (msO lN nN)).1 : Int)], nm ++ [r.name], vo20, l21, kn22, pl23, (.slice A574 ((nm ++ [r.name]).length) c575), (.slice A580 ((rt ++ [((exprM (rs.map Rv.rl) r.body.nd (msO lN nN)).1 : Int)]).length) c581)) (by kernel_rfl) ?_ ?_
 replace hH := hH.fr3.fr3.fr3.fr8.fr8.fr8.fr8
 replace hH := (hH.sb (slk (slk (slk (slk (slk (slk (slk sln)))))))).n7
 · exact ⟨by rw [hks, rootsM_at hx, hS24, List.map_cons, List.append_assoc]; rfl, by rw [hnm, names_take hx], by rw [List.length_append, List.length_singleton]; omega, by omega, hE.1, by omega, hov26, hH⟩
 · show rs.length - (i + 1) < rs.length - i; omega
 refine st_buildS (e := 9) (zv := .string (bs [])) (m := 1) (bytes := 16) rfl rfl rfl (by kernel_rfl) (by kernel_rfl) rfl (cs := [.string (bs r.name)]) (by kernel_rfl) rfl hH ?_
 clear hH; intro b586 w587 hH
 replace hH := hH.n10
 refine Nl (hH.sb (slc (slc (slk (slk (slc (slk (slk (slk sln))))))))) fun hS9 => gdk [(2, Pp b3 0), (5, Pp b11 0), (20, .slice A rs.length cap), (21, Ni rs.length), (22, Ni i), (30, Pp b11 0), (31, Pp b11 0), (35, Pp b11 2), (39, .slice (some ⟨b586, 0, none⟩) 1 1), (44, Pp b11 3), (47, .slice (some ⟨b538, 0, none⟩) 1 1)] <| gd_st2 6 15 (by kernel_rfl) ?_ ?_
 refine st_q rfl rfl rfl (Lk 4 hH rfl rfl rfl) <| Nl hS9 fun hS9 => gdk [(2, Pp b3 0), (5, Pp b11 0), (20, .slice A rs.length cap), (21, Ni rs.length), (22, Ni i), (30, Pp b11 0), (31, Pp b11 0), (36, x1), (39, .slice (some ⟨b586, 0, none⟩) 1 1), (44, Pp b11 3), (47, .slice (some ⟨b538, 0, none⟩) 1 1)] <| gd_st2 10 15 (by kernel_rfl) ?_ ?_
 refine Apd (e := 9) (.string (bs [])) 1 16 0 rfl hH rfl rfl rfl (hH.row_reads 9 rfl) (by simp [Value.oneCell']) (by unfold maxLen; omega) (by omega) ?_
 clear hH; intro v588 w589 hH
 replace hH := hH.row_eq 0 (l' := (nm ++ [r.name]).length) (xs' := rowC sC (nm ++ [r.name])) rfl (by simp) (by rw [← rowC_app, rowC_one]; rfl)
 obtain ⟨A590, c591, rfl, hl592, hm593⟩ := hH.row_form 0 rfl
 replace hH := hH.n10
 refine Nl (hH.sb (slc (slc (slk (slk (slc (slk (slk (slk sln))))))))) fun hS9 => gdk [(2, Pp b3 0), (5, Pp b11 0), (20, .slice A rs.length cap), (21, Ni rs.length), (22, Ni i), (30, Pp b11 0), (31, Pp b11 0), (40, .slice A590 ((nm ++ [r.name]).length) c591), (44, Pp b11 3), (47, .slice (some ⟨b538, 0, none⟩) 1 1)] <| gds 15 (st_q rfl rfl rfl (Lk 4 hH rfl rfl rfl) ?_)
 refine Nl hS9 fun hS9 => gds 18 (Apd (e := 3) (.int .i64 0) 1 8 1 rfl hH rfl rfl rfl (hH.row_reads 8 rfl) (by simp [Value.oneCell']) (by unfold maxLen; omega) (by omega) ?_)
 clear hH; intro v594 w595 hH
 replace hH := hH.row_eq 1 (l' := (rt ++ [((exprM (rs.map Rv.rl) r.body.nd (msO lN nN)).1 : Int)]).length) (xs' := rowC iC (rt ++ [((exprM (rs.map Rv.rl) r.body.nd (msO lN nN)).1 : Int)])) rfl (by simp) (by rw [← rowC_app, rowC_one]; rfl)
 obtain ⟨A596, c597, rfl, hl598, hm599⟩ := hH.row_form 1 rfl
 replace hH := hH.n10
 refine Nl (hH.sb (slc (slc (slk (slk (slc (slk (slk (slk sln))))))))) fun hS9 => Gp1 3 [19,20,21] 51 (Pp b11 2) hS9 <| gds 22 (Ks 4 (.slice A590 ((nm ++ [r.name]).length) c591) rfl hH rfl rfl ?_)
 clear hH; intro w600 hH
 replace hH := hH.n10
 refine Nl (hH.sb (slc (slc (slk (slk (slc (slk (slk (slk sln))))))))) fun hS9 => Gp1 3 [23,24,25] 54 (Pp b11 3) hS9 <| gds 26 (Ks 4 (.slice A596 ((rt ++ [((exprM (rs.map Rv.rl) r.body.nd (msO lN nN)).1 : Int)]).length) c597) rfl hH rfl rfl ?_)
 clear hH; intro w601 hH
 replace hH := hH.n10
 refine Nl (hH.sb (slc (slc (slk (slk (slc (slk (slk (slk sln))))))))) fun hS9 => gdn [(2, Pp b3 0), (5, Pp b11 0), (20, .slice A rs.length cap), (21, Ni rs.length), (22, Ni i)] <| bkN <| sw_next <| sw_region <| Gw0 1 55 ((i : Int) + 1) ((i + 1 : Nat) : Int) <| Go1 1 22 (Ni (i + 1)) <| Dd <| rnd_end (g := (i, rt, nm, vN, lN, nN, pN, x1, x2)) (i + 1, rt ++ [((exprM (rs.map Rv.rl) r.body.nd (msO lN nN)).1 : Int)], nm ++ [r.name], vo20, l21, kn22, pl23, (.slice A590 ((nm ++ [r.name]).length) c591), (.slice A596 ((rt ++ [((exprM (rs.map Rv.rl) r.body.nd (msO lN nN)).1 : Int)]).length) c597)) (by kernel_rfl) ?_ ?_
 replace hH := hH.fr3.fr3.fr3.fr8.fr8.fr8.fr8
 replace hH := (hH.sb (slk (slk (slk (slk (slk (slk (slk sln)))))))).n7
 · exact ⟨by rw [hks, rootsM_at hx, hS24, List.map_cons, List.append_assoc]; rfl, by rw [hnm, names_take hx], by rw [List.length_append, List.length_singleton]; omega, by omega, hE.1, by omega, hov26, hH⟩
 · show rs.length - (i + 1) < rs.length - i; omega
 refine st_q rfl rfl rfl (Lk 4 hH rfl rfl rfl) <| Nl hS9 fun hS9 => gdk [(2, Pp b3 0), (5, Pp b11 0), (20, .slice A rs.length cap), (21, Ni rs.length), (22, Ni i), (30, Pp b11 0), (31, Pp b11 0), (36, x1), (39, .slice (some ⟨b586, 0, none⟩) 1 1), (45, x2), (47, .slice (some ⟨b538, 0, none⟩) 1 1)] <| gds 10 (Apd (e := 9) (.string (bs [])) 1 16 0 rfl hH rfl rfl rfl (hH.row_reads 9 rfl) (by simp [Value.oneCell']) (by unfold maxLen; omega) (by omega) ?_)
 clear hH; intro v602 w603 hH
 replace hH := hH.row_eq 0 (l' := (nm ++ [r.name]).length) (xs' := rowC sC (nm ++ [r.name])) rfl (by simp) (by rw [← rowC_app, rowC_one]; rfl)
 obtain ⟨A604, c605, rfl, hl606, hm607⟩ := hH.row_form 0 rfl
 replace hH := hH.n10
 refine Nl (hH.sb (slc (slc (slk (slk (slc (slk (slk (slk sln))))))))) fun hS9 => gds 18 (Apd (e := 3) (.int .i64 0) 1 8 1 rfl hH rfl rfl rfl (hH.row_reads 8 rfl) (by simp [Value.oneCell']) (by unfold maxLen; omega) (by omega) ?_)
 clear hH; intro v608 w609 hH
 replace hH := hH.row_eq 1 (l' := (rt ++ [((exprM (rs.map Rv.rl) r.body.nd (msO lN nN)).1 : Int)]).length) (xs' := rowC iC (rt ++ [((exprM (rs.map Rv.rl) r.body.nd (msO lN nN)).1 : Int)])) rfl (by simp) (by rw [← rowC_app, rowC_one]; rfl)
 obtain ⟨A610, c611, rfl, hl612, hm613⟩ := hH.row_form 1 rfl
 replace hH := hH.n10
 refine Nl (hH.sb (slc (slc (slk (slk (slc (slk (slk (slk sln))))))))) fun hS9 => Gp1 3 [19,20,21] 51 (Pp b11 2) hS9 <| gds 22 (Ks 4 (.slice A604 ((nm ++ [r.name]).length) c605) rfl hH rfl rfl ?_)
 clear hH; intro w614 hH
 replace hH := hH.n10
 refine Nl (hH.sb (slc (slc (slk (slk (slc (slk (slk (slk sln))))))))) fun hS9 => Gp1 3 [23,24,25] 54 (Pp b11 3) hS9 <| gds 26 (Ks 4 (.slice A610 ((rt ++ [((exprM (rs.map Rv.rl) r.body.nd (msO lN nN)).1 : Int)]).length) c611) rfl hH rfl rfl ?_)
 clear hH; intro w615 hH
 replace hH := hH.n10
 refine Nl (hH.sb (slc (slc (slk (slk (slc (slk (slk (slk sln))))))))) fun hS9 => gdn [(2, Pp b3 0), (5, Pp b11 0), (20, .slice A rs.length cap), (21, Ni rs.length), (22, Ni i)] <| bkN <| sw_next <| sw_region <| Gw0 1 55 ((i : Int) + 1) ((i + 1 : Nat) : Int) <| Go1 1 22 (Ni (i + 1)) <| Dd <| rnd_end (g := (i, rt, nm, vN, lN, nN, pN, x1, x2)) (i + 1, rt ++ [((exprM (rs.map Rv.rl) r.body.nd (msO lN nN)).1 : Int)], nm ++ [r.name], vo20, l21, kn22, pl23, (.slice A604 ((nm ++ [r.name]).length) c605), (.slice A610 ((rt ++ [((exprM (rs.map Rv.rl) r.body.nd (msO lN nN)).1 : Int)]).length) c611)) (by kernel_rfl) ?_ ?_
 replace hH := hH.fr3.fr3.fr3.fr8.fr8.fr8.fr8
 replace hH := (hH.sb (slk (slk (slk (slk (slk (slk (slk sln)))))))).n7
 · exact ⟨by rw [hks, rootsM_at hx, hS24, List.map_cons, List.append_assoc]; rfl, by rw [hnm, names_take hx], by rw [List.length_append, List.length_singleton]; omega, by omega, hE.1, by omega, hov26, hH⟩
 · show rs.length - (i + 1) < rs.length - i; omega
 refine st_q rfl rfl rfl (Lk 4 hH rfl rfl rfl) <| Nl hS9 fun hS9 => gdk [(2, Pp b3 0), (5, Pp b11 0), (20, .slice A rs.length cap), (21, Ni rs.length), (22, Ni i), (30, Pp b11 0), (31, Pp b11 0), (35, Pp b11 2), (39, .slice (some ⟨b586, 0, none⟩) 1 1), (45, x2), (47, .slice (some ⟨b538, 0, none⟩) 1 1)] <| gds 6 (st_q rfl rfl rfl (Lk 4 hH rfl rfl rfl) ?_)
 refine Nl hS9 fun hS9 => gds 10 (Apd (e := 9) (.string (bs [])) 1 16 0 rfl hH rfl rfl rfl (hH.row_reads 9 rfl) (by simp [Value.oneCell']) (by unfold maxLen; omega) (by omega) ?_)
 clear hH; intro v616 w617 hH
 replace hH := hH.row_eq 0 (l' := (nm ++ [r.name]).length) (xs' := rowC sC (nm ++ [r.name])) rfl (by simp) (by rw [← rowC_app, rowC_one]; rfl)
 obtain ⟨A618, c619, rfl, hl620, hm621⟩ := hH.row_form 0 rfl
 replace hH := hH.n10
 refine Nl (hH.sb (slc (slc (slk (slk (slc (slk (slk (slk sln))))))))) fun hS9 => gds 18 (Apd (e := 3) (.int .i64 0) 1 8 1 rfl hH rfl rfl rfl (hH.row_reads 8 rfl) (by simp [Value.oneCell']) (by unfold maxLen; omega) (by omega) ?_)
 clear hH; intro v622 w623 hH
 replace hH := hH.row_eq 1 (l' := (rt ++ [((exprM (rs.map Rv.rl) r.body.nd (msO lN nN)).1 : Int)]).length) (xs' := rowC iC (rt ++ [((exprM (rs.map Rv.rl) r.body.nd (msO lN nN)).1 : Int)])) rfl (by simp) (by rw [← rowC_app, rowC_one]; rfl)
 obtain ⟨A624, c625, rfl, hl626, hm627⟩ := hH.row_form 1 rfl
 replace hH := hH.n10
 refine Nl (hH.sb (slc (slc (slk (slk (slc (slk (slk (slk sln))))))))) fun hS9 => Gp1 3 [19,20,21] 51 (Pp b11 2) hS9 <| gds 22 (Ks 4 (.slice A618 ((nm ++ [r.name]).length) c619) rfl hH rfl rfl ?_)
 clear hH; intro w628 hH
 replace hH := hH.n10
 refine Nl (hH.sb (slc (slc (slk (slk (slc (slk (slk (slk sln))))))))) fun hS9 => Gp1 3 [23,24,25] 54 (Pp b11 3) hS9 <| gds 26 (Ks 4 (.slice A624 ((rt ++ [((exprM (rs.map Rv.rl) r.body.nd (msO lN nN)).1 : Int)]).length) c625) rfl hH rfl rfl ?_)
 clear hH; intro w629 hH
 replace hH := hH.n10
 refine Nl (hH.sb (slc (slc (slk (slk (slc (slk (slk (slk sln))))))))) fun hS9 => gdn [(2, Pp b3 0), (5, Pp b11 0), (20, .slice A rs.length cap), (21, Ni rs.length), (22, Ni i)] <| bkN <| sw_next <| sw_region <| Gw0 1 55 ((i : Int) + 1) ((i + 1 : Nat) : Int) <| Go1 1 22 (Ni (i + 1)) <| Dd <| rnd_end (g := (i, rt, nm, vN, lN, nN, pN, x1, x2)) (i + 1, rt ++ [((exprM (rs.map Rv.rl) r.body.nd (msO lN nN)).1 : Int)], nm ++ [r.name], vo20, l21, kn22, pl23, (.slice A618 ((nm ++ [r.name]).length) c619), (.slice A624 ((rt ++ [((exprM (rs.map Rv.rl) r.body.nd (msO lN nN)).1 : Int)]).length) c625)) (by kernel_rfl) ?_ ?_
 replace hH := hH.fr3.fr3.fr3.fr8.fr8.fr8.fr8
 replace hH := (hH.sb (slk (slk (slk (slk (slk (slk (slk sln)))))))).n7
 · exact ⟨by rw [hks, rootsM_at hx, hS24, List.map_cons, List.append_assoc]; rfl, by rw [hnm, names_take hx], by rw [List.length_append, List.length_singleton]; omega, by omega, hE.1, by omega, hov26, hH⟩
 · show rs.length - (i + 1) < rs.length - i; omega
 refine st_q rfl rfl rfl (Lk 4 hH rfl rfl rfl) <| Nl hS9 fun hS9 => gdk [(2, Pp b3 0), (5, Pp b11 0), (20, .slice A rs.length cap), (21, Ni rs.length), (22, Ni i), (30, Pp b11 0), (31, Pp b11 0), (35, Pp b11 2), (38, .string (bs r.name)), (45, x2), (47, .slice (some ⟨b538, 0, none⟩) 1 1)] <| gd_st2 6 9 (by kernel_rfl) ?_ ?_
 refine st_q rfl rfl rfl (Lk 4 hH rfl rfl rfl) <| Nl hS9 fun hS9 => gdk [(2, Pp b3 0), (5, Pp b11 0), (20, .slice A rs.length cap), (21, Ni rs.length), (22, Ni i), (30, Pp b11 0), (31, Pp b11 0), (36, x1), (38, .string (bs r.name)), (45, x2), (47, .slice (some ⟨b538, 0, none⟩) 1 1)] <| gds 9 (st_buildS (e := 9) (zv := .string (bs [])) (m := 1) (bytes := 16) rfl rfl rfl (by kernel_rfl) (by kernel_rfl) rfl (cs := [.string (bs r.name)]) (by kernel_rfl) rfl hH ?_)
 clear hH; intro b630 w631 hH
 replace hH := hH.n10
 refine Nl (hH.sb (slc (slc (slk (slk (slc (slk (slk (slk sln))))))))) fun hS9 => gds 10 (Apd (e := 9) (.string (bs [])) 1 16 0 rfl hH rfl rfl rfl (hH.row_reads 9 rfl) (by simp [Value.oneCell']) (by unfold maxLen; omega) (by omega) ?_)
 clear hH; intro v632 w633 hH
 replace hH := hH.row_eq 0 (l' := (nm ++ [r.name]).length) (xs' := rowC sC (nm ++ [r.name])) rfl (by simp) (by rw [← rowC_app, rowC_one]; rfl)
 obtain ⟨A634, c635, rfl, hl636, hm637⟩ := hH.row_form 0 rfl
 replace hH := hH.n10
 refine Nl (hH.sb (slc (slc (slk (slk (slc (slk (slk (slk sln))))))))) fun hS9 => gds 18 (Apd (e := 3) (.int .i64 0) 1 8 1 rfl hH rfl rfl rfl (hH.row_reads 8 rfl) (by simp [Value.oneCell']) (by unfold maxLen; omega) (by omega) ?_)
 clear hH; intro v638 w639 hH
 replace hH := hH.row_eq 1 (l' := (rt ++ [((exprM (rs.map Rv.rl) r.body.nd (msO lN nN)).1 : Int)]).length) (xs' := rowC iC (rt ++ [((exprM (rs.map Rv.rl) r.body.nd (msO lN nN)).1 : Int)])) rfl (by simp) (by rw [← rowC_app, rowC_one]; rfl)
 obtain ⟨A640, c641, rfl, hl642, hm643⟩ := hH.row_form 1 rfl
 replace hH := hH.n10
 refine Nl (hH.sb (slc (slc (slk (slk (slc (slk (slk (slk sln))))))))) fun hS9 => Gp1 3 [19,20,21] 51 (Pp b11 2) hS9 <| gds 22 (Ks 4 (.slice A634 ((nm ++ [r.name]).length) c635) rfl hH rfl rfl ?_)
 clear hH; intro w644 hH
 replace hH := hH.n10
 refine Nl (hH.sb (slc (slc (slk (slk (slc (slk (slk (slk sln))))))))) fun hS9 => Gp1 3 [23,24,25] 54 (Pp b11 3) hS9 <| gds 26 (Ks 4 (.slice A640 ((rt ++ [((exprM (rs.map Rv.rl) r.body.nd (msO lN nN)).1 : Int)]).length) c641) rfl hH rfl rfl ?_)
 clear hH; intro w645 hH
 replace hH := hH.n10
 refine Nl (hH.sb (slc (slc (slk (slk (slc (slk (slk (slk sln))))))))) fun hS9 => gdn [(2, Pp b3 0), (5, Pp b11 0), (20, .slice A rs.length cap), (21, Ni rs.length), (22, Ni i)] <| bkN <| sw_next <| sw_region <| Gw0 1 55 ((i : Int) + 1) ((i + 1 : Nat) : Int) <| Go1 1 22 (Ni (i + 1)) <| Dd <| rnd_end (g := (i, rt, nm, vN, lN, nN, pN, x1, x2)) (i + 1, rt ++ [((exprM (rs.map Rv.rl) r.body.nd (msO lN nN)).1 : Int)], nm ++ [r.name], vo20, l21, kn22, pl23, (.slice A634 ((nm ++ [r.name]).length) c635), (.slice A640 ((rt ++ [((exprM (rs.map Rv.rl) r.body.nd (msO lN nN)).1 : Int)]).length) c641)) (by kernel_rfl) ?_ ?_
 replace hH := hH.fr3.fr3.fr3.fr8.fr8.fr8.fr8
 replace hH := (hH.sb (slk (slk (slk (slk (slk (slk (slk sln)))))))).n7
 · exact ⟨by rw [hks, rootsM_at hx, hS24, List.map_cons, List.append_assoc]; rfl, by rw [hnm, names_take hx], by rw [List.length_append, List.length_singleton]; omega, by omega, hE.1, by omega, hov26, hH⟩
 · show rs.length - (i + 1) < rs.length - i; omega
 refine st_buildS (e := 9) (zv := .string (bs [])) (m := 1) (bytes := 16) rfl rfl rfl (by kernel_rfl) (by kernel_rfl) rfl (cs := [.string (bs r.name)]) (by kernel_rfl) rfl hH ?_
 clear hH; intro b646 w647 hH
 replace hH := hH.n10
 refine Nl (hH.sb (slc (slc (slk (slk (slc (slk (slk (slk sln))))))))) fun hS9 => gdk [(2, Pp b3 0), (5, Pp b11 0), (20, .slice A rs.length cap), (21, Ni rs.length), (22, Ni i), (30, Pp b11 0), (31, Pp b11 0), (35, Pp b11 2), (39, .slice (some ⟨b646, 0, none⟩) 1 1), (45, x2), (47, .slice (some ⟨b538, 0, none⟩) 1 1)] <| gds 6 (st_q rfl rfl rfl (Lk 4 hH rfl rfl rfl) ?_)
 refine Nl hS9 fun hS9 => gds 10 (Apd (e := 9) (.string (bs [])) 1 16 0 rfl hH rfl rfl rfl (hH.row_reads 9 rfl) (by simp [Value.oneCell']) (by unfold maxLen; omega) (by omega) ?_)
 clear hH; intro v648 w649 hH
 replace hH := hH.row_eq 0 (l' := (nm ++ [r.name]).length) (xs' := rowC sC (nm ++ [r.name])) rfl (by simp) (by rw [← rowC_app, rowC_one]; rfl)
 obtain ⟨A650, c651, rfl, hl652, hm653⟩ := hH.row_form 0 rfl
 replace hH := hH.n10
 refine Nl (hH.sb (slc (slc (slk (slk (slc (slk (slk (slk sln))))))))) fun hS9 => gds 18 (Apd (e := 3) (.int .i64 0) 1 8 1 rfl hH rfl rfl rfl (hH.row_reads 8 rfl) (by simp [Value.oneCell']) (by unfold maxLen; omega) (by omega) ?_)
 clear hH; intro v654 w655 hH
 replace hH := hH.row_eq 1 (l' := (rt ++ [((exprM (rs.map Rv.rl) r.body.nd (msO lN nN)).1 : Int)]).length) (xs' := rowC iC (rt ++ [((exprM (rs.map Rv.rl) r.body.nd (msO lN nN)).1 : Int)])) rfl (by simp) (by rw [← rowC_app, rowC_one]; rfl)
 obtain ⟨A656, c657, rfl, hl658, hm659⟩ := hH.row_form 1 rfl
 replace hH := hH.n10
 refine Nl (hH.sb (slc (slc (slk (slk (slc (slk (slk (slk sln))))))))) fun hS9 => Gp1 3 [19,20,21] 51 (Pp b11 2) hS9 <| gds 22 (Ks 4 (.slice A650 ((nm ++ [r.name]).length) c651) rfl hH rfl rfl ?_)
 clear hH; intro w660 hH
 replace hH := hH.n10
 refine Nl (hH.sb (slc (slc (slk (slk (slc (slk (slk (slk sln))))))))) fun hS9 => Gp1 3 [23,24,25] 54 (Pp b11 3) hS9 <| gds 26 (Ks 4 (.slice A656 ((rt ++ [((exprM (rs.map Rv.rl) r.body.nd (msO lN nN)).1 : Int)]).length) c657) rfl hH rfl rfl ?_)
 clear hH; intro w661 hH
 replace hH := hH.n10
 refine Nl (hH.sb (slc (slc (slk (slk (slc (slk (slk (slk sln))))))))) fun hS9 => gdn [(2, Pp b3 0), (5, Pp b11 0), (20, .slice A rs.length cap), (21, Ni rs.length), (22, Ni i)] <| bkN <| sw_next <| sw_region <| Gw0 1 55 ((i : Int) + 1) ((i + 1 : Nat) : Int) <| Go1 1 22 (Ni (i + 1)) <| Dd <| rnd_end (g := (i, rt, nm, vN, lN, nN, pN, x1, x2)) (i + 1, rt ++ [((exprM (rs.map Rv.rl) r.body.nd (msO lN nN)).1 : Int)], nm ++ [r.name], vo20, l21, kn22, pl23, (.slice A650 ((nm ++ [r.name]).length) c651), (.slice A656 ((rt ++ [((exprM (rs.map Rv.rl) r.body.nd (msO lN nN)).1 : Int)]).length) c657)) (by kernel_rfl) ?_ ?_
 replace hH := hH.fr3.fr3.fr3.fr8.fr8.fr8.fr8
 replace hH := (hH.sb (slk (slk (slk (slk (slk (slk (slk sln)))))))).n7
 · exact ⟨by rw [hks, rootsM_at hx, hS24, List.map_cons, List.append_assoc]; rfl, by rw [hnm, names_take hx], by rw [List.length_append, List.length_singleton]; omega, by omega, hE.1, by omega, hov26, hH⟩
 · show rs.length - (i + 1) < rs.length - i; omega
 refine sw_exit <| thX <| thX <| bkH <| sw_next <| sw_seq ?_
 have hk0 : ((mk0 (rs.map Rv.rl)).1.map Int.ofNat, (mk0 (rs.map Rv.rl)).2) = (rt, msO lN nN) := by rw [hks, List.drop_eq_nil_of_le (by omega)]; show (rt ++ [], _) = _; rw [List.append_nil]; rfl
 have hk1 : (mk0 (rs.map Rv.rl)).1.map Int.ofNat = rt := congrArg Prod.fst hk0
 have hk2 : (mk0 (rs.map Rv.rl)).2 = msO lN nN := congrArg Prod.snd hk0
 have hnl : nm = (rs.map Rv.rl).map (·.name) := by rw [hnm, List.take_of_length_le (by omega), List.map_map]; rfl
 obtain ⟨A662, c663, rfl, hl664, hm665⟩ := hH.row_form 1 rfl
 obtain ⟨A666, c667, rfl, hl668, hm669⟩ := hH.row_form 4 rfl
 obtain ⟨A670, c671, rfl, hl672, hm673⟩ := hH.row_form 5 rfl
 refine sw_sr <| Go1 4 59 (Pp b11 1) <| Gq rfl (Lk 0 hH rfl rfl rfl) <| Gq rfl (Ln (e := 45) rfl) <| Go1 1 62 (.bool (decide (((lN.length : Nat) : Int) > (200 : Int)))) <| Dn <| If rfl (fun hc3 => ?_) (fun hc3 => ?_)
 have hbig := hc3
 refine sw_sr <| Go2 2 63 (.agg #[.slice none 0 0, .slice none 0 0, .slice none 0 0]) 64 (.iface 50 (.int .i64 2)) <| gl_st (Ka 6 [.slice none 0 0, .slice none 0 0, .slice none 0 0] [.slice none 0 0, .slice none 0 0, .slice none 0 0] rfl hH rfl rfl ?_)
 clear hH; intro w674 hH
 exact Go1 1 3 (.iface 50 (.int .i64 2)) <| Dn <| sw_ret <| thR <| retC2 rfl (RS.cellA hH 6 (by kernel_rfl) rfl rfl (by kernel_rfl) [.slice none 0 0, .slice none 0 0, .slice none 0 0] rfl rfl) (RS.tmp rfl) <| mk_no (mk_big hgood (by rw [hk2]; show 200 < (lN.map Ov.o).length; rw [List.length_map]; omega)) (er_no 2 0 (hH.sb sln))
 have hbig := hc3
 refine Sk <| sw_sr <| Go1 3 67 (Pp b11 1) <| Gq rfl (La 0 [.slice A662 lN.length c663, .slice A666 nm.length c667, .slice A670 rt.length c671] hH rfl rfl) <| gl_st (Ka 6 [.slice A662 lN.length c663, .slice A666 nm.length c667, .slice A670 rt.length c671] [.slice A662 lN.length c663, .slice A666 nm.length c667, .slice A670 rt.length c671] rfl hH rfl rfl ?_)
 clear hH; intro w675 hH
 refine Go1 1 3 (.nilIface) <| Dn <| sw_ret <| retC2 rfl (RS.cellA hH 6 (by kernel_rfl) rfl rfl (by kernel_rfl) [.slice A662 lN.length c663, .slice A666 nm.length c667, .slice A670 rt.length c671] rfl rfl) (RS.tmp rfl) ?_
 replace hH := hH.fr4.fr6.fr6.fr5
 replace hH := (hH.sb (slk (slk (slk (slk sln))))).n4
 have hmk : makeF (rs.map Rv.rl) = (.nil, ⟨lN.map Ov.o, nm, rt⟩) := by rw [mk_ok hgood (by rw [hk2]; show ¬ 200 < (lN.map Ov.o).length; rw [List.length_map]; omega), hk1, hk2, hnl]
 rw [hmk]
 exact ⟨lN, A662, A666, A670, c663, c667, c671, pN, 0, rfl, rfl, hov, ((er_nil 0 hH).pick [1, 2, 3, 4, 0] rfl rfl).fresh⟩
end Go.Proofs.YtllfpnbhjfadiaaGreatDoor
/- The reference 11 (code): programs compared: what the functions answer; a law's count of nodes. -/
set_option maxRecDepth 100000
set_option maxHeartbeats 2000000
set_option linter.unusedVariables false
set_option linter.unusedSimpArgs false
namespace Go.Proofs.YtllfpnbhjfadiaaGreatDoor
open Go.RowKit Go.SW
/-- A program, and where it lies. -/
structure Pv where
  ops : List Ov
  names : List (List UInt8)
  roots : List Int
  A : Option Addr
  c : Nat
  B : Option Addr
  d : Nat
  E : Option Addr
  f : Nat
def Pv.pg (p : Pv) : Pg := ⟨p.ops.map Ov.o, p.names, p.roots⟩
def pvC (p : Pv) : List Value := [.slice p.A p.ops.length p.c, .slice p.B p.names.length p.d, .slice p.E p.roots.length p.f]
structure PvOk (c : Zone) (p : Pv) : Prop where
  ops : Row c (.slice p.A p.ops.length p.c) 7 p.ops.length (rowC opC p.ops)
  names : Row c (.slice p.B p.names.length p.d) 1 p.names.length (rowC sC p.names)
  roots : Row c (.slice p.E p.roots.length p.f) 1 p.roots.length (rowC iC p.roots)
  each : OvsOk c p.ops
theorem PvOk.mono {c c' : Zone} {p : Pv} (h : PvOk c p) (hc : c.le c') : PvOk c' p := ⟨h.ops.mono hc, h.names.mono hc, h.roots.mono hc, h.each.mono hc⟩
theorem row_small {c : Zone} {A : Option Addr} {n cap m : Nat} {xs : List Value} (h : Row c (.slice A n cap) m n xs) : n ≤ 9223372036854775807 := by
  obtain ⟨Ax, cx, hx9, hx1, hx2⟩ := h.form
  cases hx9
  have hml : maxLen ≤ 9223372036854775807 := by unfold maxLen; decide
  omega
theorem cl_beq (a b : Cl) : (((a.a : Int) == b.a) && (((a.b : Int) == b.b) && (((a.c : Int) == b.c) && ((a.d : Int) == b.d)))) = clB a b := by
  rw [Bool.eq_iff_iff]
  unfold clB
  simp only [Bool.and_eq_true, beq_iff_eq]
  omega
theorem map_at {l : List Ov} {i : Nat} {x : Ov} (h : l[i]? = some x) : (l.map Ov.o)[i]? = some x.o := by rw [List.getElem?_map, h]; rfl

theorem RRow_ct (la lb : List Int) (A B : Option Addr) (ca cb : Nat) (c : Zone) (w : World) (hc : c.le w.cell?) (ha : Row c (.slice A la.length ca) 1 la.length (rowC iC la)) (hb : Row c (.slice B lb.length cb) 1 lb.length (rowC iC lb)) :
    Fun Tryz.prog 32 [.slice A la.length ca, .slice B lb.length cb] w fun v w' => v = .bool (la == lb) ∧ Fresh w w' [] := by
 have hs1 := row_small ha
 have hs2 := row_small hb
 refine fun_of_sw Tryz.func32 rfl 26 rfl rfl ?_
 have hH := (Hp.start w).zsub hc
 refine sw_sr <| Go0 1 <| Dn <| sw_seq <| sw_sr <| Go1 1 6 (.slice A la.length ca) <| Gq rfl (Ln (e := 3) rfl) <| Go1 1 8 (.slice B lb.length cb) <| Gq rfl (Ln (e := 3) rfl) <| Go1 1 10 (.bool (((la.length : Nat) : Int) != ((lb.length : Nat) : Int))) <| Dn <| If rfl (fun hc1 => ?_) (fun hc1 => ?_)
 have hn : la.length ≠ lb.length := by have := hc1; omega
 refine sw_sr <| Go1 1 4 (.bool false) <| Dn <| Rt1 rfl rfl ?_
 exact ⟨by rw [beq_len hn], (hH.sb sln).fresh⟩
 have hn : la.length = lb.length := by have := hc1; omega
 refine Sk <| sw_seq <| sw_sr <| Go1 1 5 (.int .i64 0) <| Dn <| sw_block <| Lp (γ := Nat) hH (fun i => [(0, .slice A la.length ca), (1, .slice B lb.length cb), (5, Ni i)]) (fun i w_ H_ => ((la == lb) = (la.drop i == lb.drop i)) ∧ (i ≤ la.length) ∧ H_ []) (fun i => la.length - i) (0) ?_ ?_
 · exact ⟨rfl, Nat.zero_le _, hH⟩
 clear hH
 rintro i w1 ⟨hm, hi, hH⟩
 refine swk [(0, .slice A la.length ca), (1, .slice B lb.length cb), (5, Ni i)] <| sw_seq <| sw_sr <| Go2 2 11 (Ni i) 12 (.slice A la.length ca) <| Gq rfl (Ln (e := 3) rfl) <| Go1 1 14 (.bool (decide ((i : Int) < ((la.length : Nat) : Int)))) <| Dn <| If rfl (fun hc2 => ?_) (fun hc2 => ?_)
 refine Sk <| sw_seq <| sw_block <| sw_seq ?_
 obtain ⟨xa, hxa⟩ : ∃ z9, la[i]? = some z9 := ⟨_, List.getElem?_eq_getElem (by omega)⟩
 obtain ⟨xb, hxb⟩ : ∃ z9, lb[i]? = some z9 := ⟨_, List.getElem?_eq_getElem (by omega)⟩
 refine Dr hH sln ?_
 clear hH; intro w2 hH hS9
 obtain ⟨p3, hi5, hp4⟩ := ha.idx i (by omega) (by decide)
 refine Gp2 2 [0,1] 17 (.slice A la.length ca) 18 (Ni i) hS9 <| Dq 2 rfl (fun _ hS => (Ix (e := 3) 1 rfl rfl hi5)) hS9 <| Dq 3 rfl (fun _ hS => (rd_load (by kernel_rfl) rfl (hS.zin _ _ (hp4 0 _ (by decide) (rowC_at iC_len hxa 0 (by decide) rfl))))) hS9 ?_
 obtain ⟨p6, hi8, hp7⟩ := hb.idx i (by omega) (by decide)
 refine Gp2 2 [4,5] 21 (.slice B lb.length cb) 22 (Ni i) hS9 <| Dq 6 rfl (fun _ hS => (Ix (e := 3) 1 rfl rfl hi8)) hS9 <| Dq 7 rfl (fun _ hS => (rd_load (by kernel_rfl) rfl (hS.zin _ _ (hp7 0 _ (by decide) (rowC_at iC_len hxb 0 (by decide) rfl))))) hS9 <| Gp1 1 [8] 25 (.bool ((xa : Int) != (xb : Int))) hS9 <| gdn [(0, .slice A la.length ca), (1, .slice B lb.length cb), (5, Ni i), (25, .bool ((xa : Int) != (xb : Int)))] <| sw_next <| If rfl (fun hc3 => ?_) (fun hc3 => ?_)
 have hq : xa ≠ xb := by have := hc3; omega
 refine sw_sr <| Go1 1 4 (.bool false) <| Dn <| Rt1 rfl rfl ?_
 exact ⟨by rw [beq_no hm hxa hxb hq], (hH.sb sln).fresh⟩
 have hq : xa = xb := by have := hc3; omega
 refine sw_skip <| bkN <| sw_next <| sw_region <| Gw0 2 16 ((i : Int) + 1) ((i + 1 : Nat) : Int) <| Go1 1 5 (Ni (i + 1)) <| Dd <| rnd_end (g := (i)) (i + 1) (by kernel_rfl) ?_ ?_
 replace hH : Hp w w2 _ _ [] := (hH.sb sln)
 · exact ⟨beq_go hm hxa hxb hq, by omega, hH⟩
 · show la.length - (i + 1) < la.length - i; omega
 refine sw_exit <| thX <| thX <| bkH <| sw_next <| sw_sr <| Go1 1 4 (.bool true) <| Dn <| Rt1 rfl rfl ?_
 exact ⟨by rw [beq_end hm hn (by omega)], (hH.sb sln).fresh⟩
theorem RAlike_ct (xa xb : Ov) (c : Zone) (w : World) (hc : c.le w.cell?) (hxa : OvOk c xa) (hxb : OvOk c xb) :
    Fun Tryz.prog 33 [.agg (opC xa).toArray, .agg (opC xb).toArray] w fun v w' => v = .bool (alikeB xa.o xb.o) ∧ Fresh w w' [] := by
 have hs1 := row_small hxa.row
 have hs2 := row_small hxb.row
 refine fun_of_sw Tryz.func33 rfl 33 rfl rfl ?_
 have hH := (Hp.start w).zsub hc
 refine sw_sr <| gl_st (Bx [.int .i64 xa.o.k, .string (bs xa.o.t), .int .u64 ((xa.o.c.a : Nat) : Int), .int .u64 ((xa.o.c.b : Nat) : Int), .int .u64 ((xa.o.c.c : Nat) : Int), .int .u64 ((xa.o.c.d : Nat) : Int), .slice xa.A xa.o.s.length xa.cap] rfl hH ?_)
 clear hH; intro b1 w2 hH
 refine gl_st (Bx [.int .i64 xb.o.k, .string (bs xb.o.t), .int .u64 ((xb.o.c.a : Nat) : Int), .int .u64 ((xb.o.c.b : Nat) : Int), .int .u64 ((xb.o.c.c : Nat) : Int), .int .u64 ((xb.o.c.d : Nat) : Int), .slice xb.A xb.o.s.length xb.cap] rfl hH ?_)
 clear hH; intro b3 w4 hH
 refine Go0 1 <| Dn <| sw_sr <| Go1 1 6 (Pp b1 6) <| Gq rfl (Lk 0 hH rfl rfl rfl) <| Go1 1 8 (Pp b3 6) <| Gq rfl (Lk 1 hH rfl rfl rfl) <| gl_st (Sc rfl rfl (RRow_ct xa.o.s xb.o.s _ _ _ _ c _ hH.zin hxa.row hxb.row) ?_)
 rintro _ w5 ⟨rfl, hF6⟩
 replace hH := hH.call hF6
 refine Go1 1 5 (.bool (xa.o.s == xb.o.s)) <| Dn <| sw_sr <| Go1 1 11 (Pp b1 0) <| Gq rfl (Lk 0 hH rfl rfl rfl) <| Go1 1 13 (Pp b3 0) <| Gq rfl (Lk 1 hH rfl rfl rfl) <| Go1 2 16 (.bool ((xa.o.k : Int) == (xb.o.k : Int))) <| Gi 16 rfl (fun hg1 => ?_) (fun hg1 => ?_)
 have ga : (xa.o.k == xb.o.k) = true := by first | exact hg1 | simpa using hg1
 refine Go1 1 17 (Pp b1 1) <| Gq rfl (Lk 0 hH rfl rfl rfl) <| Go1 1 19 (Pp b3 1) <| Gq rfl (Lk 1 hH rfl rfl rfl) <| Gq rfl (rd_seql (by kernel_rfl) rfl rfl) <| Go1 2 23 (.bool (xa.o.t == xb.o.t)) <| Gi 23 rfl (fun hg2 => ?_) (fun hg2 => ?_)
 have gb : (xa.o.t == xb.o.t) = true := by first | exact hg2 | simpa using hg2
 refine Go1 1 24 (Pp b1 2) <| Gq rfl (La 0 [.int .u64 ((xa.o.c.a : Nat) : Int), .int .u64 ((xa.o.c.b : Nat) : Int), .int .u64 ((xa.o.c.c : Nat) : Int), .int .u64 ((xa.o.c.d : Nat) : Int)] hH rfl rfl) <| Go1 1 26 (Pp b3 2) <| Gq rfl (La 1 [.int .u64 ((xb.o.c.a : Nat) : Int), .int .u64 ((xb.o.c.b : Nat) : Int), .int .u64 ((xb.o.c.c : Nat) : Int), .int .u64 ((xb.o.c.d : Nat) : Int)] hH rfl rfl) <| Gq rfl (rd_arr4_eql (e := 36) (by kernel_rfl) (by kernel_rfl) (by kernel_rfl) (by kernel_rfl) (k0 := .u64) (by kernel_rfl) rfl rfl) <| Go1 2 30 (.bool (((((xa.o.c.a : Nat) : Int) : Int) == ((xb.o.c.a : Nat) : Int)) && (((((xa.o.c.b : Nat) : Int) : Int) == ((xb.o.c.b : Nat) : Int)) && (((((xa.o.c.c : Nat) : Int) : Int) == ((xb.o.c.c : Nat) : Int)) && ((((xa.o.c.d : Nat) : Int) : Int) == ((xb.o.c.d : Nat) : Int)))))) <| Gi 30 rfl (fun hg3 => ?_) (fun hg3 => ?_)
 have gc : clB xa.o.c xb.o.c = true := (cl_beq _ _).symm.trans hg3
 clear hg3
 refine Go1 3 4 (.bool (xa.o.s == xb.o.s)) <| Dn <| Rt1 rfl rfl ?_
 exact ⟨by unfold alikeB; first | rw [ga, gb, gc]; rfl | rw [ga, gb, gc]; simp | rw [ga, gb]; rfl | rw [ga]; rfl, (hH.sb sln).fresh⟩
 have gc : clB xa.o.c xb.o.c = false := (cl_beq _ _).symm.trans hg3
 clear hg3
 refine Go1 3 4 (.bool false) <| Dn <| Rt1 rfl rfl ?_
 exact ⟨by unfold alikeB; first | rw [ga, gb, gc]; rfl | rw [ga, gb, gc]; simp | rw [ga, gb]; rfl | rw [ga]; rfl, (hH.sb sln).fresh⟩
 have gb : (xa.o.t == xb.o.t) = false := by first | exact hg2 | simpa using hg2
 refine Go1 10 4 (.bool false) <| Dn <| Rt1 rfl rfl ?_
 exact ⟨by unfold alikeB; first | rw [ga, gb, gc]; rfl | rw [ga, gb, gc]; simp | rw [ga, gb]; rfl | rw [ga]; rfl, (hH.sb sln).fresh⟩
 have ga : (xa.o.k == xb.o.k) = false := by first | exact hg1 | simpa using hg1
 refine Go1 17 4 (.bool false) <| Dn <| Rt1 rfl rfl ?_
 exact ⟨by unfold alikeB; first | rw [ga, gb, gc]; rfl | rw [ga, gb, gc]; simp | rw [ga, gb]; rfl | rw [ga]; rfl, (hH.sb sln).fresh⟩
theorem pg_r {a b : Pg} (h : (a.roots == b.roots) = false) : pgB a b = false := by unfold pgB; rw [h]; rfl
theorem pg_n {a b : Pg} (h : (a.names == b.names) = false) : pgB a b = false := by unfold pgB; rw [h]; simp
theorem pg_o {a b : Pg} (h : (a.ops == b.ops) = false) : pgB a b = false := by unfold pgB; rw [h]; simp
theorem pg_y {a b : Pg} (h1 : (a.roots == b.roots) = true) (h2 : (a.names == b.names) = true) (h3 : (a.ops == b.ops) = true) : pgB a b = true := by unfold pgB; rw [h1, h2, h3]; rfl

theorem RSame_ct (p q : Pv) (c : Zone) (w : World) (hc : c.le w.cell?) (hp : PvOk c p) (hq : PvOk c q) :
    Fun Tryz.prog 12 [.agg (pvC p).toArray, .agg (pvC q).toArray] w fun v w' => v = .bool (pgB p.pg q.pg) ∧ Fresh w w' [] := by
 have hs1 := row_small hp.ops
 have hs2 := row_small hq.ops
 have hs3 := row_small hp.names
 have hs4 := row_small hq.names
 have hs5 := row_small hp.roots
 have hs6 := row_small hq.roots
 refine fun_of_sw Tryz.func12 rfl 72 rfl rfl ?_
 have hH := (Hp.start w).zsub hc
 refine sw_sr <| gl_st (Bx [.slice p.A p.ops.length p.c, .slice p.B p.names.length p.d, .slice p.E p.roots.length p.f] rfl hH ?_)
 clear hH; intro b1 w2 hH
 refine gl_st (Bx [.slice q.A q.ops.length q.c, .slice q.B q.names.length q.d, .slice q.E q.roots.length q.f] rfl hH ?_)
 clear hH; intro b3 w4 hH
 refine Go0 1 <| Dn <| sw_sr <| Go1 1 9 (Pp b1 2) <| Gq rfl (Lk 0 hH rfl rfl rfl) <| Go1 1 11 (Pp b3 2) <| Gq rfl (Lk 1 hH rfl rfl rfl) <| gl_st (Sc rfl rfl (RRow_ct p.roots q.roots _ _ _ _ c _ hH.zin hp.roots hq.roots) ?_)
 rintro _ w5 ⟨rfl, hF6⟩
 replace hH := hH.call hF6
 refine Go1 1 5 (.bool (p.roots == q.roots)) <| Dn <| sw_seq <| sw_sr <| Go1 3 16 (.bool (!(p.roots == q.roots))) <| Gi 16 rfl (fun hg1 => ?_) (fun hg1 => ?_)
 have hr : (p.roots == q.roots) = false := by simpa using hg1
 refine Go1 17 33 (.bool true) <| Dn <| It <| sw_sr <| Go1 1 4 (.bool false) <| Dn <| Rt1 rfl rfl ?_
 exact ⟨by rw [pg_r hr], (hH.sb sln).fresh⟩
 have hr : (p.roots == q.roots) = true := by simpa using hg1
 refine Go1 1 17 (Pp b1 1) <| Gq rfl (Lk 0 hH rfl rfl rfl) <| Gq rfl (Ln (e := 9) rfl) <| Go1 1 20 (Pp b3 1) <| Gq rfl (Lk 1 hH rfl rfl rfl) <| Gq rfl (Ln (e := 9) rfl) <| Go1 3 25 (.bool (((p.names.length : Nat) : Int) != ((q.names.length : Nat) : Int))) <| Gi 25 rfl (fun hg3 => ?_) (fun hg3 => ?_)
 have hnl : p.names.length ≠ q.names.length := by have := hg3; omega
 refine Go1 8 33 (.bool true) <| Dn <| It <| sw_sr <| Go1 1 4 (.bool false) <| Dn <| Rt1 rfl rfl ?_
 exact ⟨by rw [pg_n (beq_len hnl)], (hH.sb sln).fresh⟩
 have hnl : p.names.length = q.names.length := by have := hg3; omega
 refine Go1 1 26 (Pp b1 0) <| Gq rfl (Lk 0 hH rfl rfl rfl) <| Gq rfl (Ln (e := 45) rfl) <| Go1 1 29 (Pp b3 0) <| Gq rfl (Lk 1 hH rfl rfl rfl) <| Gq rfl (Ln (e := 45) rfl) <| Go1 2 33 (.bool (((p.ops.length : Nat) : Int) != ((q.ops.length : Nat) : Int))) <| Dn <| If rfl (fun hc5 => ?_) (fun hc5 => ?_)
 have hol : p.ops.length ≠ q.ops.length := by have := hc5; omega
 refine sw_sr <| Go1 1 4 (.bool false) <| Dn <| Rt1 rfl rfl ?_
 exact ⟨by rw [pg_o (beq_len (by show (p.ops.map Ov.o).length ≠ (q.ops.map Ov.o).length; rw [List.length_map, List.length_map]; exact hol))], (hH.sb sln).fresh⟩
 have hol : p.ops.length = q.ops.length := by have := hc5; omega
 refine Sk <| sw_seq <| sw_sr <| Go1 1 6 (.int .i64 0) <| Dn <| sw_block <| Lp (γ := Nat) hH (fun i => [(2, Pp b1 0), (3, Pp b3 0), (6, Ni i)]) (fun i w_ H_ => ((p.names == q.names) = (p.names.drop i == q.names.drop i)) ∧ (i ≤ p.names.length) ∧ H_ [.blk b1 30 [.slice p.A p.ops.length p.c, .slice p.B p.names.length p.d, .slice p.E p.roots.length p.f], .blk b3 30 [.slice q.A q.ops.length q.c, .slice q.B q.names.length q.d, .slice q.E q.roots.length q.f]]) (fun i => p.names.length - i) (0) ?_ ?_
 · exact ⟨rfl, Nat.zero_le _, hH⟩
 clear hH
 rintro i w7 ⟨hm, hi, hH⟩
 refine swk [(2, Pp b1 0), (3, Pp b3 0), (6, Ni i)] <| sw_seq <| sw_sr <| Go2 2 34 (Ni i) 35 (Pp b1 1) <| Gq rfl (Lk 0 hH rfl rfl rfl) <| Gq rfl (Ln (e := 9) rfl) <| Go1 1 38 (.bool (decide ((i : Int) < ((p.names.length : Nat) : Int)))) <| Dn <| If rfl (fun hc6 => ?_) (fun hc6 => ?_)
 refine Sk <| sw_seq <| sw_block <| sw_seq ?_
 obtain ⟨na, hna⟩ : ∃ z9, p.names[i]? = some z9 := ⟨_, List.getElem?_eq_getElem (by omega)⟩
 obtain ⟨nb, hnb⟩ : ∃ z9, q.names[i]? = some z9 := ⟨_, List.getElem?_eq_getElem (by omega)⟩
 refine Dr hH (slk (slk sln)) ?_
 clear hH; intro w8 hH hS9
 refine Gp1 1 [0] 41 (Pp b1 1) hS9 <| Dq 1 rfl (fun _ hS => (Lk 0 hS rfl rfl rfl)) hS9 ?_
 obtain ⟨p9, hi11, hp10⟩ := hp.names.idx i (by omega) (by decide)
 refine Gp1 1 [2] 43 (Ni i) hS9 <| Dq 3 rfl (fun _ hS => (Ix (e := 9) 1 rfl rfl hi11)) hS9 <| Dq 4 rfl (fun _ hS => (rd_load (by kernel_rfl) rfl (hS.zin _ _ (hp10 0 _ (by decide) (rowC_at sC_len hna 0 (by decide) rfl))))) hS9 <| Gp1 1 [5] 46 (Pp b3 1) hS9 <| Dq 6 rfl (fun _ hS => (Lk 1 hS rfl rfl rfl)) hS9 ?_
 obtain ⟨p12, hi14, hp13⟩ := hq.names.idx i (by omega) (by decide)
 refine Gp1 1 [7] 48 (Ni i) hS9 <| Dq 8 rfl (fun _ hS => (Ix (e := 9) 1 rfl rfl hi14)) hS9 <| Dq 9 rfl (fun _ hS => (rd_load (by kernel_rfl) rfl (hS.zin _ _ (hp13 0 _ (by decide) (rowC_at sC_len hnb 0 (by decide) rfl))))) hS9 <| Dq 10 rfl (fun _ hS => (rd_sneq (by kernel_rfl) rfl rfl)) hS9 <| gdn [(2, Pp b1 0), (3, Pp b3 0), (6, Ni i), (51, .bool (!(na == nb)))] <| sw_next <| If rfl (fun hc7 => ?_) (fun hc7 => ?_)
 have hx : na ≠ nb := hc7
 refine sw_sr <| Go1 1 4 (.bool false) <| Dn <| Rt1 rfl rfl ?_
 exact ⟨by rw [pg_n (beq_no hm hna hnb hx)], (hH.sb sln).fresh⟩
 have hx : na = nb := by simpa using hc7
 refine sw_skip <| bkN <| sw_next <| sw_region <| Gw0 2 40 ((i : Int) + 1) ((i + 1 : Nat) : Int) <| Go1 1 6 (Ni (i + 1)) <| Dd <| rnd_end (g := (i)) (i + 1) (by kernel_rfl) ?_ ?_
 replace hH := (hH.sb (slk (slk sln))).n2
 · exact ⟨beq_go hm hna hnb hx, by omega, hH⟩
 · show p.names.length - (i + 1) < p.names.length - i; omega
 refine sw_exit <| thX <| thX <| bkH <| sw_next <| sw_seq <| sw_sr <| Go1 1 7 (.int .i64 0) <| Dn <| sw_block ?_
 have hne : (p.names == q.names) = true := beq_end hm hnl (by omega)
 clear hm hi
 replace hH := (hH.sb (slk (slk sln))).n2
 refine Lp (γ := Nat) hH (fun j => [(2, Pp b1 0), (3, Pp b3 0), (7, Ni j)]) (fun j w_ H_ => ((p.ops.map Ov.o == q.ops.map Ov.o) = ((p.ops.map Ov.o).drop j == (q.ops.map Ov.o).drop j)) ∧ (j ≤ p.ops.length) ∧ H_ [.blk b1 30 [.slice p.A p.ops.length p.c, .slice p.B p.names.length p.d, .slice p.E p.roots.length p.f], .blk b3 30 [.slice q.A q.ops.length q.c, .slice q.B q.names.length q.d, .slice q.E q.roots.length q.f]]) (fun j => p.ops.length - j) (0) ?_ ?_
 · exact ⟨rfl, Nat.zero_le _, hH⟩
 clear hH
 rintro j w15 ⟨hm, hi, hH⟩
 refine swk [(2, Pp b1 0), (3, Pp b3 0), (7, Ni j)] <| sw_seq <| sw_sr <| Go2 2 52 (Ni j) 53 (Pp b1 0) <| Gq rfl (Lk 0 hH rfl rfl rfl) <| Gq rfl (Ln (e := 45) rfl) <| Go1 1 56 (.bool (decide ((j : Int) < ((p.ops.length : Nat) : Int)))) <| Dn <| If rfl (fun hc8 => ?_) (fun hc8 => ?_)
 refine Sk <| sw_seq <| sw_block <| sw_seq ?_
 obtain ⟨xa, hxa⟩ : ∃ z9, p.ops[j]? = some z9 := ⟨_, List.getElem?_eq_getElem (by omega)⟩
 obtain ⟨xb, hxb⟩ : ∃ z9, q.ops[j]? = some z9 := ⟨_, List.getElem?_eq_getElem (by omega)⟩
 refine Dr hH (slk (slk sln)) ?_
 clear hH; intro w16 hH hS9
 refine Gp1 1 [0] 59 (Pp b1 0) hS9 <| Dq 1 rfl (fun _ hS => (Lk 0 hS rfl rfl rfl)) hS9 ?_
 obtain ⟨p17, hi19, hp18⟩ := hp.ops.idx j (by omega) (by decide)
 refine Gp1 1 [2] 61 (Ni j) hS9 <| Dq 3 rfl (fun _ hS => (Ix (e := 45) 7 rfl rfl hi19)) hS9 <| Dq 4 rfl (fun _ hS => (rd_loadZA (by kernel_rfl) hS hp18 rfl 0 rfl [.int .i64 xa.o.k, .string (bs xa.o.t), .int .u64 ((xa.o.c.a : Nat) : Int), .int .u64 ((xa.o.c.b : Nat) : Int), .int .u64 ((xa.o.c.c : Nat) : Int), .int .u64 ((xa.o.c.d : Nat) : Int), .slice xa.A xa.o.s.length xa.cap] (by kernel_rfl) (rowC_all opC_len hxa 0 _ rfl))) hS9 <| Gp1 1 [5] 64 (Pp b3 0) hS9 <| Dq 6 rfl (fun _ hS => (Lk 1 hS rfl rfl rfl)) hS9 ?_
 obtain ⟨p20, hi22, hp21⟩ := hq.ops.idx j (by omega) (by decide)
 refine Gp1 1 [7] 66 (Ni j) hS9 <| Dq 8 rfl (fun _ hS => (Ix (e := 45) 7 rfl rfl hi22)) hS9 <| Dq 9 rfl (fun _ hS => (rd_loadZA (by kernel_rfl) hS hp21 rfl 0 rfl [.int .i64 xb.o.k, .string (bs xb.o.t), .int .u64 ((xb.o.c.a : Nat) : Int), .int .u64 ((xb.o.c.b : Nat) : Int), .int .u64 ((xb.o.c.c : Nat) : Int), .int .u64 ((xb.o.c.d : Nat) : Int), .slice xb.A xb.o.s.length xb.cap] (by kernel_rfl) (rowC_all opC_len hxb 0 _ rfl))) hS9 <| gds 10 (Sc rfl rfl (RAlike_ct xa xb c _ hH.zin (hp.each xa (List.mem_of_getElem? hxa)) (hq.each xb (List.mem_of_getElem? hxb))) ?_)
 rintro _ w23 ⟨rfl, hF24⟩
 replace hH := hH.call hF24
 refine Nl (hH.sb (slk (slk sln))) fun hS9 => Gp1 1 [11] 8 (.bool (alikeB xa.o xb.o)) hS9 <| gdn [(2, Pp b1 0), (3, Pp b3 0), (7, Ni j), (8, .bool (alikeB xa.o xb.o))] <| sw_next <| sw_sr <| Go1 2 71 (.bool (!(alikeB xa.o xb.o))) <| Dn <| If rfl (fun hc9 => ?_) (fun hc9 => ?_)
 have hx : xa.o ≠ xb.o := by have h9 := hc9; rw [alikeB_iff] at h9; simpa using h9
 refine sw_sr <| Go1 1 4 (.bool false) <| Dn <| Rt1 rfl rfl ?_
 exact ⟨by rw [pg_o (beq_no hm (map_at hxa) (map_at hxb) hx)], (hH.sb sln).fresh⟩
 have hx : xa.o = xb.o := by have h9 := hc9; rw [alikeB_iff] at h9; simpa using h9
 refine sw_skip <| bkN <| sw_next <| sw_region <| Gw0 2 58 ((j : Int) + 1) ((j + 1 : Nat) : Int) <| Go1 1 7 (Ni (j + 1)) <| Dd <| rnd_end (g := (j)) (j + 1) (by kernel_rfl) ?_ ?_
 replace hH := (hH.sb (slk (slk sln))).n2
 · exact ⟨beq_go hm (map_at hxa) (map_at hxb) hx, by omega, hH⟩
 · show p.ops.length - (j + 1) < p.ops.length - j; omega
 refine sw_exit <| thX <| thX <| bkH <| sw_next <| sw_sr <| Go1 1 4 (.bool true) <| Dn <| Rt1 rfl rfl ?_
 exact ⟨by rw [pg_y hr hne (beq_end hm (by show (p.ops.map Ov.o).length = (q.ops.map Ov.o).length; rw [List.length_map, List.length_map]; exact hol) (by show (p.ops.map Ov.o).length ≤ j; rw [List.length_map]; omega))], (hH.sb sln).fresh⟩
def NoC (t : Tv) : Prop := ∀ (c : Zone) (w : World), c.le w.cell? → TvOk c t → t.size ≤ 1099511627776 → Fun Tryz.prog 11 [.agg (tvC t).toArray] w fun v w' => v = .int .i64 ((t.size : Nat) : Int) ∧ Fresh w w' []
theorem Tv.sizes_take {s : List Tv} {i : Nat} {x : Tv} (h : s[i]? = some x) : Tv.sizes (s.take (i + 1)) = Tv.sizes (s.take i) + x.size := by
  have : ∀ (a : List Tv) (b : Tv), Tv.sizes (a ++ [b]) = Tv.sizes a + b.size := by
    intro a b
    induction a with
    | nil => simp [Tv.sizes]
    | cons y a ih => rw [List.cons_append, Tv.sizes, Tv.sizes, ih]; omega
  rw [List.take_add_one, h]
  exact this _ _
theorem Tv.sizes_le {s : List Tv} (i : Nat) : Tv.sizes (s.take i) ≤ Tv.sizes s := by
  induction s generalizing i with
  | nil => simp
  | cons r s ih =>
    cases i with
    | zero => exact Nat.zero_le _
    | succ i => rw [List.take_succ_cons, Tv.sizes, Tv.sizes]; have := ih i; omega

theorem Nodes_step (t : Tv) (IH : ∀ x ∈ t.subs, NoC x) : NoC t := by
 intro c w hc hok hb
 have hss := Tv.size_subs t
 have hs1 := row_small hok.row
 refine fun_of_sw Tryz.func11 rfl 21 rfl rfl ?_
 have hH := (Hp.start w).zsub hc
 refine sw_sr <| gl_st (Bx [.int .i64 t.kind, .string (bs t.text), .int .u64 ((t.cl.a : Nat) : Int), .int .u64 ((t.cl.b : Nat) : Int), .int .u64 ((t.cl.c : Nat) : Int), .int .u64 ((t.cl.d : Nat) : Int), .slice t.A t.subs.length t.cap, .int .i64 t.pos] rfl hH ?_)
 clear hH; intro b1 w2 hH
 refine Go0 1 <| Dn <| sw_sr <| Go1 1 3 (.int .i64 1) <| Dn <| sw_seq <| sw_sr <| Go1 1 4 (.int .i64 0) <| Dn <| sw_block ?_
 replace hH := (hH.sb (slk sln)).n1
 refine Lp (γ := Nat) hH (fun i => [(1, Pp b1 0), (3, Ni (1 + Tv.sizes (t.subs.take i))), (4, Ni i)]) (fun i w_ H_ => (i ≤ t.subs.length) ∧ H_ [.blk b1 41 [.int .i64 t.kind, .string (bs t.text), .int .u64 ((t.cl.a : Nat) : Int), .int .u64 ((t.cl.b : Nat) : Int), .int .u64 ((t.cl.c : Nat) : Int), .int .u64 ((t.cl.d : Nat) : Int), .slice t.A t.subs.length t.cap, .int .i64 t.pos]]) (fun i => t.subs.length - i) (0) ?_ ?_
 · exact ⟨Nat.zero_le _, hH⟩
 clear hH
 rintro i w3 ⟨hi, hH⟩
 refine swk [(1, Pp b1 0), (3, Ni (1 + Tv.sizes (t.subs.take i))), (4, Ni i)] <| sw_seq <| sw_sr <| Go2 2 5 (Ni i) 6 (Pp b1 6) <| Gq rfl (Lk 0 hH rfl rfl rfl) <| Gq rfl (Ln (e := 41) rfl) <| Go1 1 9 (.bool (decide ((i : Int) < ((t.subs.length : Nat) : Int)))) <| Dn <| If rfl (fun hc1 => ?_) (fun hc1 => ?_)
 refine Sk <| sw_seq <| sw_block ?_
 obtain ⟨x, hx⟩ : ∃ x, t.subs[i]? = some x := ⟨_, List.getElem?_eq_getElem (by omega)⟩
 have hxm := List.mem_of_getElem? hx
 have hsq := Tv.sizes_take hx
 have hsr := Tv.sizes_le (s := t.subs) (i + 1)
 refine sw_region <| Go2 2 12 (Ni (1 + Tv.sizes (t.subs.take i))) 13 (Pp b1 6) <| Gq rfl (Lk 0 hH rfl rfl rfl) ?_
 obtain ⟨p4, hi6, hp5⟩ := hok.row.idx i (by omega) (by decide)
 refine Go1 1 15 (Ni i) <| Gq rfl (Ix (e := 41) 8 rfl rfl hi6) <| Gq rfl (rd_loadZA (by kernel_rfl) hH hp5 rfl 0 rfl [.int .i64 x.kind, .string (bs x.text), .int .u64 ((x.cl.a : Nat) : Int), .int .u64 ((x.cl.b : Nat) : Int), .int .u64 ((x.cl.c : Nat) : Int), .int .u64 ((x.cl.d : Nat) : Int), .slice x.A x.subs.length x.cap, .int .i64 x.pos] (by kernel_rfl) (rowC_all tvC_len hx 0 _ rfl)) <| gl_st (Sc rfl rfl (IH x hxm c _ hH.zin (hok.subs x hxm) (by omega)) ?_)
 rintro _ w7 ⟨rfl, hF8⟩
 replace hH := hH.call hF8
 refine Gw0 1 19 (((1 + Tv.sizes (t.subs.take i) : Nat) : Int) + ((x.size : Nat) : Int)) (((1 + Tv.sizes (t.subs.take i)) + x.size : Nat) : Int) <| gl_cv 19 (Ni (1 + Tv.sizes (t.subs.take (i + 1)))) (by rw [hsq]; congr 1; omega) rfl <| Go1 1 3 (Ni (1 + Tv.sizes (t.subs.take (i + 1)))) <| Dd <| bkN <| sw_next <| sw_region <| Gw0 2 11 ((i : Int) + 1) ((i + 1 : Nat) : Int) <| Go1 1 4 (Ni (i + 1)) <| Dd <| rnd_end (g := (i)) (i + 1) (by kernel_rfl) ?_ ?_
 replace hH := (hH.sb (slk sln)).n1
 · exact ⟨by omega, hH⟩
 · show t.subs.length - (i + 1) < t.subs.length - i; omega
 refine sw_exit <| thX <| thX <| bkH <| sw_next <| sw_sr <| Go1 2 2 (Ni (1 + Tv.sizes (t.subs.take i))) <| Dn <| Rt1 rfl rfl ?_
 have hie : i = t.subs.length := by omega
 subst hie
 exact ⟨by rw [List.take_length, hss, Nat.add_comm], (hH.sb sln).fresh⟩
theorem Nodes_ct (t : Tv) : NoC t := Tv.ind (P := NoC) Nodes_step t

end Go.Proofs.YtllfpnbhjfadiaaGreatDoor
/- The law CodeMore: one more rule behind the others changes nothing of theirs. Plain mathematics. -/
set_option linter.unusedVariables false
namespace Go.Proofs.YtllfpnbhjfadiaaGreatDoor
open Go.RowKit Go.SW
theorem findF_app {t : List UInt8} {rs l : List Rl} (h : 0 ≤ findF t rs) : findF t (rs ++ l) = findF t rs := by
  unfold findF at h ⊢
  by_cases ha : (rs.any fun r => r.name == t) = true
  · rw [if_pos ha, List.any_append, ha, Bool.true_or, if_pos rfl, List.findIdx_append]
    have := List.findIdx_lt_length_of_exists (p := fun r : Rl => r.name == t) (xs := rs) (by simpa using ha)
    rw [if_pos this]
  · rw [if_neg ha] at h; omega
def ExM (rs l : List Rl) (n : Nd) : Prop := ∀ S : Ms, KnB rs n → exprM (rs ++ l) n S = exprM rs n S
theorem kids_M {rs l : List Rl} : ∀ (s : List Nd) (S : Ms), (∀ x ∈ s, ExM rs l x) → (∀ x ∈ s, KnB rs x) → kidsM (rs ++ l) s S = kidsM rs s S
  | [], S, H, K => by rw [kidsM, kidsM]
  | x :: s, S, H, K => by
    rw [kidsM, kidsM, H x (List.mem_cons_self ..) S (K x (List.mem_cons_self ..)), kids_M s _ (fun y hy => H y (List.mem_cons_of_mem x hy)) (fun y hy => K y (List.mem_cons_of_mem x hy))]
theorem ex_M (rs l : List Rl) (n : Nd) : ExM rs l n := by
  suffices ∀ N, ∀ n : Nd, n.size ≤ N → ExM rs l n from this _ n (Nat.le_refl _)
  intro N
  induction N with
  | zero => intro n hn; cases n; rw [Nd.size] at hn; omega
  | succ N ih =>
    intro n hn
    cases n with
    | mk k t c s p =>
      rw [Nd.size] at hn
      intro S hK
      obtain ⟨h1, h2⟩ := knb_parts hK
      rw [exprM, exprM, kids_M s S (fun x hx => ih x (by have := Nd.size_mem hx; omega)) h1]
      congr 1
      unfold opM
      by_cases e : k = 5
      · rw [if_pos e, if_pos e, findF_app (h2 e).1]
      · rw [if_neg e, if_neg e]
theorem roots_M {rs l : List Rl} : ∀ (q : List Rl) (S : Ms), (∀ r ∈ q, KnB rs r.body) → rootsM (rs ++ l) q S = rootsM rs q S
  | [], S, K => by rw [rootsM, rootsM]
  | r :: q, S, K => by
    rw [rootsM, rootsM, ex_M rs l r.body S (K r (List.mem_cons_self ..)), roots_M q _ fun y hy => K y (List.mem_cons_of_mem r hy)]
theorem roots_app {g : List Rl} : ∀ (a b : List Rl) (S : Ms), rootsM g (a ++ b) S = ((rootsM g a S).1 ++ (rootsM g b (rootsM g a S).2).1, (rootsM g b (rootsM g a S).2).2)
  | [], b, S => by rw [rootsM]; rfl
  | r :: a, b, S => by rw [List.cons_append, rootsM, rootsM, roots_app a b]; rfl
theorem add_pre (o : Op) (S : Ms) : S.ops <+: (addM o S).2.ops := by
  unfold addM
  split
  · exact List.prefix_refl _
  · exact List.prefix_append _ _
def ExR (g : List Rl) (n : Nd) : Prop := ∀ S : Ms, S.ops <+: (exprM g n S).2.ops
theorem kids_pre {g : List Rl} : ∀ (s : List Nd) (S : Ms), (∀ x ∈ s, ExR g x) → S.ops <+: (kidsM g s S).2.ops
  | [], S, H => by rw [kidsM]; exact List.prefix_refl _
  | x :: s, S, H => by
    rw [kidsM]
    exact (H x (List.mem_cons_self ..) S).trans (kids_pre s _ fun y hy => H y (List.mem_cons_of_mem x hy))
theorem ex_pre (g : List Rl) (n : Nd) : ExR g n := by
  suffices ∀ N, ∀ n : Nd, n.size ≤ N → ExR g n from this _ n (Nat.le_refl _)
  intro N
  induction N with
  | zero => intro n hn; cases n; rw [Nd.size] at hn; omega
  | succ N ih =>
    intro n hn
    cases n with
    | mk k t c s p =>
      rw [Nd.size] at hn
      intro S
      rw [exprM]
      exact (kids_pre s S fun x hx => ih x (by have := Nd.size_mem hx; omega)).trans (add_pre _ _)
theorem roots_pre {g : List Rl} : ∀ (l : List Rl) (S : Ms), S.ops <+: (rootsM g l S).2.ops
  | [], S => by rw [rootsM]; exact List.prefix_refl _
  | r :: l, S => by rw [rootsM]; exact (ex_pre g r.body S).trans (roots_pre l _)
theorem mk0_more {rs : List Rl} (r : Rl) (h : (soundF rs).isNil = true) : (mk0 rs).2.ops <+: (mk0 (rs ++ [r])).2.ops ∧ ∃ k, (mk0 (rs ++ [r])).1 = (mk0 rs).1 ++ [k] := by
  have e : rootsM (rs ++ [r]) rs ⟨[], []⟩ = mk0 rs := roots_M rs _ (known_all h)
  have e2 : mk0 (rs ++ [r]) = _ := roots_app (g := rs ++ [r]) rs [r] ⟨[], []⟩
  rw [e2, e]
  refine ⟨roots_pre _ _, ?_⟩
  rw [rootsM, rootsM]
  exact ⟨_, rfl⟩
theorem pre_at {α : Type} {l m : List α} {i : Nat} {x y : α} (h : l <+: m) (hx : l[i]? = some x) (hy : m[i]? = some y) : y = x := by
  obtain ⟨q, rfl⟩ := h
  rw [List.getElem?_append_left (List.getElem?_eq_some_iff.1 hx).1, hx] at hy
  exact (Option.some.inj hy).symm
end Go.Proofs.YtllfpnbhjfadiaaGreatDoor
/- What the rows of the laws 11 list: Go's tables; a world that meets it; how grammars and expressions among a law's arguments are opened. -/
set_option linter.unusedVariables false
set_option maxRecDepth 1000000
namespace Go.Proofs.YtllfpnbhjfadiaaGreatDoor
open Go.ChangeShapes Go.WideShapes Go.RowKit Go.SW
def numsD : DataW Unit → List Nat
  | .slice es _ => es.map fun d => match d with | .lit (.int _ n) => n.toNat | _ => 0
  | _ => []
def cellsD : DataW Unit → Array Value
  | .agg ps => (ps.map fun d => match d with | .lit (.int k n) => Value.int k n | _ => .nilIface).toArray
  | _ => #[]
theorem grD : Go.Pinned.isGraphic = Lib.sliceData .u16 (numsD Go.Pinned.isGraphic) := by kernel_rfl
theorem p16D : Go.Pinned.isPrint16 = Lib.sliceData .u16 Lib.goPrintTabs.p16 := by kernel_rfl
theorem n16D : Go.Pinned.isNotPrint16 = Lib.sliceData .u16 Lib.goPrintTabs.n16 := by kernel_rfl
theorem p32D : Go.Pinned.isPrint32 = Lib.sliceData .u32 Lib.goPrintTabs.p32 := by kernel_rfl
theorem n32D : Go.Pinned.isNotPrint32 = Lib.sliceData .u16 Lib.goPrintTabs.n32 := by kernel_rfl
theorem fstD : Go.Pinned.utf8First = Lib.firstData := by kernel_rfl
theorem accD : (Rows.laid_unicode_utf8_acceptRanges : DataW Unit) = Lib.acceptData := by kernel_rfl
theorem powD : (Rows.laid_internal_strconv_uint64pow10 : DataW Unit) = Lib.tabData .u64 Lib.pow10Tab := by kernel_rfl
def dataC : List (String × DataW Unit) := [("math/bits.deBruijn32tab", Rows.laid_math_bits_deBruijn32tab), ("math/bits.deBruijn64tab", Rows.laid_math_bits_deBruijn64tab), ("internal/strconv.uint64pow10", Rows.laid_internal_strconv_uint64pow10), ("unicode/utf8.acceptRanges", Rows.laid_unicode_utf8_acceptRanges),
  ("strconv.isGraphic", Rows.laid_strconv_isGraphic), ("strconv.isNotPrint16", Rows.laid_strconv_isNotPrint16), ("strconv.isNotPrint32", Rows.laid_strconv_isNotPrint32), ("strconv.isPrint16", Rows.laid_strconv_isPrint16), ("strconv.isPrint32", Rows.laid_strconv_isPrint32), ("unicode/utf8.first", Rows.laid_unicode_utf8_first)]
def laidC : List (String × DataW Unit) := [("math/bits.deBruijn32tab", Rows.laid_math_bits_deBruijn32tab), ("math/bits.deBruijn64tab", Rows.laid_math_bits_deBruijn64tab), ("internal/strconv.uint64pow10", Rows.laid_internal_strconv_uint64pow10), ("unicode/utf8.acceptRanges", Rows.laid_unicode_utf8_acceptRanges), ("errors.errorType", Rows.laid_errors_errorType),
  ("strconv.isGraphic", Rows.laid_strconv_isGraphic), ("strconv.isNotPrint16", Rows.laid_strconv_isNotPrint16), ("strconv.isNotPrint32", Rows.laid_strconv_isNotPrint32), ("strconv.isPrint16", Rows.laid_strconv_isPrint16), ("strconv.isPrint32", Rows.laid_strconv_isPrint32), ("unicode/utf8.first", Rows.laid_unicode_utf8_first)]
theorem laidC_parts {W : World} (h : laidMetH Tryz.prog laidC W) : laidMet Tryz.prog dataC W ∧ handlesMet Tryz.prog laidL W := h
theorem handle_of_laidC {W : World} (h : laidMetH Tryz.prog laidC W) : W.cell? ⟨0, 0, none⟩ = some errTy :=
  handle_of_laid ⟨laidMet_nil _ _, (laidC_parts h).2⟩
noncomputable abbrev N0 : Nat := (World.settled Tryz.prog default).heap.size
def putC (h : Array Obj) (g : Nat) (cs : Array Value) : Array Obj := h.modify g fun
  | .cells _ t frozen => .cells cs t frozen
  | o => o
noncomputable def laidWorldC (os : Os) : World :=
  let N := (World.settled Tryz.prog os).heap.size
  let T := Lib.goPrintTabs
  let gr := numsD Go.Pinned.isGraphic
  let w0 := World.holding Tryz.prog os ⟨#[.cells (Lib.intCellsOf .u16 T.p16) 346, .cells (Lib.intCellsOf .u16 T.n16) 346, .cells (Lib.intCellsOf .u32 T.p32) 261, .cells (Lib.intCellsOf .u16 T.n32) 346, .cells (Lib.intCellsOf .u16 gr) 346], #[], []⟩
  let h0 := putC (putC (putC (putC w0.heap 0 #[errTy]) 2 (cellsD Rows.laid_internal_strconv_uint64pow10)) 10 (cellsD Rows.laid_math_bits_deBruijn32tab)) 11 (cellsD Rows.laid_math_bits_deBruijn64tab)
  let h1 := putC h0 3 (Lib.firstTab.map fun z => Value.int .u8 z).toArray
  let h2 := putC h1 4 ((List.range 16).flatMap fun i => [Value.int .u8 (Lib.accLo i), Value.int .u8 (Lib.accHi i)]).toArray
  let h3 := putC h2 5 #[.slice (some ⟨N, 0, none⟩) T.p16.length T.p16.length]
  let h4 := putC h3 6 #[.slice (some ⟨N + 1, 0, none⟩) T.n16.length T.n16.length]
  let h5 := putC h4 7 #[.slice (some ⟨N + 2, 0, none⟩) T.p32.length T.p32.length]
  let h6 := putC h5 8 #[.slice (some ⟨N + 3, 0, none⟩) T.n32.length T.n32.length]
  let h7 := putC h6 9 #[.slice (some ⟨N + 4, 0, none⟩) gr.length gr.length]
  { w0 with heap := h7 }
noncomputable abbrev memL (os : Os) (args : Array Value) : World := ((laidWorldC os).forCall (fun _ _ => 0) ⟨#[], args, []⟩).memory
theorem pieceA (os : Os) (args : Array Value) : LaidIn Tryz.prog (memL os args) [("math/bits.deBruijn32tab", Rows.laid_math_bits_deBruijn32tab), ("math/bits.deBruijn64tab", Rows.laid_math_bits_deBruijn64tab), ("internal/strconv.uint64pow10", Rows.laid_internal_strconv_uint64pow10), ("unicode/utf8.acceptRanges", Rows.laid_unicode_utf8_acceptRanges)] [10, 11, 2, 4] :=
  LaidIn.of_run [10, 11, 2, 4] 8 (by kernel_rfl) (by kernel_rfl) (by kernel_rfl) (by kernel_rfl)
theorem pieceB (os : Os) (args : Array Value) : LaidIn Tryz.prog (memL os args) [("unicode/utf8.first", Lib.firstData)] [3] :=
  LaidIn.of_run [3] 8 (by kernel_rfl) (by kernel_rfl) (by kernel_rfl) (by kernel_rfl)
theorem piece9 (os : Os) (args : Array Value) : LaidIn Tryz.prog (memL os args) [("strconv.isGraphic", Lib.sliceData .u16 (numsD Go.Pinned.isGraphic))] [9, N0 + 4] :=
  Lib.laidIn_slice (t := 347) (e := 346) (te := 346) (numsD Go.Pinned.isGraphic) (N0 + 4) (by kernel_rfl) (by kernel_rfl) (by kernel_rfl) (by kernel_rfl) (by kernel_rfl) (by kernel_rfl) (by kernel_rfl) (by kernel_rfl) (of_decide_eq_true (by kernel_rfl)) (of_decide_eq_true (by kernel_rfl))
theorem piece5 (os : Os) (args : Array Value) : LaidIn Tryz.prog (memL os args) [("strconv.isPrint16", Lib.sliceData .u16 Lib.goPrintTabs.p16)] [5, N0] :=
  Lib.laidIn_slice (t := 347) (e := 346) (te := 346) Lib.goPrintTabs.p16 N0 (by kernel_rfl) (by kernel_rfl) (by kernel_rfl) (by kernel_rfl) (by kernel_rfl) (by kernel_rfl) (by kernel_rfl) (by kernel_rfl) (of_decide_eq_true (by kernel_rfl)) (of_decide_eq_true (by kernel_rfl))
theorem piece6 (os : Os) (args : Array Value) : LaidIn Tryz.prog (memL os args) [("strconv.isNotPrint16", Lib.sliceData .u16 Lib.goPrintTabs.n16)] [6, N0 + 1] :=
  Lib.laidIn_slice (t := 347) (e := 346) (te := 346) Lib.goPrintTabs.n16 (N0 + 1) (by kernel_rfl) (by kernel_rfl) (by kernel_rfl) (by kernel_rfl) (by kernel_rfl) (by kernel_rfl) (by kernel_rfl) (by kernel_rfl) (of_decide_eq_true (by kernel_rfl)) (of_decide_eq_true (by kernel_rfl))
theorem piece7 (os : Os) (args : Array Value) : LaidIn Tryz.prog (memL os args) [("strconv.isPrint32", Lib.sliceData .u32 Lib.goPrintTabs.p32)] [7, N0 + 2] :=
  Lib.laidIn_slice (t := 349) (e := 261) (te := 261) Lib.goPrintTabs.p32 (N0 + 2) (by kernel_rfl) (by kernel_rfl) (by kernel_rfl) (by kernel_rfl) (by kernel_rfl) (by kernel_rfl) (by kernel_rfl) (by kernel_rfl) (of_decide_eq_true (by kernel_rfl)) (of_decide_eq_true (by kernel_rfl))
theorem piece8 (os : Os) (args : Array Value) : LaidIn Tryz.prog (memL os args) [("strconv.isNotPrint32", Lib.sliceData .u16 Lib.goPrintTabs.n32)] [8, N0 + 3] :=
  Lib.laidIn_slice (t := 347) (e := 346) (te := 346) Lib.goPrintTabs.n32 (N0 + 3) (by kernel_rfl) (by kernel_rfl) (by kernel_rfl) (by kernel_rfl) (by kernel_rfl) (by kernel_rfl) (by kernel_rfl) (by kernel_rfl) (of_decide_eq_true (by kernel_rfl)) (of_decide_eq_true (by kernel_rfl))
theorem dataC_met (os : Os) (args : Array Value) : laidMet Tryz.prog dataC (memL os args) := by
  have h := ((((((pieceA os args).append (piece9 os args) (by kernel_rfl)).append (piece6 os args) (by kernel_rfl)).append (piece8 os args) (by kernel_rfl)).append (piece5 os args) (by kernel_rfl)).append (piece7 os args) (by kernel_rfl)).append (pieceB os args) (by kernel_rfl)
  rw [← grD, ← p16D, ← n16D, ← p32D, ← n32D, ← fstD] at h
  exact h.met
theorem laidWorldC_met (os : Os) (args : Array Value) : laidMetH Tryz.prog laidC (memL os args) :=
  laidMetH_of_parts (dataC_met os args) (by kernel_rfl)
def renC : Go.Shelf.Ren := ⟨fun n => n, fun | 5 => 5 | 119 => 342 | 138 => 344 | 139 => 345 | n => n, fun n => n⟩
theorem tabs_ofC {W : World} (h : laidMetH Tryz.prog laidC W) : TabW W ∧ TbC W.cell? := by
  have hd := (laidC_parts h).1
  have hm : ∀ {x : String × DataW Unit}, x ∈ dataC → Lib.VarReads Tryz.prog W x.1 x.2 := fun hx => Lib.laidMet.reads hd hx
  have hpow : TabW W := by
    obtain ⟨ps, hl, hn, hc⟩ := hd
    obtain ⟨g, t, cs, fuel, p, q, _, _, _, _, hq, rfl⟩ := hl
    obtain ⟨g, t, cs, fuel, p2, q2, _, _, _, _, hq, rfl⟩ := hq
    have h2 : laidMet Tryz.prog (("internal/strconv.uint64pow10", Lib.tabData .u64 Lib.pow10Tab) :: dataC.drop 3) W := by
      rw [← powD]
      exact ⟨q2, hq, (List.nodup_append.1 (List.nodup_append.1 hn).2.1).2.1, fun b off hb => hc b off (List.mem_append_right _ (List.mem_append_right _ hb))⟩
    exact Lib.tabIs_of_head (t := 328) (e := 36) (n := 20) tabP (by kernel_rfl) (by kernel_rfl) (by kernel_rfl) (by kernel_rfl) (by kernel_rfl) h2
  have hU : Lib.Utf8Tabs 3 4 W := by
    have h3 := hm (x := ("unicode/utf8.first", Rows.laid_unicode_utf8_first)) (by simp [dataC])
    have h4 := hm (x := ("unicode/utf8.acceptRanges", Rows.laid_unicode_utf8_acceptRanges)) (by simp [dataC])
    rw [show (Rows.laid_unicode_utf8_first : DataW Unit) = Lib.firstData from fstD] at h3
    rw [accD] at h4
    exact utf8Tabs_of_readsT (P := Tryz.prog) (ρ := renC) ⟨by kernel_rfl, by kernel_rfl, by kernel_rfl, by kernel_rfl⟩ ⟨by kernel_rfl, by kernel_rfl, by kernel_rfl, by kernel_rfl, by kernel_rfl, by kernel_rfl, by kernel_rfl⟩ h3 h4
  have hT : Lib.PrintTabsAt 5 6 7 8 Lib.goPrintTabs W := by
    have h5 := hm (x := ("strconv.isPrint16", Rows.laid_strconv_isPrint16)) (by simp [dataC])
    have h6 := hm (x := ("strconv.isNotPrint16", Rows.laid_strconv_isNotPrint16)) (by simp [dataC])
    have h7 := hm (x := ("strconv.isPrint32", Rows.laid_strconv_isPrint32)) (by simp [dataC])
    have h8 := hm (x := ("strconv.isNotPrint32", Rows.laid_strconv_isNotPrint32)) (by simp [dataC])
    rw [show (Rows.laid_strconv_isPrint16 : DataW Unit) = _ from p16D] at h5
    rw [show (Rows.laid_strconv_isNotPrint16 : DataW Unit) = _ from n16D] at h6
    rw [show (Rows.laid_strconv_isPrint32 : DataW Unit) = _ from p32D] at h7
    rw [show (Rows.laid_strconv_isNotPrint32 : DataW Unit) = _ from n32D] at h8
    exact ⟨Lib.tabSlice_of_reads (t := 347) (e := 346) (by kernel_rfl) (by kernel_rfl) (by kernel_rfl) (by kernel_rfl) (by kernel_rfl) (by decide) h5, Lib.tabSlice_of_reads (t := 347) (e := 346) (by kernel_rfl) (by kernel_rfl) (by kernel_rfl) (by kernel_rfl) (by kernel_rfl) (by decide) h6,
      Lib.tabSlice_of_reads (t := 349) (e := 261) (by kernel_rfl) (by kernel_rfl) (by kernel_rfl) (by kernel_rfl) (by kernel_rfl) (by decide) h7, Lib.tabSlice_of_reads (t := 347) (e := 346) (by kernel_rfl) (by kernel_rfl) (by kernel_rfl) (by kernel_rfl) (by kernel_rfl) (by decide) h8,
      by decide, by decide, by decide⟩
  refine ⟨hpow, fun w hw => ⟨⟨fun c hc => hw _ _ (hU.1 c hc), fun i hi => ⟨hw _ _ (hU.2 i hi).1, hw _ _ (hU.2 i hi).2⟩⟩, ?_⟩, ?_⟩
  · have sl : ∀ {g : Nat} {k : IntKind} {t : List Nat}, Lib.TabSlice g k t W → Lib.TabSlice g k t w := fun ⟨R, o, c, h1, h2⟩ => ⟨R, o, c, hw _ _ h1, fun j hj => hw _ _ (h2 j hj)⟩
    exact ⟨sl hT.1, sl hT.2.1, sl hT.2.2.1, sl hT.2.2.2.1, hT.2.2.2.2⟩
  · have h1 : W.var? Tryz.prog "internal/strconv.uint64pow10" = some (Lib.pow10Tab.map fun z => Value.int .u64 z).toArray := hpow
    exact ⟨_, by rw [World.var?_cell tabP h1 0]; rfl⟩
end Go.Proofs.YtllfpnbhjfadiaaGreatDoor
