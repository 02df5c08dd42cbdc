/- Layer 18 (disk), the program's: Sync, Put, Cut, Remove, Append, Read: what they answer. -/
import Derived.Test.YtjcchjgkkplamaaDoorDisk1
set_option maxRecDepth 100000
set_option maxHeartbeats 2000000
set_option linter.unusedVariables false
set_option linter.unusedSimpArgs false
namespace Go.Proofs.YtjcchjgkkplamaaDoor
open Go.RowKit Go.SW
theorem at_zero {pw : Bool} {es : List PE} {nm : List UInt8} (h : mayP pw es nm = 0) : ∃ fb fv b sr, es[ixE es nm]? = some ⟨nm, fb, fv, b, sr⟩ ∧ atV pw es nm = .pointer (some ⟨fb, 0, none⟩) ∧ ixE es nm < es.length := by
  have hlt : ixE es nm < es.length := by
    unfold mayP at h
    split at h
    · omega
    split at h
    · omega
    split at h
    · assumption
    · omega
  obtain ⟨⟨nm2, fb, fv, b, sr⟩, h2, h3⟩ := ix_at hlt
  simp only at h3
  subst h3
  exact ⟨fb, fv, b, sr, h2, by unfold atV fV; rw [if_pos h, h2], hlt⟩
theorem old_of {es : List PE} {F : List Fil} (h : Rep es F) {nm : List UInt8} {fb : Nat} {fv : Value} {b : List UInt8} {sr : Nat} (he : es[ixE es nm]? = some ⟨nm, fb, fv, b, sr⟩) : oldF F nm = ⟨nm, b, sr⟩ := by
  unfold oldF
  rw [← rep_get h nm, he]; rfl
theorem doD_err {D : Dsk} {kind : Nat} {nm p : List UInt8} {n : Int} {th : Bool} (ht : decide (kind ≠ 0 ∧ kind ≠ 2) = th) (h : mayE D nm th ≠ 0) : doD D kind nm p n = (D, mayE D nm th) := by
  unfold doD
  rw [ht, if_pos h]
theorem doD_ok {D D2 : Dsk} {kind : Nat} {nm p : List UInt8} {n : Int} {th cu : Bool} {pt : Int} (ht : decide (kind ≠ 0 ∧ kind ≠ 2) = th) (h : mayE D nm th = 0) (h2 : ¬ (kind = 3 ∧ (n < 0 ∨ ((oldF D.fs nm).b.length : Int) < n))) (hc : cutD D = (D2, cu, pt)) :
    doD D kind nm p n = ({ D2 with fs := if cu = false ∨ kind = 0 ∨ modI pt 2 = 1 then doF D.fs kind nm (if cu = true ∧ kind = 0 then p.take (modI pt (p.length + 1)) else p) n.toNat else D.fs }, if cu = true then 80 else 0) := by
  unfold doD
  rw [ht, if_neg (by rw [h]; simp), if_neg h2, hc]
abbrev ownD (db mb ab : Nat) (D : Dsk) (es : List PE) : List Own := [.grp (dskO db mb ab D es)]
/-- What an act answers, and leaves. -/
def ActPost (db mb ab : Nat) (D : Dsk) (es : List PE) (R : Dsk × Nat) (w : World) (v : Value) (w' : World) : Prop := ∃ es', v = errV R.2 ∧ Rep es' R.1.fs ∧ Turn w w' (ownD db mb ab D es) (ownD db mb ab R.1 es')
section
variable {w w' : World} {db mb ab : Nat} {D D2 : Dsk} {es es' : List PE} {kind : Nat} {nm p : List UInt8} {n : Int} {th cu : Bool} {pt : Int}
theorem fin_err (hR : Rep es D.fs) (ht : decide (kind ≠ 0 ∧ kind ≠ 2) = th) (e : Nat) (he : mayE D nm th = e) (h : e ≠ 0) (hT : Turn w w' (ownD db mb ab D es) (ownD db mb ab D es)) : ActPost db mb ab D es (doD D kind nm p n) w (errV e) w' := by
  subst he
  rw [doD_err ht h]
  exact ⟨es, rfl, hR, hT⟩
theorem fin_run (ht : decide (kind ≠ 0 ∧ kind ≠ 2) = th) (h : mayE D nm th = 0) (h2 : ¬ (kind = 3 ∧ (n < 0 ∨ ((oldF D.fs nm).b.length : Int) < n))) (hc : cutD D = (D2, cu, pt)) (hk : kind ≠ 0) (hrun : cu = false ∨ modI pt 2 = 1)
    (hrep : Rep es' (doF D.fs kind nm p n.toNat)) (hT : Turn w w' (ownD db mb ab D es) [.grp [hdO db mb ab D2.off D2.ar, .smap mb (kvE es'), filsO es', .grp (armO D2.ar ab)]]) : ActPost db mb ab D es (doD D kind nm p n) w (errV (if cu = true then 80 else 0)) w' := by
  rw [doD_ok ht h h2 hc]
  refine ⟨es', rfl, ?_, hT⟩
  show Rep es' (if cu = false ∨ kind = 0 ∨ modI pt 2 = 1 then doF D.fs kind nm (if cu = true ∧ kind = 0 then p.take (modI pt (p.length + 1)) else p) n.toNat else D.fs)
  rw [if_pos (hrun.elim .inl fun h => .inr (.inr h)), if_neg (fun h => hk h.2)]
  exact hrep
theorem fin_not (hR : Rep es D.fs) (ht : decide (kind ≠ 0 ∧ kind ≠ 2) = th) (h : mayE D nm th = 0) (h2 : ¬ (kind = 3 ∧ (n < 0 ∨ ((oldF D.fs nm).b.length : Int) < n))) (hc : cutD D = (D2, cu, pt)) (hk : kind ≠ 0) (hrun : ¬ (cu = false ∨ modI pt 2 = 1))
    (hT : Turn w w' (ownD db mb ab D es) [.grp [hdO db mb ab D2.off D2.ar, .smap mb (kvE es), filsO es, .grp (armO D2.ar ab)]]) : ActPost db mb ab D es (doD D kind nm p n) w (errV (if cu = true then 80 else 0)) w' := by
  rw [doD_ok ht h h2 hc]
  refine ⟨es, rfl, ?_, hT⟩
  show Rep es (if cu = false ∨ kind = 0 ∨ modI pt 2 = 1 then doF D.fs kind nm (if cu = true ∧ kind = 0 then p.take (modI pt (p.length + 1)) else p) n.toNat else D.fs)
  rw [if_neg (fun h => hrun (h.elim .inl fun h => h.elim (fun h => absurd h hk) .inr))]
  exact hR
theorem fin_arg (hR : Rep es D.fs) (h : mayE D nm true = 0) (h2 : n < 0 ∨ ((oldF D.fs nm).b.length : Int) < n) (hT : Turn w w' (ownD db mb ab D es) (ownD db mb ab D es)) : ActPost db mb ab D es (doD D 3 nm p n) w (errV 1) w' := by
  have e : doD D 3 nm p n = (D, 1) := by
    unfold doD
    rw [show decide ((3 : Nat) ≠ 0 ∧ (3 : Nat) ≠ 2) = true from rfl, if_neg (by rw [h]; simp), if_pos ⟨rfl, h2⟩]
  rw [e]
  exact ⟨es, rfl, hR, hT⟩
theorem fin_app (q : List UInt8) (h : mayE D nm false = 0) (hc : cutD D = (D2, cu, pt)) (hq : q = if cu = true then p.take (modI pt (p.length + 1)) else p) (hrep : Rep es' (doF D.fs 0 nm q 0))
    (hT : Turn w w' (ownD db mb ab D es) [.grp [hdO db mb ab D2.off D2.ar, .smap mb (kvE es'), filsO es', .grp (armO D2.ar ab)]]) : ActPost db mb ab D es (doD D 0 nm p 0) w (errV (if cu = true then 80 else 0)) w' := by
  rw [doD_ok (th := false) rfl h (fun h => absurd h.1 (by decide)) hc]
  refine ⟨es', rfl, ?_, hT⟩
  show Rep es' (if cu = false ∨ 0 = 0 ∨ modI pt 2 = 1 then doF D.fs 0 nm (if cu = true ∧ 0 = 0 then p.take (modI pt (p.length + 1)) else p) 0 else D.fs)
  rw [if_pos (.inr (.inl rfl))]
  rw [hq] at hrep
  by_cases hcu : cu = true
  · rw [if_pos ⟨hcu, rfl⟩]; rw [if_pos hcu] at hrep; exact hrep
  · rw [if_neg (fun h => hcu h.1)]; rw [if_neg hcu] at hrep; exact hrep
end
theorem errV_if {e : Nat} (h : e ≠ 0) : errV e = .iface 37 (.int .i64 ((e : Nat) : Int)) := by unfold errV errW; rw [if_neg h]
theorem at_n0 {pw : Bool} {es : List PE} {nm : List UInt8} (h : mayP pw es nm ≠ 0) : atV pw es nm = .pointer none := by unfold atV; rw [if_neg h]
theorem at_81 {pw : Bool} {es : List PE} {nm : List UInt8} (h : mayP pw es nm = 81) : ¬ ixE es nm < es.length := by
  intro hlt
  unfold mayP at h
  rw [if_pos hlt] at h
  split at h
  · omega
  split at h <;> omega
theorem old_none {es : List PE} {F : List Fil} (h : Rep es F) {nm : List UInt8} (hn : ¬ ixE es nm < es.length) : oldF F nm = ⟨nm, [], 0⟩ := by
  unfold oldF
  rw [← rep_get h nm, List.getElem?_eq_none (by omega)]; rfl
theorem ff_zero {D : Dsk} {es : List PE} (hR : Rep es D.fs) {nm : List UInt8} (h : mayP D.off es nm = 0 ∨ mayP D.off es nm = 81) : mayE D nm false = 0 := by
  rw [mayE_ff hR]
  rcases h with h | h <;> rw [h] <;> rfl
theorem ff_err {D : Dsk} {es : List PE} (hR : Rep es D.fs) {nm : List UInt8} (h : mayP D.off es nm ≠ 81) : mayE D nm false = mayP D.off es nm := by rw [mayE_ff hR, if_neg h]
section
variable {w w0 : World} {z : Zone} {F : List Nat} {os : List Own}
theorem fil_own (hH : Hp w0 w z F os) (k : Nat) {es : List PE} (hk : os[k]? = some (filsO es)) {i : Nat} {e : PE} (he : es[i]? = some e) : (f1O e).at w ∧ (f2O e).at w := by
  have h : ∀ o ∈ es.map (fun e => Own.grp (filO e)), o.at w := hH.own _ (List.mem_of_getElem? hk)
  have h1 : ∀ o ∈ filO e, o.at w := h _ (List.mem_map.2 ⟨e, List.mem_of_getElem? he, rfl⟩)
  exact ⟨h1 _ List.mem_cons_self, h1 _ (List.mem_cons_of_mem _ List.mem_cons_self)⟩
theorem fil_cell0 (hH : Hp w0 w z F os) (k : Nat) {es : List PE} (hk : os[k]? = some (filsO es)) {i : Nat} {nm : List UInt8} {fb : Nat} {fv : Value} {b : List UInt8} {sr : Nat} (he : es[i]? = some ⟨nm, fb, fv, b, sr⟩) : w.cell? ⟨fb, 0, none⟩ = some fv := by
  have h : w.heap[fb]? = some (.cells #[fv, .int .i64 ((sr : Nat) : Int)] 138 (0, 0)) := (fil_own hH k hk he).1
  simp [World.cell?, h]
theorem fil_cell1 (hH : Hp w0 w z F os) (k : Nat) {es : List PE} (hk : os[k]? = some (filsO es)) {i : Nat} {nm : List UInt8} {fb : Nat} {fv : Value} {b : List UInt8} {sr : Nat} (he : es[i]? = some ⟨nm, fb, fv, b, sr⟩) : w.cell? ⟨fb, 1, none⟩ = some (.int .i64 ((sr : Nat) : Int)) := by
  have h : w.heap[fb]? = some (.cells #[fv, .int .i64 ((sr : Nat) : Int)] 138 (0, 0)) := (fil_own hH k hk he).1
  simp [World.cell?, h]
theorem fil_rb (hH : Hp w0 w z F os) (k : Nat) {es : List PE} (hk : os[k]? = some (filsO es)) {i : Nat} {nm : List UInt8} {fb : Nat} {fv : Value} {b : List UInt8} {sr : Nat} (he : es[i]? = some ⟨nm, fb, fv, b, sr⟩) : RB w.cell? fv b := vw_row (fil_own hH k hk he).2
end
theorem good_at {es : List PE} {F : List Fil} {M : Nat} (hG : Good F M) (hR : Rep es F) {i : Nat} {nm : List UInt8} {fb : Nat} {fv : Value} {b : List UInt8} {sr : Nat} (he : es[i]? = some ⟨nm, fb, fv, b, sr⟩) : b.length ≤ M ∧ sr ≤ b.length ∧ nm.length ≤ 32 := by
  have h : (⟨nm, b, sr⟩ : Fil) ∈ F := hR.perm.mem_iff.1 (List.mem_map.2 ⟨_, List.mem_of_getElem? he, rfl⟩)
  exact ⟨hG.short _ h, hG.sure _ h, hG.nm _ h⟩

theorem Sync_ct (db mb ab : Nat) (D : Dsk) (es : List PE) (nm : List UInt8) (M : Nat) (w : World) (hM : Mine w (ownD db mb ab D es)) (hR : Rep es D.fs) (hA : ArOk D.ar) (hG : Good D.fs M) (hMM : M ≤ 4194304) (hs : nm.length ≤ 140737488355328) :
    Fun Tryd.prog 64 [.pointer (some ⟨db, 0, none⟩), .string (bs nm)] w fun v w' => ActPost db mb ab D es (doD D 1 nm [] 0) w v w' := by
  refine fun_of_sw Tryd.func64 rfl 19 rfl rfl ?_
  have hH : Hp w w (off w (blksOf (ownD db mb ab D es))) (blksOf (ownD db mb ab D es)) (dskO db mb ab D es ++ []) := (Hp.start_mine hM).open_
  replace hH : Hp w w _ _ [.blk db 128 [.map (some mb), .bool D.off, arV D.ar ab], .smap mb (kvE es), filsO es, .grp (armO D.ar ab)] := hH
  refine sw_seq ?_
  refine sw_region ?_  -- R0 disk.go:95
  refine gl_ops 1 [(0, .pointer (some ⟨db, 0, none⟩)), (1, .string (bs nm))] (by kernel_rfl) ?_
  refine gl_done rfl ?_
  refine sw_next ?_
  refine sw_seq ?_
  refine sw_region ?_  -- R1 disk.go:96
  refine gl_ops 2 [(0, .pointer (some ⟨db, 0, none⟩)), (8, .pointer (some ⟨db, 0, none⟩)), (9, .string (bs nm))] (by kernel_rfl) ?_
  replace hH : Hp w w _ _ ([.blk db 128 [.map (some mb), .bool D.off, arV D.ar ab], .smap mb (kvE es)] ++ [filsO es, .grp (armO D.ar ab)]) := hH
  refine gl_st (st_call rfl rfl rfl (by kernel_rfl) rfl (At_ct _ _ _ _ es nm _ hs hH.mine) ?_)
  rintro _ w1 ⟨rfl, hF2⟩
  replace hH := hH.turns hF2; clear hF2
  replace hH : Hp w w1 _ _ [filsO es, .grp (armO D.ar ab), .blk db 128 [.map (some mb), .bool D.off, arV D.ar ab], .smap mb (kvE es)] := hH
  refine gl_ops 3 [(0, .pointer (some ⟨db, 0, none⟩)), (11, atV D.off es nm), (12, errV (mayP D.off es nm))] (by kernel_rfl) ?_
  refine gl_st (st_allocH rfl rfl rfl (cs := [.pointer none]) (by kernel_rfl) hH ?_)
  clear hH; intro b3 w4 hH
  refine gl_st (st_storeK (v := atV D.off es nm) 4 rfl rfl rfl hH rfl rfl (atV_one D.off es nm) (by kernel_rfl) rfl (by simp) ?_)
  clear hH; intro w5 hH
  refine gl_ops 1 [(0, .pointer (some ⟨db, 0, none⟩)), (5, .pointer (some ⟨b3, 0, none⟩)), (6, errV (mayP D.off es nm))] (by kernel_rfl) ?_
  refine gl_done rfl ?_
  refine sw_next ?_
  refine sw_seq ?_
  refine sw_seq ?_
  refine sw_region ?_  -- R2 disk.go:97
  refine gl_ops 1 [(0, .pointer (some ⟨db, 0, none⟩)), (5, .pointer (some ⟨b3, 0, none⟩)), (6, errV (mayP D.off es nm)), (13, errV (mayP D.off es nm))] (by kernel_rfl) ?_
  refine gl_q rfl rfl rfl (rd_err_ne (by kernel_rfl) rfl) ?_
  refine gl_done rfl ?_
  refine sw_next ?_
  refine sw_cond rfl rfl (fun hc1 => ?_) (fun hc1 => ?_)
  ·
    try simp only [decide_eq_true_eq, beq_iff_eq, bne_iff_ne, ne_eq, Bool.not_eq_true', beq_eq_false_iff_ne, bne_eq_false_iff_eq, decide_eq_false_iff_not, Int.not_lt, Int.not_le] at hc1
    refine sw_seq ?_
    refine sw_region ?_  -- R3 disk.go:98
    refine gl_ops 2 [(4, errV (mayP D.off es nm))] (by kernel_rfl) ?_
    refine gl_done rfl ?_
    refine sw_next ?_
    refine sw_ret ?_
    refine thR ?_
    refine ret1 rfl rfl  ?_
    replace hH : Hp w w5 _ _ [filsO es, .grp (armO D.ar ab), .blk db 128 [.map (some mb), .bool D.off, arV D.ar ab], .smap mb (kvE es), .blk b3 136 [atV D.off es nm]] := hH
    replace hH := hH.pick [2, 3, 0, 1, 4] (by kernel_rfl) (os' := [.blk db 128 [.map (some mb), .bool D.off, arV D.ar ab], .smap mb (kvE es), filsO es, .grp (armO D.ar ab), .blk b3 136 [atV D.off es nm]]) (by kernel_rfl)
    replace hH := (hH.sublist (.cons_cons _ (.cons_cons _ (.cons_cons _ (.cons_cons _ (List.nil_sublist _))))))
    replace hH : Hp w w5 _ _ [.blk db 128 [.map (some mb), .bool D.off, arV D.ar ab], .smap mb (kvE es), filsO es, .grp (armO D.ar ab)] := hH
    exact fin_err (kind := 1) (th := true) hR rfl _ (mayP_eq hR nm) (by omega) ((hH.close (r := [])).turned)
  try simp only [decide_eq_false_iff_not, beq_eq_false_iff_ne, bne_eq_false_iff_eq, ne_eq, Decidable.not_not, Int.not_lt, Int.not_le, Bool.not_eq_false', beq_iff_eq, bne_iff_ne, decide_eq_true_eq] at hc1
  have hm0 : mayE D nm true = 0 := by rw [mayP_eq hR]; omega
  obtain ⟨fb, fv, b, sr, he, hat, hlt⟩ := at_zero (show mayP D.off es nm = 0 by omega)
  have hold := old_of hR he
  replace hH := hH.cast (os' := [filsO es, .grp (armO D.ar ab), .blk db 128 [.map (some mb), .bool D.off, arV D.ar ab], .smap mb (kvE es), .blk b3 136 [.pointer (some ⟨fb, 0, none⟩)]]) (by first | (rw [hat]; done) | (rw [hat]; rfl))
  refine sw_skip ?_
  refine sw_next ?_
  refine sw_seq ?_
  refine sw_region ?_  -- R4 disk.go:100
  obtain ⟨D2, cu, pt, hcut⟩ : ∃ D2 cu pt, cutD D = (D2, cu, pt) := ⟨_, _, _, rfl⟩
  replace hH : Hp w w5 _ _ [filsO es, .grp (armO D.ar ab), .blk db 128 [.map (some mb), .bool D.off, arV D.ar ab], .smap mb (kvE es), .blk b3 136 [.pointer (some ⟨fb, 0, none⟩)]] := hH
  replace hH := hH.pick [4, 0, 1, 2, 3] (by kernel_rfl) (os' := [.blk b3 136 [.pointer (some ⟨fb, 0, none⟩)], filsO es, .grp (armO D.ar ab), .blk db 128 [.map (some mb), .bool D.off, arV D.ar ab], .smap mb (kvE es)]) (by kernel_rfl)
  replace hH : Hp w w5 _ _ ([.blk b3 136 [.pointer (some ⟨fb, 0, none⟩)], filsO es] ++ [.grp (armO D.ar ab), .blk db 128 [.map (some mb), .bool D.off, arV D.ar ab], .smap mb (kvE es)]) := hH
  replace hH := hH.close
  replace hH : Hp w w5 _ _ [.grp [.blk b3 136 [.pointer (some ⟨fb, 0, none⟩)], filsO es], .grp (armO D.ar ab), .blk db 128 [.map (some mb), .bool D.off, arV D.ar ab], .smap mb (kvE es)] := hH
  refine gl_ops 2 [(16, .pointer (some ⟨db, 0, none⟩)), (17, .func (.func 94) #[] #[.pointer (some ⟨b3, 0, none⟩)])] (by kernel_rfl) ?_
  replace hH : Hp w w5 _ _ [.grp [.blk b3 136 [.pointer (some ⟨fb, 0, none⟩)], filsO es], .grp (armO D.ar ab), .blk db 128 [.map (some mb), .bool D.off, arV D.ar ab], .smap mb (kvE es)] := hH
  replace hH := hH.pick [2, 1, 0, 3] (by kernel_rfl) (os' := [.blk db 128 [.map (some mb), .bool D.off, arV D.ar ab], .grp (armO D.ar ab), .grp [.blk b3 136 [.pointer (some ⟨fb, 0, none⟩)], filsO es], .smap mb (kvE es)]) (by kernel_rfl)
  replace hH : Hp w w5 _ _ ([.blk db 128 [.map (some mb), .bool D.off, arV D.ar ab], .grp (armO D.ar ab), .grp [.blk b3 136 [.pointer (some ⟨fb, 0, none⟩)], filsO es]] ++ [.smap mb (kvE es)]) := hH
  refine gl_st (st_call rfl rfl rfl (by kernel_rfl) rfl (DAct_ct (γ := Unit) _ ab _ D D2 cu pt 94 _ (.grp [.blk b3 136 [.pointer (some ⟨fb, 0, none⟩)], filsO es]) (fun u => .grp [.blk b3 136 [.pointer (some ⟨fb, 0, none⟩)], filsO (es.set (ixE es nm) ⟨nm, fb, fv, b, b.length⟩)]) (fun _ => none) _ hcut hA hH.mine (fun _ _ h => by cases h) (by kernel_rfl) (fun w1 hM1 _ => SyncDo_ct b3 es _ nm fb fv b sr he _ w1 hM1)) ?_)
  rintro _ w6 ⟨x', rfl, hF7, hor⟩
  replace hH := hH.turns hF7; clear hF7
  replace hH : Hp w w6 _ _ [.smap mb (kvE es), .blk db 128 [.map (some mb), .bool D2.off, arV D2.ar ab], .grp (armO D2.ar ab), x'] := hH
  refine gl_ops 1 [(4, errV (if cu = true then 80 else 0))] (by kernel_rfl) ?_
  refine gl_done rfl ?_
  refine sw_next ?_
  refine sw_ret ?_
  refine ret1 rfl rfl  ?_
  rcases hor with ⟨hrun, u, rfl⟩ | ⟨hrun, rfl⟩
  ·
    replace hH : Hp w w6 _ _ [.smap mb (kvE es), .blk db 128 [.map (some mb), .bool D2.off, arV D2.ar ab], .grp (armO D2.ar ab), .grp [.blk b3 136 [.pointer (some ⟨fb, 0, none⟩)], filsO (es.set (ixE es nm) ⟨nm, fb, fv, b, b.length⟩)]] := hH
    replace hH := hH.pick [3, 0, 1, 2] (by kernel_rfl) (os' := [.grp [.blk b3 136 [.pointer (some ⟨fb, 0, none⟩)], filsO (es.set (ixE es nm) ⟨nm, fb, fv, b, b.length⟩)], .smap mb (kvE es), .blk db 128 [.map (some mb), .bool D2.off, arV D2.ar ab], .grp (armO D2.ar ab)]) (by kernel_rfl)
    replace hH : Hp w w6 _ _ (.grp [.blk b3 136 [.pointer (some ⟨fb, 0, none⟩)], filsO (es.set (ixE es nm) ⟨nm, fb, fv, b, b.length⟩)] :: [.smap mb (kvE es), .blk db 128 [.map (some mb), .bool D2.off, arV D2.ar ab], .grp (armO D2.ar ab)]) := hH
    replace hH := hH.open_
    replace hH : Hp w w6 _ _ [.blk b3 136 [.pointer (some ⟨fb, 0, none⟩)], filsO (es.set (ixE es nm) ⟨nm, fb, fv, b, b.length⟩), .smap mb (kvE es), .blk db 128 [.map (some mb), .bool D2.off, arV D2.ar ab], .grp (armO D2.ar ab)] := hH
    have hkv : kvE es = kvE (es.set (ixE es nm) ⟨nm, fb, fv, b, b.length⟩) := (kvE_set (e' := ⟨nm, fb, fv, b, b.length⟩) he rfl rfl).symm
    replace hH := hH.cast (os' := [.blk b3 136 [.pointer (some ⟨fb, 0, none⟩)], filsO (es.set (ixE es nm) ⟨nm, fb, fv, b, b.length⟩), .smap mb (kvE (es.set (ixE es nm) ⟨nm, fb, fv, b, b.length⟩)), .blk db 128 [.map (some mb), .bool D2.off, arV D2.ar ab], .grp (armO D2.ar ab)]) (by rw [← hkv])
    replace hH : Hp w w6 _ _ [.blk b3 136 [.pointer (some ⟨fb, 0, none⟩)], filsO (es.set (ixE es nm) ⟨nm, fb, fv, b, b.length⟩), .smap mb (kvE (es.set (ixE es nm) ⟨nm, fb, fv, b, b.length⟩)), .blk db 128 [.map (some mb), .bool D2.off, arV D2.ar ab], .grp (armO D2.ar ab)] := hH
    replace hH := hH.pick [3, 2, 1, 4, 0] (by kernel_rfl) (os' := [.blk db 128 [.map (some mb), .bool D2.off, arV D2.ar ab], .smap mb (kvE (es.set (ixE es nm) ⟨nm, fb, fv, b, b.length⟩)), filsO (es.set (ixE es nm) ⟨nm, fb, fv, b, b.length⟩), .grp (armO D2.ar ab), .blk b3 136 [.pointer (some ⟨fb, 0, none⟩)]]) (by kernel_rfl)
    replace hH := (hH.sublist (.cons_cons _ (.cons_cons _ (.cons_cons _ (.cons_cons _ (List.nil_sublist _))))))
    replace hH : Hp w w6 _ _ [.blk db 128 [.map (some mb), .bool D2.off, arV D2.ar ab], .smap mb (kvE (es.set (ixE es nm) ⟨nm, fb, fv, b, b.length⟩)), filsO (es.set (ixE es nm) ⟨nm, fb, fv, b, b.length⟩), .grp (armO D2.ar ab)] := hH
    exact fin_run (kind := 1) (th := true) (n := 0) rfl hm0 (fun h => absurd h.1 (by decide)) hcut (by decide) hrun (by unfold doF; rw [hold]; exact rep_set hR he _ rfl) ((hH.close (r := [])).turned)
  ·
    replace hH : Hp w w6 _ _ [.smap mb (kvE es), .blk db 128 [.map (some mb), .bool D2.off, arV D2.ar ab], .grp (armO D2.ar ab), .grp [.blk b3 136 [.pointer (some ⟨fb, 0, none⟩)], filsO es]] := hH
    replace hH := hH.pick [3, 0, 1, 2] (by kernel_rfl) (os' := [.grp [.blk b3 136 [.pointer (some ⟨fb, 0, none⟩)], filsO es], .smap mb (kvE es), .blk db 128 [.map (some mb), .bool D2.off, arV D2.ar ab], .grp (armO D2.ar ab)]) (by kernel_rfl)
    replace hH : Hp w w6 _ _ (.grp [.blk b3 136 [.pointer (some ⟨fb, 0, none⟩)], filsO es] :: [.smap mb (kvE es), .blk db 128 [.map (some mb), .bool D2.off, arV D2.ar ab], .grp (armO D2.ar ab)]) := hH
    replace hH := hH.open_
    replace hH : Hp w w6 _ _ [.blk b3 136 [.pointer (some ⟨fb, 0, none⟩)], filsO es, .smap mb (kvE es), .blk db 128 [.map (some mb), .bool D2.off, arV D2.ar ab], .grp (armO D2.ar ab)] := hH
    replace hH : Hp w w6 _ _ [.blk b3 136 [.pointer (some ⟨fb, 0, none⟩)], filsO es, .smap mb (kvE es), .blk db 128 [.map (some mb), .bool D2.off, arV D2.ar ab], .grp (armO D2.ar ab)] := hH
    replace hH := hH.pick [3, 2, 1, 4, 0] (by kernel_rfl) (os' := [.blk db 128 [.map (some mb), .bool D2.off, arV D2.ar ab], .smap mb (kvE es), filsO es, .grp (armO D2.ar ab), .blk b3 136 [.pointer (some ⟨fb, 0, none⟩)]]) (by kernel_rfl)
    replace hH := (hH.sublist (.cons_cons _ (.cons_cons _ (.cons_cons _ (.cons_cons _ (List.nil_sublist _))))))
    replace hH : Hp w w6 _ _ [.blk db 128 [.map (some mb), .bool D2.off, arV D2.ar ab], .smap mb (kvE es), filsO es, .grp (armO D2.ar ab)] := hH
    exact fin_not (kind := 1) (th := true) (n := 0) hR rfl hm0 (fun h => absurd h.1 (by decide)) hcut (by decide) hrun ((hH.close (r := [])).turned)
  
theorem Put_ct (db mb ab : Nat) (D : Dsk) (es : List PE) (nm : List UInt8) (vp : Value) (p : List UInt8) (M : Nat) (w : World) (hM : Mine w (ownD db mb ab D es)) (hR : Rep es D.fs) (hA : ArOk D.ar) (hG : Good D.fs M) (hMM : M ≤ 4194304) (hs : nm.length ≤ 140737488355328) (hp : RB (off w (blksOf (ownD db mb ab D es))) vp p) (hpl : p.length ≤ 1048576) :
    Fun Tryd.prog 36 [.pointer (some ⟨db, 0, none⟩), .string (bs nm), vp] w fun v w' => ActPost db mb ab D es (doD D 2 nm p 0) w v w' := by
  obtain ⟨Ap, cp, rfl, hp1, hp2⟩ := hp.row.form
  refine fun_of_sw Tryd.func36 rfl 26 rfl rfl ?_
  have hH : Hp w w (off w (blksOf (ownD db mb ab D es))) (blksOf (ownD db mb ab D es)) (dskO db mb ab D es ++ []) := (Hp.start_mine hM).open_
  replace hH : Hp w w _ _ [.blk db 128 [.map (some mb), .bool D.off, arV D.ar ab], .smap mb (kvE es), filsO es, .grp (armO D.ar ab)] := hH
  refine sw_seq ?_
  refine sw_region ?_  -- R0 disk.go:104
  refine gl_st (st_boxH (cs := [.pointer (some ⟨db, 0, none⟩)]) rfl rfl rfl rfl hH ?_)
  clear hH; intro b1 w2 hH
  refine gl_st (st_boxH (cs := [.string (bs nm)]) rfl rfl rfl rfl hH ?_)
  clear hH; intro b3 w4 hH
  refine gl_st (st_boxH (cs := [.slice Ap p.length cp]) rfl rfl rfl rfl hH ?_)
  clear hH; intro b5 w6 hH
  replace hH : Hp w w6 _ _ [.blk db 128 [.map (some mb), .bool D.off, arV D.ar ab], .smap mb (kvE es), filsO es, .grp (armO D.ar ab), .blk b1 71 [.pointer (some ⟨db, 0, none⟩)], .blk b3 9 [.string (bs nm)], .blk b5 22 [.slice Ap p.length cp]] := hH
  refine gl_ops 1 [(3, .pointer (some ⟨b1, 0, none⟩)), (4, .pointer (some ⟨b3, 0, none⟩)), (5, .pointer (some ⟨b5, 0, none⟩))] (by kernel_rfl) ?_
  refine gl_done rfl ?_
  refine sw_next ?_
  refine sw_seq ?_
  refine sw_seq ?_
  refine sw_region ?_  -- R1 disk.go:105
  refine gl_q rfl rfl rfl (rd_loadK 4 (by kernel_rfl) hH rfl rfl rfl) ?_
  refine gl_q rfl rfl rfl (rd_loadK 5 (by kernel_rfl) hH rfl rfl rfl) ?_
  replace hH : Hp w w6 _ _ ([.blk db 128 [.map (some mb), .bool D.off, arV D.ar ab], .smap mb (kvE es)] ++ [filsO es, .grp (armO D.ar ab), .blk b1 71 [.pointer (some ⟨db, 0, none⟩)], .blk b3 9 [.string (bs nm)], .blk b5 22 [.slice Ap p.length cp]]) := hH
  refine gl_st (st_call rfl rfl rfl (by kernel_rfl) rfl (At_ct _ _ _ _ es nm _ hs hH.mine) ?_)
  rintro _ w7 ⟨rfl, hF8⟩
  replace hH := hH.turns hF8; clear hF8
  replace hH : Hp w w7 _ _ [filsO es, .grp (armO D.ar ab), .blk b1 71 [.pointer (some ⟨db, 0, none⟩)], .blk b3 9 [.string (bs nm)], .blk b5 22 [.slice Ap p.length cp], .blk db 128 [.map (some mb), .bool D.off, arV D.ar ab], .smap mb (kvE es)] := hH
  replace hH : Hp w w7 _ _ [filsO es, .grp (armO D.ar ab), .blk b1 71 [.pointer (some ⟨db, 0, none⟩)], .blk b3 9 [.string (bs nm)], .blk b5 22 [.slice Ap p.length cp], .blk db 128 [.map (some mb), .bool D.off, arV D.ar ab], .smap mb (kvE es)] := hH
  refine gl_ops 5 [(3, .pointer (some ⟨b1, 0, none⟩)), (4, .pointer (some ⟨b3, 0, none⟩)), (5, .pointer (some ⟨b5, 0, none⟩)), (8, errV (mayP D.off es nm))] (by kernel_rfl) ?_
  refine gl_done rfl ?_
  refine sw_next ?_
  refine sw_seq ?_
  refine sw_region ?_  -- R2 disk.go:105
  refine gl_ops 1 [(3, .pointer (some ⟨b1, 0, none⟩)), (4, .pointer (some ⟨b3, 0, none⟩)), (5, .pointer (some ⟨b5, 0, none⟩)), (8, errV (mayP D.off es nm)), (15, errV (mayP D.off es nm))] (by kernel_rfl) ?_
  refine gl_q rfl rfl rfl (rd_err_ne (by kernel_rfl) rfl) ?_
  refine gl_ops 1 [(3, .pointer (some ⟨b1, 0, none⟩)), (4, .pointer (some ⟨b3, 0, none⟩)), (5, .pointer (some ⟨b5, 0, none⟩)), (8, errV (mayP D.off es nm)), (17, .bool ((mayP D.off es nm) != 0))] (by kernel_rfl) ?_
  refine gl_split 17 (b := (mayP D.off es nm) != 0) rfl (fun hg1 => ?_) (fun hg1 => ?_)
  ·
    try simp only [decide_eq_true_eq, beq_iff_eq, bne_iff_ne, ne_eq, Bool.not_eq_true', beq_eq_false_iff_ne, bne_eq_false_iff_eq, decide_eq_false_iff_not, Int.not_lt, Int.not_le] at hg1
    refine gl_ops 1 [(3, .pointer (some ⟨b1, 0, none⟩)), (4, .pointer (some ⟨b3, 0, none⟩)), (5, .pointer (some ⟨b5, 0, none⟩)), (8, errV (mayP D.off es nm)), (17, .bool true), (18, errV (mayP D.off es nm))] (by kernel_rfl) ?_
    refine gl_cv 18 (.iface 37 (.int .i64 ((mayP D.off es nm : Nat) : Int))) (errV_if (by omega)) rfl ?_
    refine gl_ops 1 [(3, .pointer (some ⟨b1, 0, none⟩)), (4, .pointer (some ⟨b3, 0, none⟩)), (5, .pointer (some ⟨b5, 0, none⟩)), (8, errV (mayP D.off es nm)), (17, .bool true), (18, .iface 37 (.int .i64 ((mayP D.off es nm : Nat) : Int))), (19, .iface 37 (.int .i64 81))] (by kernel_rfl) ?_
    refine gl_q rfl rfl rfl (rd_ifi_ne (k0 := .i64) (by kernel_rfl) (by kernel_rfl) (by kernel_rfl) rfl rfl) ?_
    refine gl_ops 1 [(3, .pointer (some ⟨b1, 0, none⟩)), (4, .pointer (some ⟨b3, 0, none⟩)), (5, .pointer (some ⟨b5, 0, none⟩)), (8, errV (mayP D.off es nm)), (21, .bool ((((mayP D.off es nm : Nat) : Int) : Int) != 81))] (by kernel_rfl) ?_
    refine gl_done rfl ?_
    refine sw_next ?_
    refine sw_cond rfl rfl (fun hc2 => ?_) (fun hc2 => ?_)
    ·
      try simp only [decide_eq_true_eq, beq_iff_eq, bne_iff_ne, ne_eq, Bool.not_eq_true', beq_eq_false_iff_ne, bne_eq_false_iff_eq, decide_eq_false_iff_not, Int.not_lt, Int.not_le] at hc2
      refine sw_seq ?_
      refine sw_region ?_  -- R3 disk.go:106
      refine gl_ops 2 [(6, errV (mayP D.off es nm))] (by kernel_rfl) ?_
      refine gl_done rfl ?_
      refine sw_next ?_
      refine sw_ret ?_
      refine thR ?_
      refine ret1 rfl rfl  ?_
      replace hH : Hp w w7 _ _ [filsO es, .grp (armO D.ar ab), .blk b1 71 [.pointer (some ⟨db, 0, none⟩)], .blk b3 9 [.string (bs nm)], .blk b5 22 [.slice Ap p.length cp], .blk db 128 [.map (some mb), .bool D.off, arV D.ar ab], .smap mb (kvE es)] := hH
      replace hH := hH.pick [5, 6, 0, 1, 2, 3, 4] (by kernel_rfl) (os' := [.blk db 128 [.map (some mb), .bool D.off, arV D.ar ab], .smap mb (kvE es), filsO es, .grp (armO D.ar ab), .blk b1 71 [.pointer (some ⟨db, 0, none⟩)], .blk b3 9 [.string (bs nm)], .blk b5 22 [.slice Ap p.length cp]]) (by kernel_rfl)
      replace hH := (hH.sublist (.cons_cons _ (.cons_cons _ (.cons_cons _ (.cons_cons _ (List.nil_sublist _))))))
      replace hH : Hp w w7 _ _ [.blk db 128 [.map (some mb), .bool D.off, arV D.ar ab], .smap mb (kvE es), filsO es, .grp (armO D.ar ab)] := hH
      exact fin_err (kind := 2) (th := false) hR rfl _ (ff_err hR (by omega)) (by omega) ((hH.close (r := [])).turned)
    try simp only [decide_eq_false_iff_not, beq_eq_false_iff_ne, bne_eq_false_iff_eq, ne_eq, Decidable.not_not, Int.not_lt, Int.not_le, Bool.not_eq_false', beq_iff_eq, bne_iff_ne, decide_eq_true_eq] at hc2
    have hm81 : mayP D.off es nm = 81 := by omega
    have hm0 : mayE D nm false = 0 := ff_zero hR (.inr hm81)
    have hnot := at_81 hm81
    have hold := old_none hR hnot
    refine sw_skip ?_
    refine sw_next ?_
    refine sw_seq ?_
    refine sw_region ?_  -- R4 disk.go:108
    refine gl_q rfl rfl rfl (rd_loadK 2 (by kernel_rfl) hH rfl rfl rfl) ?_
    obtain ⟨D2, cu, pt, hcut⟩ : ∃ D2 cu pt, cutD D = (D2, cu, pt) := ⟨_, _, _, rfl⟩
    replace hH : Hp w w7 _ _ [filsO es, .grp (armO D.ar ab), .blk b1 71 [.pointer (some ⟨db, 0, none⟩)], .blk b3 9 [.string (bs nm)], .blk b5 22 [.slice Ap p.length cp], .blk db 128 [.map (some mb), .bool D.off, arV D.ar ab], .smap mb (kvE es)] := hH
    replace hH := hH.pick [4, 2, 3, 6, 0, 1, 5] (by kernel_rfl) (os' := [.blk b5 22 [.slice Ap p.length cp], .blk b1 71 [.pointer (some ⟨db, 0, none⟩)], .blk b3 9 [.string (bs nm)], .smap mb (kvE es), filsO es, .grp (armO D.ar ab), .blk db 128 [.map (some mb), .bool D.off, arV D.ar ab]]) (by kernel_rfl)
    replace hH : Hp w w7 _ _ ([.blk b5 22 [.slice Ap p.length cp], .blk b1 71 [.pointer (some ⟨db, 0, none⟩)], .blk b3 9 [.string (bs nm)], .smap mb (kvE es), filsO es] ++ [.grp (armO D.ar ab), .blk db 128 [.map (some mb), .bool D.off, arV D.ar ab]]) := hH
    replace hH := hH.close
    replace hH : Hp w w7 _ _ [.grp [.blk b5 22 [.slice Ap p.length cp], .blk b1 71 [.pointer (some ⟨db, 0, none⟩)], .blk b3 9 [.string (bs nm)], .smap mb (kvE es), filsO es], .grp (armO D.ar ab), .blk db 128 [.map (some mb), .bool D.off, arV D.ar ab]] := hH
    refine gl_ops 1 [(23, .pointer (some ⟨db, 0, none⟩)), (24, .func (.func 77) #[] #[.pointer (some ⟨b5, 0, none⟩), .pointer (some ⟨b1, 0, none⟩), .pointer (some ⟨b3, 0, none⟩)])] (by kernel_rfl) ?_
    replace hH : Hp w w7 _ _ [.grp [.blk b5 22 [.slice Ap p.length cp], .blk b1 71 [.pointer (some ⟨db, 0, none⟩)], .blk b3 9 [.string (bs nm)], .smap mb (kvE es), filsO es], .grp (armO D.ar ab), .blk db 128 [.map (some mb), .bool D.off, arV D.ar ab]] := hH
    replace hH := hH.pick [2, 1, 0] (by kernel_rfl) (os' := [.blk db 128 [.map (some mb), .bool D.off, arV D.ar ab], .grp (armO D.ar ab), .grp [.blk b5 22 [.slice Ap p.length cp], .blk b1 71 [.pointer (some ⟨db, 0, none⟩)], .blk b3 9 [.string (bs nm)], .smap mb (kvE es), filsO es]]) (by kernel_rfl)
    replace hH : Hp w w7 _ _ ([.blk db 128 [.map (some mb), .bool D.off, arV D.ar ab], .grp (armO D.ar ab), .grp [.blk b5 22 [.slice Ap p.length cp], .blk b1 71 [.pointer (some ⟨db, 0, none⟩)], .blk b3 9 [.string (bs nm)], .smap mb (kvE es), filsO es]] ++ []) := hH
    refine gl_st (st_call rfl rfl rfl (by kernel_rfl) rfl (DAct_ct (γ := Nat × Value) _ ab _ D D2 cu pt 77 _ (.grp [.blk b5 22 [.slice Ap p.length cp], .blk b1 71 [.pointer (some ⟨db, 0, none⟩)], .blk b3 9 [.string (bs nm)], .smap mb (kvE es), filsO es]) (fun u => .grp [.blk b5 22 [.slice Ap p.length cp], .blk b1 71 [.pointer (some ⟨db, 0, none⟩)], .blk b3 9 [.string (bs nm)], .smap mb (kvE (putE es ⟨nm, u.1, u.2, p, p.length⟩)), filsO (putE es ⟨nm, u.1, u.2, p, p.length⟩)]) (off w (blksOf (ownD db mb ab D es))) _ hcut hA hH.mine hH.zoff (by kernel_rfl) (fun w1 hM1 hz1 => PutDo_ct b5 b1 b3 db mb D2.off (arV D2.ar ab) _ es nm p _ w1 hM1 hp hz1 hpl)) ?_)
    rintro _ w9 ⟨x', rfl, hF10, hor⟩
    replace hH := hH.turns hF10; clear hF10
    replace hH : Hp w w9 _ _ [.blk db 128 [.map (some mb), .bool D2.off, arV D2.ar ab], .grp (armO D2.ar ab), x'] := hH
    refine gl_ops 1 [(6, errV (if cu = true then 80 else 0))] (by kernel_rfl) ?_
    refine gl_done rfl ?_
    refine sw_next ?_
    refine sw_ret ?_
    refine ret1 rfl rfl  ?_
    rcases hor with ⟨hrun, u, rfl⟩ | ⟨hrun, rfl⟩
    ·
      replace hH : Hp w w9 _ _ [.blk db 128 [.map (some mb), .bool D2.off, arV D2.ar ab], .grp (armO D2.ar ab), .grp [.blk b5 22 [.slice Ap p.length cp], .blk b1 71 [.pointer (some ⟨db, 0, none⟩)], .blk b3 9 [.string (bs nm)], .smap mb (kvE (putE es ⟨nm, u.1, u.2, p, p.length⟩)), filsO (putE es ⟨nm, u.1, u.2, p, p.length⟩)]] := hH
      replace hH := hH.pick [2, 0, 1] (by kernel_rfl) (os' := [.grp [.blk b5 22 [.slice Ap p.length cp], .blk b1 71 [.pointer (some ⟨db, 0, none⟩)], .blk b3 9 [.string (bs nm)], .smap mb (kvE (putE es ⟨nm, u.1, u.2, p, p.length⟩)), filsO (putE es ⟨nm, u.1, u.2, p, p.length⟩)], .blk db 128 [.map (some mb), .bool D2.off, arV D2.ar ab], .grp (armO D2.ar ab)]) (by kernel_rfl)
      replace hH : Hp w w9 _ _ (.grp [.blk b5 22 [.slice Ap p.length cp], .blk b1 71 [.pointer (some ⟨db, 0, none⟩)], .blk b3 9 [.string (bs nm)], .smap mb (kvE (putE es ⟨nm, u.1, u.2, p, p.length⟩)), filsO (putE es ⟨nm, u.1, u.2, p, p.length⟩)] :: [.blk db 128 [.map (some mb), .bool D2.off, arV D2.ar ab], .grp (armO D2.ar ab)]) := hH
      replace hH := hH.open_
      replace hH : Hp w w9 _ _ [.blk b5 22 [.slice Ap p.length cp], .blk b1 71 [.pointer (some ⟨db, 0, none⟩)], .blk b3 9 [.string (bs nm)], .smap mb (kvE (putE es ⟨nm, u.1, u.2, p, p.length⟩)), filsO (putE es ⟨nm, u.1, u.2, p, p.length⟩), .blk db 128 [.map (some mb), .bool D2.off, arV D2.ar ab], .grp (armO D2.ar ab)] := hH
      replace hH : Hp w w9 _ _ [.blk b5 22 [.slice Ap p.length cp], .blk b1 71 [.pointer (some ⟨db, 0, none⟩)], .blk b3 9 [.string (bs nm)], .smap mb (kvE (putE es ⟨nm, u.1, u.2, p, p.length⟩)), filsO (putE es ⟨nm, u.1, u.2, p, p.length⟩), .blk db 128 [.map (some mb), .bool D2.off, arV D2.ar ab], .grp (armO D2.ar ab)] := hH
      replace hH := hH.pick [5, 3, 4, 6, 0, 1, 2] (by kernel_rfl) (os' := [.blk db 128 [.map (some mb), .bool D2.off, arV D2.ar ab], .smap mb (kvE (putE es ⟨nm, u.1, u.2, p, p.length⟩)), filsO (putE es ⟨nm, u.1, u.2, p, p.length⟩), .grp (armO D2.ar ab), .blk b5 22 [.slice Ap p.length cp], .blk b1 71 [.pointer (some ⟨db, 0, none⟩)], .blk b3 9 [.string (bs nm)]]) (by kernel_rfl)
      replace hH := (hH.sublist (.cons_cons _ (.cons_cons _ (.cons_cons _ (.cons_cons _ (List.nil_sublist _))))))
      replace hH : Hp w w9 _ _ [.blk db 128 [.map (some mb), .bool D2.off, arV D2.ar ab], .smap mb (kvE (putE es ⟨nm, u.1, u.2, p, p.length⟩)), filsO (putE es ⟨nm, u.1, u.2, p, p.length⟩), .grp (armO D2.ar ab)] := hH
      exact fin_run (kind := 2) (th := false) (n := 0) rfl hm0 (fun h => absurd h.1 (by decide)) hcut (by decide) hrun (rep_put hR _) ((hH.close (r := [])).turned)
    ·
      replace hH : Hp w w9 _ _ [.blk db 128 [.map (some mb), .bool D2.off, arV D2.ar ab], .grp (armO D2.ar ab), .grp [.blk b5 22 [.slice Ap p.length cp], .blk b1 71 [.pointer (some ⟨db, 0, none⟩)], .blk b3 9 [.string (bs nm)], .smap mb (kvE es), filsO es]] := hH
      replace hH := hH.pick [2, 0, 1] (by kernel_rfl) (os' := [.grp [.blk b5 22 [.slice Ap p.length cp], .blk b1 71 [.pointer (some ⟨db, 0, none⟩)], .blk b3 9 [.string (bs nm)], .smap mb (kvE es), filsO es], .blk db 128 [.map (some mb), .bool D2.off, arV D2.ar ab], .grp (armO D2.ar ab)]) (by kernel_rfl)
      replace hH : Hp w w9 _ _ (.grp [.blk b5 22 [.slice Ap p.length cp], .blk b1 71 [.pointer (some ⟨db, 0, none⟩)], .blk b3 9 [.string (bs nm)], .smap mb (kvE es), filsO es] :: [.blk db 128 [.map (some mb), .bool D2.off, arV D2.ar ab], .grp (armO D2.ar ab)]) := hH
      replace hH := hH.open_
      replace hH : Hp w w9 _ _ [.blk b5 22 [.slice Ap p.length cp], .blk b1 71 [.pointer (some ⟨db, 0, none⟩)], .blk b3 9 [.string (bs nm)], .smap mb (kvE es), filsO es, .blk db 128 [.map (some mb), .bool D2.off, arV D2.ar ab], .grp (armO D2.ar ab)] := hH
      replace hH : Hp w w9 _ _ [.blk b5 22 [.slice Ap p.length cp], .blk b1 71 [.pointer (some ⟨db, 0, none⟩)], .blk b3 9 [.string (bs nm)], .smap mb (kvE es), filsO es, .blk db 128 [.map (some mb), .bool D2.off, arV D2.ar ab], .grp (armO D2.ar ab)] := hH
      replace hH := hH.pick [5, 3, 4, 6, 0, 1, 2] (by kernel_rfl) (os' := [.blk db 128 [.map (some mb), .bool D2.off, arV D2.ar ab], .smap mb (kvE es), filsO es, .grp (armO D2.ar ab), .blk b5 22 [.slice Ap p.length cp], .blk b1 71 [.pointer (some ⟨db, 0, none⟩)], .blk b3 9 [.string (bs nm)]]) (by kernel_rfl)
      replace hH := (hH.sublist (.cons_cons _ (.cons_cons _ (.cons_cons _ (.cons_cons _ (List.nil_sublist _))))))
      replace hH : Hp w w9 _ _ [.blk db 128 [.map (some mb), .bool D2.off, arV D2.ar ab], .smap mb (kvE es), filsO es, .grp (armO D2.ar ab)] := hH
      exact fin_not (kind := 2) (th := false) (n := 0) hR rfl hm0 (fun h => absurd h.1 (by decide)) hcut (by decide) hrun ((hH.close (r := [])).turned)
    
  try simp only [decide_eq_false_iff_not, beq_eq_false_iff_ne, bne_eq_false_iff_eq, ne_eq, Decidable.not_not, Int.not_lt, Int.not_le, Bool.not_eq_false', beq_iff_eq, bne_iff_ne, decide_eq_true_eq] at hg1
  have hm00 : mayP D.off es nm = 0 := by omega
  have hm0 : mayE D nm false = 0 := ff_zero hR (.inl hm00)
  refine gl_ops 4 [(3, .pointer (some ⟨b1, 0, none⟩)), (4, .pointer (some ⟨b3, 0, none⟩)), (5, .pointer (some ⟨b5, 0, none⟩)), (8, errV (mayP D.off es nm)), (21, .bool false)] (by kernel_rfl) ?_
  refine gl_done rfl ?_
  refine sw_next ?_
  refine sw_false rfl rfl ?_
  refine sw_skip ?_
  refine sw_next ?_
  refine sw_seq ?_
  refine sw_region ?_  -- R4 disk.go:108
  refine gl_q rfl rfl rfl (rd_loadK 2 (by kernel_rfl) hH rfl rfl rfl) ?_
  obtain ⟨D2, cu, pt, hcut⟩ : ∃ D2 cu pt, cutD D = (D2, cu, pt) := ⟨_, _, _, rfl⟩
  replace hH : Hp w w7 _ _ [filsO es, .grp (armO D.ar ab), .blk b1 71 [.pointer (some ⟨db, 0, none⟩)], .blk b3 9 [.string (bs nm)], .blk b5 22 [.slice Ap p.length cp], .blk db 128 [.map (some mb), .bool D.off, arV D.ar ab], .smap mb (kvE es)] := hH
  replace hH := hH.pick [4, 2, 3, 6, 0, 1, 5] (by kernel_rfl) (os' := [.blk b5 22 [.slice Ap p.length cp], .blk b1 71 [.pointer (some ⟨db, 0, none⟩)], .blk b3 9 [.string (bs nm)], .smap mb (kvE es), filsO es, .grp (armO D.ar ab), .blk db 128 [.map (some mb), .bool D.off, arV D.ar ab]]) (by kernel_rfl)
  replace hH : Hp w w7 _ _ ([.blk b5 22 [.slice Ap p.length cp], .blk b1 71 [.pointer (some ⟨db, 0, none⟩)], .blk b3 9 [.string (bs nm)], .smap mb (kvE es), filsO es] ++ [.grp (armO D.ar ab), .blk db 128 [.map (some mb), .bool D.off, arV D.ar ab]]) := hH
  replace hH := hH.close
  replace hH : Hp w w7 _ _ [.grp [.blk b5 22 [.slice Ap p.length cp], .blk b1 71 [.pointer (some ⟨db, 0, none⟩)], .blk b3 9 [.string (bs nm)], .smap mb (kvE es), filsO es], .grp (armO D.ar ab), .blk db 128 [.map (some mb), .bool D.off, arV D.ar ab]] := hH
  refine gl_ops 1 [(23, .pointer (some ⟨db, 0, none⟩)), (24, .func (.func 77) #[] #[.pointer (some ⟨b5, 0, none⟩), .pointer (some ⟨b1, 0, none⟩), .pointer (some ⟨b3, 0, none⟩)])] (by kernel_rfl) ?_
  replace hH : Hp w w7 _ _ [.grp [.blk b5 22 [.slice Ap p.length cp], .blk b1 71 [.pointer (some ⟨db, 0, none⟩)], .blk b3 9 [.string (bs nm)], .smap mb (kvE es), filsO es], .grp (armO D.ar ab), .blk db 128 [.map (some mb), .bool D.off, arV D.ar ab]] := hH
  replace hH := hH.pick [2, 1, 0] (by kernel_rfl) (os' := [.blk db 128 [.map (some mb), .bool D.off, arV D.ar ab], .grp (armO D.ar ab), .grp [.blk b5 22 [.slice Ap p.length cp], .blk b1 71 [.pointer (some ⟨db, 0, none⟩)], .blk b3 9 [.string (bs nm)], .smap mb (kvE es), filsO es]]) (by kernel_rfl)
  replace hH : Hp w w7 _ _ ([.blk db 128 [.map (some mb), .bool D.off, arV D.ar ab], .grp (armO D.ar ab), .grp [.blk b5 22 [.slice Ap p.length cp], .blk b1 71 [.pointer (some ⟨db, 0, none⟩)], .blk b3 9 [.string (bs nm)], .smap mb (kvE es), filsO es]] ++ []) := hH
  refine gl_st (st_call rfl rfl rfl (by kernel_rfl) rfl (DAct_ct (γ := Nat × Value) _ ab _ D D2 cu pt 77 _ (.grp [.blk b5 22 [.slice Ap p.length cp], .blk b1 71 [.pointer (some ⟨db, 0, none⟩)], .blk b3 9 [.string (bs nm)], .smap mb (kvE es), filsO es]) (fun u => .grp [.blk b5 22 [.slice Ap p.length cp], .blk b1 71 [.pointer (some ⟨db, 0, none⟩)], .blk b3 9 [.string (bs nm)], .smap mb (kvE (putE es ⟨nm, u.1, u.2, p, p.length⟩)), filsO (putE es ⟨nm, u.1, u.2, p, p.length⟩)]) (off w (blksOf (ownD db mb ab D es))) _ hcut hA hH.mine hH.zoff (by kernel_rfl) (fun w1 hM1 hz1 => PutDo_ct b5 b1 b3 db mb D2.off (arV D2.ar ab) _ es nm p _ w1 hM1 hp hz1 hpl)) ?_)
  rintro _ w11 ⟨x', rfl, hF12, hor⟩
  replace hH := hH.turns hF12; clear hF12
  replace hH : Hp w w11 _ _ [.blk db 128 [.map (some mb), .bool D2.off, arV D2.ar ab], .grp (armO D2.ar ab), x'] := hH
  refine gl_ops 1 [(6, errV (if cu = true then 80 else 0))] (by kernel_rfl) ?_
  refine gl_done rfl ?_
  refine sw_next ?_
  refine sw_ret ?_
  refine ret1 rfl rfl  ?_
  rcases hor with ⟨hrun, u, rfl⟩ | ⟨hrun, rfl⟩
  ·
    replace hH : Hp w w11 _ _ [.blk db 128 [.map (some mb), .bool D2.off, arV D2.ar ab], .grp (armO D2.ar ab), .grp [.blk b5 22 [.slice Ap p.length cp], .blk b1 71 [.pointer (some ⟨db, 0, none⟩)], .blk b3 9 [.string (bs nm)], .smap mb (kvE (putE es ⟨nm, u.1, u.2, p, p.length⟩)), filsO (putE es ⟨nm, u.1, u.2, p, p.length⟩)]] := hH
    replace hH := hH.pick [2, 0, 1] (by kernel_rfl) (os' := [.grp [.blk b5 22 [.slice Ap p.length cp], .blk b1 71 [.pointer (some ⟨db, 0, none⟩)], .blk b3 9 [.string (bs nm)], .smap mb (kvE (putE es ⟨nm, u.1, u.2, p, p.length⟩)), filsO (putE es ⟨nm, u.1, u.2, p, p.length⟩)], .blk db 128 [.map (some mb), .bool D2.off, arV D2.ar ab], .grp (armO D2.ar ab)]) (by kernel_rfl)
    replace hH : Hp w w11 _ _ (.grp [.blk b5 22 [.slice Ap p.length cp], .blk b1 71 [.pointer (some ⟨db, 0, none⟩)], .blk b3 9 [.string (bs nm)], .smap mb (kvE (putE es ⟨nm, u.1, u.2, p, p.length⟩)), filsO (putE es ⟨nm, u.1, u.2, p, p.length⟩)] :: [.blk db 128 [.map (some mb), .bool D2.off, arV D2.ar ab], .grp (armO D2.ar ab)]) := hH
    replace hH := hH.open_
    replace hH : Hp w w11 _ _ [.blk b5 22 [.slice Ap p.length cp], .blk b1 71 [.pointer (some ⟨db, 0, none⟩)], .blk b3 9 [.string (bs nm)], .smap mb (kvE (putE es ⟨nm, u.1, u.2, p, p.length⟩)), filsO (putE es ⟨nm, u.1, u.2, p, p.length⟩), .blk db 128 [.map (some mb), .bool D2.off, arV D2.ar ab], .grp (armO D2.ar ab)] := hH
    replace hH : Hp w w11 _ _ [.blk b5 22 [.slice Ap p.length cp], .blk b1 71 [.pointer (some ⟨db, 0, none⟩)], .blk b3 9 [.string (bs nm)], .smap mb (kvE (putE es ⟨nm, u.1, u.2, p, p.length⟩)), filsO (putE es ⟨nm, u.1, u.2, p, p.length⟩), .blk db 128 [.map (some mb), .bool D2.off, arV D2.ar ab], .grp (armO D2.ar ab)] := hH
    replace hH := hH.pick [5, 3, 4, 6, 0, 1, 2] (by kernel_rfl) (os' := [.blk db 128 [.map (some mb), .bool D2.off, arV D2.ar ab], .smap mb (kvE (putE es ⟨nm, u.1, u.2, p, p.length⟩)), filsO (putE es ⟨nm, u.1, u.2, p, p.length⟩), .grp (armO D2.ar ab), .blk b5 22 [.slice Ap p.length cp], .blk b1 71 [.pointer (some ⟨db, 0, none⟩)], .blk b3 9 [.string (bs nm)]]) (by kernel_rfl)
    replace hH := (hH.sublist (.cons_cons _ (.cons_cons _ (.cons_cons _ (.cons_cons _ (List.nil_sublist _))))))
    replace hH : Hp w w11 _ _ [.blk db 128 [.map (some mb), .bool D2.off, arV D2.ar ab], .smap mb (kvE (putE es ⟨nm, u.1, u.2, p, p.length⟩)), filsO (putE es ⟨nm, u.1, u.2, p, p.length⟩), .grp (armO D2.ar ab)] := hH
    exact fin_run (kind := 2) (th := false) (n := 0) rfl hm0 (fun h => absurd h.1 (by decide)) hcut (by decide) hrun (rep_put hR _) ((hH.close (r := [])).turned)
  ·
    replace hH : Hp w w11 _ _ [.blk db 128 [.map (some mb), .bool D2.off, arV D2.ar ab], .grp (armO D2.ar ab), .grp [.blk b5 22 [.slice Ap p.length cp], .blk b1 71 [.pointer (some ⟨db, 0, none⟩)], .blk b3 9 [.string (bs nm)], .smap mb (kvE es), filsO es]] := hH
    replace hH := hH.pick [2, 0, 1] (by kernel_rfl) (os' := [.grp [.blk b5 22 [.slice Ap p.length cp], .blk b1 71 [.pointer (some ⟨db, 0, none⟩)], .blk b3 9 [.string (bs nm)], .smap mb (kvE es), filsO es], .blk db 128 [.map (some mb), .bool D2.off, arV D2.ar ab], .grp (armO D2.ar ab)]) (by kernel_rfl)
    replace hH : Hp w w11 _ _ (.grp [.blk b5 22 [.slice Ap p.length cp], .blk b1 71 [.pointer (some ⟨db, 0, none⟩)], .blk b3 9 [.string (bs nm)], .smap mb (kvE es), filsO es] :: [.blk db 128 [.map (some mb), .bool D2.off, arV D2.ar ab], .grp (armO D2.ar ab)]) := hH
    replace hH := hH.open_
    replace hH : Hp w w11 _ _ [.blk b5 22 [.slice Ap p.length cp], .blk b1 71 [.pointer (some ⟨db, 0, none⟩)], .blk b3 9 [.string (bs nm)], .smap mb (kvE es), filsO es, .blk db 128 [.map (some mb), .bool D2.off, arV D2.ar ab], .grp (armO D2.ar ab)] := hH
    replace hH : Hp w w11 _ _ [.blk b5 22 [.slice Ap p.length cp], .blk b1 71 [.pointer (some ⟨db, 0, none⟩)], .blk b3 9 [.string (bs nm)], .smap mb (kvE es), filsO es, .blk db 128 [.map (some mb), .bool D2.off, arV D2.ar ab], .grp (armO D2.ar ab)] := hH
    replace hH := hH.pick [5, 3, 4, 6, 0, 1, 2] (by kernel_rfl) (os' := [.blk db 128 [.map (some mb), .bool D2.off, arV D2.ar ab], .smap mb (kvE es), filsO es, .grp (armO D2.ar ab), .blk b5 22 [.slice Ap p.length cp], .blk b1 71 [.pointer (some ⟨db, 0, none⟩)], .blk b3 9 [.string (bs nm)]]) (by kernel_rfl)
    replace hH := (hH.sublist (.cons_cons _ (.cons_cons _ (.cons_cons _ (.cons_cons _ (List.nil_sublist _))))))
    replace hH : Hp w w11 _ _ [.blk db 128 [.map (some mb), .bool D2.off, arV D2.ar ab], .smap mb (kvE es), filsO es, .grp (armO D2.ar ab)] := hH
    exact fin_not (kind := 2) (th := false) (n := 0) hR rfl hm0 (fun h => absurd h.1 (by decide)) hcut (by decide) hrun ((hH.close (r := [])).turned)
  
theorem Remove_ct (db mb ab : Nat) (D : Dsk) (es : List PE) (nm : List UInt8) (M : Nat) (w : World) (hM : Mine w (ownD db mb ab D es)) (hR : Rep es D.fs) (hA : ArOk D.ar) (hG : Good D.fs M) (hMM : M ≤ 4194304) (hs : nm.length ≤ 140737488355328) :
    Fun Tryd.prog 66 [.pointer (some ⟨db, 0, none⟩), .string (bs nm)] w fun v w' => ActPost db mb ab D es (doD D 4 nm [] 0) w v w' := by
  refine fun_of_sw Tryd.func66 rfl 19 rfl rfl ?_
  have hH : Hp w w (off w (blksOf (ownD db mb ab D es))) (blksOf (ownD db mb ab D es)) (dskO db mb ab D es ++ []) := (Hp.start_mine hM).open_
  replace hH : Hp w w _ _ [.blk db 128 [.map (some mb), .bool D.off, arV D.ar ab], .smap mb (kvE es), filsO es, .grp (armO D.ar ab)] := hH
  refine sw_seq ?_
  refine sw_region ?_  -- R0 disk.go:124
  refine gl_st (st_boxH (cs := [.pointer (some ⟨db, 0, none⟩)]) rfl rfl rfl rfl hH ?_)
  clear hH; intro b1 w2 hH
  refine gl_st (st_boxH (cs := [.string (bs nm)]) rfl rfl rfl rfl hH ?_)
  clear hH; intro b3 w4 hH
  refine gl_ops 1 [(2, .pointer (some ⟨b1, 0, none⟩)), (3, .pointer (some ⟨b3, 0, none⟩))] (by kernel_rfl) ?_
  refine gl_done rfl ?_
  refine sw_next ?_
  refine sw_seq ?_
  refine sw_seq ?_
  refine sw_region ?_  -- R1 disk.go:125
  refine gl_q rfl rfl rfl (rd_loadK 4 (by kernel_rfl) hH rfl rfl rfl) ?_
  refine gl_q rfl rfl rfl (rd_loadK 5 (by kernel_rfl) hH rfl rfl rfl) ?_
  replace hH : Hp w w4 _ _ ([.blk db 128 [.map (some mb), .bool D.off, arV D.ar ab], .smap mb (kvE es)] ++ [filsO es, .grp (armO D.ar ab), .blk b1 71 [.pointer (some ⟨db, 0, none⟩)], .blk b3 9 [.string (bs nm)]]) := hH
  refine gl_st (st_call rfl rfl rfl (by kernel_rfl) rfl (At_ct _ _ _ _ es nm _ hs hH.mine) ?_)
  rintro _ w5 ⟨rfl, hF6⟩
  replace hH := hH.turns hF6; clear hF6
  replace hH : Hp w w5 _ _ [filsO es, .grp (armO D.ar ab), .blk b1 71 [.pointer (some ⟨db, 0, none⟩)], .blk b3 9 [.string (bs nm)], .blk db 128 [.map (some mb), .bool D.off, arV D.ar ab], .smap mb (kvE es)] := hH
  refine gl_ops 5 [(2, .pointer (some ⟨b1, 0, none⟩)), (3, .pointer (some ⟨b3, 0, none⟩)), (6, errV (mayP D.off es nm))] (by kernel_rfl) ?_
  refine gl_done rfl ?_
  refine sw_next ?_
  refine sw_seq ?_
  refine sw_region ?_  -- R2 disk.go:125
  refine gl_ops 1 [(2, .pointer (some ⟨b1, 0, none⟩)), (3, .pointer (some ⟨b3, 0, none⟩)), (6, errV (mayP D.off es nm)), (13, errV (mayP D.off es nm))] (by kernel_rfl) ?_
  refine gl_q rfl rfl rfl (rd_err_ne (by kernel_rfl) rfl) ?_
  refine gl_done rfl ?_
  refine sw_next ?_
  refine sw_cond rfl rfl (fun hc1 => ?_) (fun hc1 => ?_)
  ·
    try simp only [decide_eq_true_eq, beq_iff_eq, bne_iff_ne, ne_eq, Bool.not_eq_true', beq_eq_false_iff_ne, bne_eq_false_iff_eq, decide_eq_false_iff_not, Int.not_lt, Int.not_le] at hc1
    refine sw_seq ?_
    refine sw_region ?_  -- R3 disk.go:126
    refine gl_ops 2 [(4, errV (mayP D.off es nm))] (by kernel_rfl) ?_
    refine gl_done rfl ?_
    refine sw_next ?_
    refine sw_ret ?_
    refine thR ?_
    refine ret1 rfl rfl  ?_
    replace hH : Hp w w5 _ _ [filsO es, .grp (armO D.ar ab), .blk b1 71 [.pointer (some ⟨db, 0, none⟩)], .blk b3 9 [.string (bs nm)], .blk db 128 [.map (some mb), .bool D.off, arV D.ar ab], .smap mb (kvE es)] := hH
    replace hH := hH.pick [4, 5, 0, 1, 2, 3] (by kernel_rfl) (os' := [.blk db 128 [.map (some mb), .bool D.off, arV D.ar ab], .smap mb (kvE es), filsO es, .grp (armO D.ar ab), .blk b1 71 [.pointer (some ⟨db, 0, none⟩)], .blk b3 9 [.string (bs nm)]]) (by kernel_rfl)
    replace hH := (hH.sublist (.cons_cons _ (.cons_cons _ (.cons_cons _ (.cons_cons _ (List.nil_sublist _))))))
    replace hH : Hp w w5 _ _ [.blk db 128 [.map (some mb), .bool D.off, arV D.ar ab], .smap mb (kvE es), filsO es, .grp (armO D.ar ab)] := hH
    exact fin_err (kind := 4) (th := true) hR rfl _ (mayP_eq hR nm) (by omega) ((hH.close (r := [])).turned)
  try simp only [decide_eq_false_iff_not, beq_eq_false_iff_ne, bne_eq_false_iff_eq, ne_eq, Decidable.not_not, Int.not_lt, Int.not_le, Bool.not_eq_false', beq_iff_eq, bne_iff_ne, decide_eq_true_eq] at hc1
  have hm0 : mayE D nm true = 0 := by rw [mayP_eq hR]; omega
  obtain ⟨fb, fv, b, sr, he, hat, hlt⟩ := at_zero (show mayP D.off es nm = 0 by omega)
  have hold := old_of hR he
  refine sw_skip ?_
  refine sw_next ?_
  refine sw_seq ?_
  refine sw_region ?_  -- R4 disk.go:128
  refine gl_q rfl rfl rfl (rd_loadK 2 (by kernel_rfl) hH rfl rfl rfl) ?_
  obtain ⟨D2, cu, pt, hcut⟩ : ∃ D2 cu pt, cutD D = (D2, cu, pt) := ⟨_, _, _, rfl⟩
  replace hH : Hp w w5 _ _ [filsO es, .grp (armO D.ar ab), .blk b1 71 [.pointer (some ⟨db, 0, none⟩)], .blk b3 9 [.string (bs nm)], .blk db 128 [.map (some mb), .bool D.off, arV D.ar ab], .smap mb (kvE es)] := hH
  replace hH := hH.pick [2, 3, 5, 0, 1, 4] (by kernel_rfl) (os' := [.blk b1 71 [.pointer (some ⟨db, 0, none⟩)], .blk b3 9 [.string (bs nm)], .smap mb (kvE es), filsO es, .grp (armO D.ar ab), .blk db 128 [.map (some mb), .bool D.off, arV D.ar ab]]) (by kernel_rfl)
  replace hH : Hp w w5 _ _ ([.blk b1 71 [.pointer (some ⟨db, 0, none⟩)], .blk b3 9 [.string (bs nm)], .smap mb (kvE es), filsO es] ++ [.grp (armO D.ar ab), .blk db 128 [.map (some mb), .bool D.off, arV D.ar ab]]) := hH
  replace hH := hH.close
  replace hH : Hp w w5 _ _ [.grp [.blk b1 71 [.pointer (some ⟨db, 0, none⟩)], .blk b3 9 [.string (bs nm)], .smap mb (kvE es), filsO es], .grp (armO D.ar ab), .blk db 128 [.map (some mb), .bool D.off, arV D.ar ab]] := hH
  refine gl_ops 1 [(16, .pointer (some ⟨db, 0, none⟩)), (17, .func (.func 96) #[] #[.pointer (some ⟨b1, 0, none⟩), .pointer (some ⟨b3, 0, none⟩)])] (by kernel_rfl) ?_
  replace hH : Hp w w5 _ _ [.grp [.blk b1 71 [.pointer (some ⟨db, 0, none⟩)], .blk b3 9 [.string (bs nm)], .smap mb (kvE es), filsO es], .grp (armO D.ar ab), .blk db 128 [.map (some mb), .bool D.off, arV D.ar ab]] := hH
  replace hH := hH.pick [2, 1, 0] (by kernel_rfl) (os' := [.blk db 128 [.map (some mb), .bool D.off, arV D.ar ab], .grp (armO D.ar ab), .grp [.blk b1 71 [.pointer (some ⟨db, 0, none⟩)], .blk b3 9 [.string (bs nm)], .smap mb (kvE es), filsO es]]) (by kernel_rfl)
  replace hH : Hp w w5 _ _ ([.blk db 128 [.map (some mb), .bool D.off, arV D.ar ab], .grp (armO D.ar ab), .grp [.blk b1 71 [.pointer (some ⟨db, 0, none⟩)], .blk b3 9 [.string (bs nm)], .smap mb (kvE es), filsO es]] ++ []) := hH
  refine gl_st (st_call rfl rfl rfl (by kernel_rfl) rfl (DAct_ct (γ := Unit) _ ab _ D D2 cu pt 96 _ (.grp [.blk b1 71 [.pointer (some ⟨db, 0, none⟩)], .blk b3 9 [.string (bs nm)], .smap mb (kvE es), filsO es]) (fun u => .grp [.blk b1 71 [.pointer (some ⟨db, 0, none⟩)], .blk b3 9 [.string (bs nm)], .smap mb (kvE (es.eraseIdx (ixE es nm))), filsO (es.eraseIdx (ixE es nm))]) (fun _ => none) _ hcut hA hH.mine (fun _ _ h => by cases h) (by kernel_rfl) (fun w1 hM1 _ => RemDo_ct b1 b3 db mb D2.off (arV D2.ar ab) es nm w1 hM1 hlt)) ?_)
  rintro _ w7 ⟨x', rfl, hF8, hor⟩
  replace hH := hH.turns hF8; clear hF8
  replace hH : Hp w w7 _ _ [.blk db 128 [.map (some mb), .bool D2.off, arV D2.ar ab], .grp (armO D2.ar ab), x'] := hH
  refine gl_ops 1 [(4, errV (if cu = true then 80 else 0))] (by kernel_rfl) ?_
  refine gl_done rfl ?_
  refine sw_next ?_
  refine sw_ret ?_
  refine ret1 rfl rfl  ?_
  rcases hor with ⟨hrun, u, rfl⟩ | ⟨hrun, rfl⟩
  ·
    replace hH : Hp w w7 _ _ [.blk db 128 [.map (some mb), .bool D2.off, arV D2.ar ab], .grp (armO D2.ar ab), .grp [.blk b1 71 [.pointer (some ⟨db, 0, none⟩)], .blk b3 9 [.string (bs nm)], .smap mb (kvE (es.eraseIdx (ixE es nm))), filsO (es.eraseIdx (ixE es nm))]] := hH
    replace hH := hH.pick [2, 0, 1] (by kernel_rfl) (os' := [.grp [.blk b1 71 [.pointer (some ⟨db, 0, none⟩)], .blk b3 9 [.string (bs nm)], .smap mb (kvE (es.eraseIdx (ixE es nm))), filsO (es.eraseIdx (ixE es nm))], .blk db 128 [.map (some mb), .bool D2.off, arV D2.ar ab], .grp (armO D2.ar ab)]) (by kernel_rfl)
    replace hH : Hp w w7 _ _ (.grp [.blk b1 71 [.pointer (some ⟨db, 0, none⟩)], .blk b3 9 [.string (bs nm)], .smap mb (kvE (es.eraseIdx (ixE es nm))), filsO (es.eraseIdx (ixE es nm))] :: [.blk db 128 [.map (some mb), .bool D2.off, arV D2.ar ab], .grp (armO D2.ar ab)]) := hH
    replace hH := hH.open_
    replace hH : Hp w w7 _ _ [.blk b1 71 [.pointer (some ⟨db, 0, none⟩)], .blk b3 9 [.string (bs nm)], .smap mb (kvE (es.eraseIdx (ixE es nm))), filsO (es.eraseIdx (ixE es nm)), .blk db 128 [.map (some mb), .bool D2.off, arV D2.ar ab], .grp (armO D2.ar ab)] := hH
    replace hH : Hp w w7 _ _ [.blk b1 71 [.pointer (some ⟨db, 0, none⟩)], .blk b3 9 [.string (bs nm)], .smap mb (kvE (es.eraseIdx (ixE es nm))), filsO (es.eraseIdx (ixE es nm)), .blk db 128 [.map (some mb), .bool D2.off, arV D2.ar ab], .grp (armO D2.ar ab)] := hH
    replace hH := hH.pick [4, 2, 3, 5, 0, 1] (by kernel_rfl) (os' := [.blk db 128 [.map (some mb), .bool D2.off, arV D2.ar ab], .smap mb (kvE (es.eraseIdx (ixE es nm))), filsO (es.eraseIdx (ixE es nm)), .grp (armO D2.ar ab), .blk b1 71 [.pointer (some ⟨db, 0, none⟩)], .blk b3 9 [.string (bs nm)]]) (by kernel_rfl)
    replace hH := (hH.sublist (.cons_cons _ (.cons_cons _ (.cons_cons _ (.cons_cons _ (List.nil_sublist _))))))
    replace hH : Hp w w7 _ _ [.blk db 128 [.map (some mb), .bool D2.off, arV D2.ar ab], .smap mb (kvE (es.eraseIdx (ixE es nm))), filsO (es.eraseIdx (ixE es nm)), .grp (armO D2.ar ab)] := hH
    exact fin_run (kind := 4) (th := true) (n := 0) rfl hm0 (fun h => absurd h.1 (by decide)) hcut (by decide) hrun (rep_del hR nm) ((hH.close (r := [])).turned)
  ·
    replace hH : Hp w w7 _ _ [.blk db 128 [.map (some mb), .bool D2.off, arV D2.ar ab], .grp (armO D2.ar ab), .grp [.blk b1 71 [.pointer (some ⟨db, 0, none⟩)], .blk b3 9 [.string (bs nm)], .smap mb (kvE es), filsO es]] := hH
    replace hH := hH.pick [2, 0, 1] (by kernel_rfl) (os' := [.grp [.blk b1 71 [.pointer (some ⟨db, 0, none⟩)], .blk b3 9 [.string (bs nm)], .smap mb (kvE es), filsO es], .blk db 128 [.map (some mb), .bool D2.off, arV D2.ar ab], .grp (armO D2.ar ab)]) (by kernel_rfl)
    replace hH : Hp w w7 _ _ (.grp [.blk b1 71 [.pointer (some ⟨db, 0, none⟩)], .blk b3 9 [.string (bs nm)], .smap mb (kvE es), filsO es] :: [.blk db 128 [.map (some mb), .bool D2.off, arV D2.ar ab], .grp (armO D2.ar ab)]) := hH
    replace hH := hH.open_
    replace hH : Hp w w7 _ _ [.blk b1 71 [.pointer (some ⟨db, 0, none⟩)], .blk b3 9 [.string (bs nm)], .smap mb (kvE es), filsO es, .blk db 128 [.map (some mb), .bool D2.off, arV D2.ar ab], .grp (armO D2.ar ab)] := hH
    replace hH : Hp w w7 _ _ [.blk b1 71 [.pointer (some ⟨db, 0, none⟩)], .blk b3 9 [.string (bs nm)], .smap mb (kvE es), filsO es, .blk db 128 [.map (some mb), .bool D2.off, arV D2.ar ab], .grp (armO D2.ar ab)] := hH
    replace hH := hH.pick [4, 2, 3, 5, 0, 1] (by kernel_rfl) (os' := [.blk db 128 [.map (some mb), .bool D2.off, arV D2.ar ab], .smap mb (kvE es), filsO es, .grp (armO D2.ar ab), .blk b1 71 [.pointer (some ⟨db, 0, none⟩)], .blk b3 9 [.string (bs nm)]]) (by kernel_rfl)
    replace hH := (hH.sublist (.cons_cons _ (.cons_cons _ (.cons_cons _ (.cons_cons _ (List.nil_sublist _))))))
    replace hH : Hp w w7 _ _ [.blk db 128 [.map (some mb), .bool D2.off, arV D2.ar ab], .smap mb (kvE es), filsO es, .grp (armO D2.ar ab)] := hH
    exact fin_not (kind := 4) (th := true) (n := 0) hR rfl hm0 (fun h => absurd h.1 (by decide)) hcut (by decide) hrun ((hH.close (r := [])).turned)
  
theorem CutAct_ct (db mb ab : Nat) (D : Dsk) (es : List PE) (nm : List UInt8) (n : Int) (M : Nat) (w : World) (hM : Mine w (ownD db mb ab D es)) (hR : Rep es D.fs) (hA : ArOk D.ar) (hG : Good D.fs M) (hMM : M ≤ 4194304) (hs : nm.length ≤ 140737488355328) :
    Fun Tryd.prog 65 [.pointer (some ⟨db, 0, none⟩), .string (bs nm), .int .i64 n] w fun v w' => ActPost db mb ab D es (doD D 3 nm [] n) w v w' := by
  refine fun_of_sw Tryd.func65 rfl 33 rfl rfl ?_
  have hH : Hp w w (off w (blksOf (ownD db mb ab D es))) (blksOf (ownD db mb ab D es)) (dskO db mb ab D es ++ []) := (Hp.start_mine hM).open_
  replace hH : Hp w w _ _ [.blk db 128 [.map (some mb), .bool D.off, arV D.ar ab], .smap mb (kvE es), filsO es, .grp (armO D.ar ab)] := hH
  refine sw_seq ?_
  refine sw_region ?_  -- R0 disk.go:112
  refine gl_st (st_boxH (cs := [.int .i64 n]) rfl rfl rfl rfl hH ?_)
  clear hH; intro b1 w2 hH
  refine gl_ops 1 [(0, .pointer (some ⟨db, 0, none⟩)), (1, .string (bs nm)), (5, .pointer (some ⟨b1, 0, none⟩))] (by kernel_rfl) ?_
  refine gl_done rfl ?_
  refine sw_next ?_
  refine sw_seq ?_
  refine sw_region ?_  -- R1 disk.go:113
  refine gl_ops 2 [(0, .pointer (some ⟨db, 0, none⟩)), (5, .pointer (some ⟨b1, 0, none⟩)), (10, .pointer (some ⟨db, 0, none⟩)), (11, .string (bs nm))] (by kernel_rfl) ?_
  replace hH : Hp w w2 _ _ ([.blk db 128 [.map (some mb), .bool D.off, arV D.ar ab], .smap mb (kvE es)] ++ [filsO es, .grp (armO D.ar ab), .blk b1 3 [.int .i64 n]]) := hH
  refine gl_st (st_call rfl rfl rfl (by kernel_rfl) rfl (At_ct _ _ _ _ es nm _ hs hH.mine) ?_)
  rintro _ w3 ⟨rfl, hF4⟩
  replace hH := hH.turns hF4; clear hF4
  replace hH : Hp w w3 _ _ [filsO es, .grp (armO D.ar ab), .blk b1 3 [.int .i64 n], .blk db 128 [.map (some mb), .bool D.off, arV D.ar ab], .smap mb (kvE es)] := hH
  refine gl_ops 3 [(0, .pointer (some ⟨db, 0, none⟩)), (5, .pointer (some ⟨b1, 0, none⟩)), (13, atV D.off es nm), (14, errV (mayP D.off es nm))] (by kernel_rfl) ?_
  refine gl_st (st_allocH rfl rfl rfl (cs := [.pointer none]) (by kernel_rfl) hH ?_)
  clear hH; intro b5 w6 hH
  refine gl_st (st_storeK (v := atV D.off es nm) 5 rfl rfl rfl hH rfl rfl (atV_one D.off es nm) (by kernel_rfl) rfl (by simp) ?_)
  clear hH; intro w7 hH
  refine gl_ops 1 [(0, .pointer (some ⟨db, 0, none⟩)), (5, .pointer (some ⟨b1, 0, none⟩)), (7, .pointer (some ⟨b5, 0, none⟩)), (8, errV (mayP D.off es nm))] (by kernel_rfl) ?_
  refine gl_done rfl ?_
  refine sw_next ?_
  refine sw_seq ?_
  refine sw_block ?_
  refine sw_seq ?_
  refine sw_region ?_  -- R2 disk.go:115
  refine gl_ops 1 [(0, .pointer (some ⟨db, 0, none⟩)), (5, .pointer (some ⟨b1, 0, none⟩)), (7, .pointer (some ⟨b5, 0, none⟩)), (8, errV (mayP D.off es nm)), (16, errV (mayP D.off es nm))] (by kernel_rfl) ?_
  refine gl_q rfl rfl rfl (rd_err_ne (by kernel_rfl) rfl) ?_
  refine gl_ops 1 [(0, .pointer (some ⟨db, 0, none⟩)), (5, .pointer (some ⟨b1, 0, none⟩)), (7, .pointer (some ⟨b5, 0, none⟩)), (8, errV (mayP D.off es nm)), (15, .bool ((mayP D.off es nm) != 0))] (by kernel_rfl) ?_
  refine gl_done rfl ?_
  refine sw_next ?_
  refine sw_cond rfl rfl (fun hc1 => ?_) (fun hc1 => ?_)
  ·
    refine sw_cv 15 (.bool true) (by rw [hc1]) rfl ?_
    try simp only [decide_eq_true_eq, beq_iff_eq, bne_iff_ne, ne_eq, Bool.not_eq_true', beq_eq_false_iff_ne, bne_eq_false_iff_eq, decide_eq_false_iff_not, Int.not_lt, Int.not_le] at hc1
    refine sw_seq ?_
    refine sw_region ?_  -- R3 disk.go:116
    refine gl_ops 2 [(6, errV (mayP D.off es nm))] (by kernel_rfl) ?_
    refine gl_done rfl ?_
    refine sw_next ?_
    refine sw_ret ?_
    refine bkR ?_
    refine thR ?_
    refine ret1 rfl rfl  ?_
    replace hH : Hp w w7 _ _ [filsO es, .grp (armO D.ar ab), .blk b1 3 [.int .i64 n], .blk db 128 [.map (some mb), .bool D.off, arV D.ar ab], .smap mb (kvE es), .blk b5 136 [atV D.off es nm]] := hH
    replace hH := hH.pick [3, 4, 0, 1, 2, 5] (by kernel_rfl) (os' := [.blk db 128 [.map (some mb), .bool D.off, arV D.ar ab], .smap mb (kvE es), filsO es, .grp (armO D.ar ab), .blk b1 3 [.int .i64 n], .blk b5 136 [atV D.off es nm]]) (by kernel_rfl)
    replace hH := (hH.sublist (.cons_cons _ (.cons_cons _ (.cons_cons _ (.cons_cons _ (List.nil_sublist _))))))
    replace hH : Hp w w7 _ _ [.blk db 128 [.map (some mb), .bool D.off, arV D.ar ab], .smap mb (kvE es), filsO es, .grp (armO D.ar ab)] := hH
    exact fin_err (kind := 3) (th := true) hR rfl _ (mayP_eq hR nm) (by omega) ((hH.close (r := [])).turned)
  refine sw_cv 15 (.bool false) (by rw [hc1]) rfl ?_
  try simp only [decide_eq_false_iff_not, beq_eq_false_iff_ne, bne_eq_false_iff_eq, ne_eq, Decidable.not_not, Int.not_lt, Int.not_le, Bool.not_eq_false', beq_iff_eq, bne_iff_ne, decide_eq_true_eq] at hc1
  have hm0 : mayE D nm true = 0 := by rw [mayP_eq hR]; omega
  obtain ⟨fb, fv, b, sr, he, hat, hlt⟩ := at_zero (show mayP D.off es nm = 0 by omega)
  have hold := old_of hR he
  replace hH := hH.cast (os' := [filsO es, .grp (armO D.ar ab), .blk b1 3 [.int .i64 n], .blk db 128 [.map (some mb), .bool D.off, arV D.ar ab], .smap mb (kvE es), .blk b5 136 [.pointer (some ⟨fb, 0, none⟩)]]) (by first | (rw [hat]; done) | (rw [hat]; rfl))
  refine sw_seq ?_
  refine sw_seq ?_
  refine sw_region ?_  -- R4 disk.go:117
  refine gl_q rfl rfl rfl (rd_loadK 2 (by kernel_rfl) hH rfl rfl rfl) ?_
  refine gl_ops 2 [(0, .pointer (some ⟨db, 0, none⟩)), (5, .pointer (some ⟨b1, 0, none⟩)), (7, .pointer (some ⟨b5, 0, none⟩)), (19, .bool (decide ((n : Int) < (0 : Int))))] (by kernel_rfl) ?_
  refine gl_done rfl ?_
  refine sw_next ?_
  refine sw_cond rfl rfl (fun hc2 => ?_) (fun hc2 => ?_)
  ·
    refine sw_cv 19 (.bool true) (by rw [hc2]) rfl ?_
    try simp only [decide_eq_true_eq, beq_iff_eq, bne_iff_ne, ne_eq, Bool.not_eq_true', beq_eq_false_iff_ne, bne_eq_false_iff_eq, decide_eq_false_iff_not, Int.not_lt, Int.not_le] at hc2
    refine sw_skip ?_
    refine sw_next ?_
    refine sw_true rfl rfl ?_
    refine sw_seq ?_
    refine sw_region ?_  -- R6 disk.go:118
    refine gl_ops 2 [(6, .iface 37 (.int .i64 1))] (by kernel_rfl) ?_
    refine gl_done rfl ?_
    refine sw_next ?_
    refine sw_ret ?_
    refine bkR ?_
    refine thR ?_
    refine ret1 rfl rfl  ?_
    replace hH : Hp w w7 _ _ [filsO es, .grp (armO D.ar ab), .blk b1 3 [.int .i64 n], .blk db 128 [.map (some mb), .bool D.off, arV D.ar ab], .smap mb (kvE es), .blk b5 136 [.pointer (some ⟨fb, 0, none⟩)]] := hH
    replace hH := hH.pick [3, 4, 0, 1, 2, 5] (by kernel_rfl) (os' := [.blk db 128 [.map (some mb), .bool D.off, arV D.ar ab], .smap mb (kvE es), filsO es, .grp (armO D.ar ab), .blk b1 3 [.int .i64 n], .blk b5 136 [.pointer (some ⟨fb, 0, none⟩)]]) (by kernel_rfl)
    replace hH := (hH.sublist (.cons_cons _ (.cons_cons _ (.cons_cons _ (.cons_cons _ (List.nil_sublist _))))))
    replace hH : Hp w w7 _ _ [.blk db 128 [.map (some mb), .bool D.off, arV D.ar ab], .smap mb (kvE es), filsO es, .grp (armO D.ar ab)] := hH
    exact fin_arg hR hm0 (.inl (by omega)) ((hH.close (r := [])).turned)
  refine sw_cv 19 (.bool false) (by rw [hc2]) rfl ?_
  try simp only [decide_eq_false_iff_not, beq_eq_false_iff_ne, bne_eq_false_iff_eq, ne_eq, Decidable.not_not, Int.not_lt, Int.not_le, Bool.not_eq_false', beq_iff_eq, bne_iff_ne, decide_eq_true_eq] at hc2
  obtain ⟨k, rfl⟩ : ∃ k : Nat, n = k := ⟨n.toNat, by omega⟩
  obtain ⟨Af, cf, rfl, hf1, hf2⟩ := (fil_rb hH 0 rfl he).row.form
  refine sw_draw (by kernel_rfl) (fun w_ => Hp w w_ (off w (blksOf (ownD db mb ab D es))) (blksOf (ownD db mb ab D es)) [filsO es, .grp (armO D.ar ab), .blk b1 3 [.int .i64 ((k : Nat) : Int)], .blk db 128 [.map (some mb), .bool D.off, arV D.ar ab], .smap mb (kvE es), .blk b5 136 [.pointer (some ⟨fb, 0, none⟩)]]) ?_  -- R5 disk.go:117
  replace hH := hH.drew
  generalize { w7 with drawn := w7.drawn + 1 } = w8 at hH ⊢
  have hS9 := hH.sublist (.cons_cons _ (.cons_cons _ (.cons_cons _ (.cons_cons _ (.cons_cons _ (.cons_cons _ (List.nil_sublist _)))))))
  refine gd_q 0 rfl (by kernel_rfl) (PQ.th (PQ.bk (PQ.th PQ.body))) hS9 rfl rfl (fun w_ hS => (rd_loadK 2 (by kernel_rfl) hS rfl rfl rfl)) ?_
  refine gd_q 1 rfl (by kernel_rfl) (PQ.th (PQ.bk (PQ.th PQ.body))) hS9 rfl rfl (fun w_ hS => (rd_loadK 5 (by kernel_rfl) hS rfl rfl rfl)) ?_
  refine gd_pure 2 rfl (by kernel_rfl) (PQ.th (PQ.bk (PQ.th PQ.body))) hS9 rfl rfl (.pointer (some ⟨fb, 0, none⟩)) (by kernel_rfl) ?_
  refine gd_keep [(0, .pointer (some ⟨db, 0, none⟩)), (5, .pointer (some ⟨b1, 0, none⟩)), (7, .pointer (some ⟨b5, 0, none⟩)), (19, .bool false), (22, .int .i64 ((k : Nat) : Int)), (24, .pointer (some ⟨fb, 0, none⟩))] (by kernel_rfl) ?_
  refine gd_pure 3 rfl (by kernel_rfl) (PQ.th (PQ.bk (PQ.th PQ.body))) hS9 rfl rfl (.pointer (some ⟨fb, 0, none⟩)) (by kernel_rfl) ?_
  refine gd_q 4 rfl (by kernel_rfl) (PQ.th (PQ.bk (PQ.th PQ.body))) hS9 rfl rfl (fun w_ hS => (rd_load (by kernel_rfl) rfl (fil_cell0 hS 0 rfl he))) ?_
  refine gd_q 5 rfl (by kernel_rfl) (PQ.th (PQ.bk (PQ.th PQ.body))) hS9 rfl rfl (fun w_ hS => (rd_len (e := 5) (by kernel_rfl) rfl)) ?_
  refine gd_keep [(0, .pointer (some ⟨db, 0, none⟩)), (5, .pointer (some ⟨b1, 0, none⟩)), (7, .pointer (some ⟨b5, 0, none⟩)), (19, .bool false), (22, .int .i64 ((k : Nat) : Int)), (27, .int .i64 ((b.length : Nat) : Int))] (by kernel_rfl) ?_
  refine gd_pure 6 rfl (by kernel_rfl) (PQ.th (PQ.bk (PQ.th PQ.body))) hS9 rfl rfl (.bool (decide (((k : Nat) : Int) > ((b.length : Nat) : Int)))) (by kernel_rfl) ?_
  refine gd_pure 7 rfl (by kernel_rfl) (PQ.th (PQ.bk (PQ.th PQ.body))) hS9 rfl rfl (.bool (decide (((k : Nat) : Int) > ((b.length : Nat) : Int)))) (by kernel_rfl) ?_
  refine gd_done (by kernel_rfl) ?_
  refine at_sub [(0, .pointer (some ⟨db, 0, none⟩)), (5, .pointer (some ⟨b1, 0, none⟩)), (7, .pointer (some ⟨b5, 0, none⟩)), (19, .bool (decide (((k : Nat) : Int) > ((b.length : Nat) : Int))))] (Sub.of_eq (by kernel_rfl)) ?_
  refine sw_next ?_
  refine sw_cond rfl rfl (fun hc4 => ?_) (fun hc4 => ?_)
  ·
    refine sw_cv 19 (.bool true) (by rw [hc4]) rfl ?_
    try simp only [decide_eq_true_eq, beq_iff_eq, bne_iff_ne, ne_eq, Bool.not_eq_true', beq_eq_false_iff_ne, bne_eq_false_iff_eq, decide_eq_false_iff_not, Int.not_lt, Int.not_le] at hc4
    refine sw_seq ?_
    refine sw_region ?_  -- R6 disk.go:118
    refine gl_ops 2 [(6, .iface 37 (.int .i64 1))] (by kernel_rfl) ?_
    refine gl_done rfl ?_
    refine sw_next ?_
    refine sw_ret ?_
    refine bkR ?_
    refine thR ?_
    refine ret1 rfl rfl  ?_
    replace hH : Hp w w8 _ _ [filsO es, .grp (armO D.ar ab), .blk b1 3 [.int .i64 ((k : Nat) : Int)], .blk db 128 [.map (some mb), .bool D.off, arV D.ar ab], .smap mb (kvE es), .blk b5 136 [.pointer (some ⟨fb, 0, none⟩)]] := hH
    replace hH := hH.pick [3, 4, 0, 1, 2, 5] (by kernel_rfl) (os' := [.blk db 128 [.map (some mb), .bool D.off, arV D.ar ab], .smap mb (kvE es), filsO es, .grp (armO D.ar ab), .blk b1 3 [.int .i64 ((k : Nat) : Int)], .blk b5 136 [.pointer (some ⟨fb, 0, none⟩)]]) (by kernel_rfl)
    replace hH := (hH.sublist (.cons_cons _ (.cons_cons _ (.cons_cons _ (.cons_cons _ (List.nil_sublist _))))))
    replace hH : Hp w w8 _ _ [.blk db 128 [.map (some mb), .bool D.off, arV D.ar ab], .smap mb (kvE es), filsO es, .grp (armO D.ar ab)] := hH
    exact fin_arg hR hm0 (.inr (by rw [hold]; simp only; omega)) ((hH.close (r := [])).turned)
  refine sw_cv 19 (.bool false) (by rw [hc4]) rfl ?_
  try simp only [decide_eq_false_iff_not, beq_eq_false_iff_ne, bne_eq_false_iff_eq, ne_eq, Decidable.not_not, Int.not_lt, Int.not_le, Bool.not_eq_false', beq_iff_eq, bne_iff_ne, decide_eq_true_eq] at hc4
  refine sw_skip ?_
  refine bkN ?_
  refine sw_next ?_
  refine sw_seq ?_
  refine sw_region ?_  -- R7 disk.go:120
  obtain ⟨D2, cu, pt, hcut⟩ : ∃ D2 cu pt, cutD D = (D2, cu, pt) := ⟨_, _, _, rfl⟩
  replace hH : Hp w w8 _ _ [filsO es, .grp (armO D.ar ab), .blk b1 3 [.int .i64 ((k : Nat) : Int)], .blk db 128 [.map (some mb), .bool D.off, arV D.ar ab], .smap mb (kvE es), .blk b5 136 [.pointer (some ⟨fb, 0, none⟩)]] := hH
  replace hH := hH.pick [5, 2, 0, 1, 3, 4] (by kernel_rfl) (os' := [.blk b5 136 [.pointer (some ⟨fb, 0, none⟩)], .blk b1 3 [.int .i64 ((k : Nat) : Int)], filsO es, .grp (armO D.ar ab), .blk db 128 [.map (some mb), .bool D.off, arV D.ar ab], .smap mb (kvE es)]) (by kernel_rfl)
  replace hH : Hp w w8 _ _ ([.blk b5 136 [.pointer (some ⟨fb, 0, none⟩)], .blk b1 3 [.int .i64 ((k : Nat) : Int)], filsO es] ++ [.grp (armO D.ar ab), .blk db 128 [.map (some mb), .bool D.off, arV D.ar ab], .smap mb (kvE es)]) := hH
  replace hH := hH.close
  replace hH : Hp w w8 _ _ [.grp [.blk b5 136 [.pointer (some ⟨fb, 0, none⟩)], .blk b1 3 [.int .i64 ((k : Nat) : Int)], filsO es], .grp (armO D.ar ab), .blk db 128 [.map (some mb), .bool D.off, arV D.ar ab], .smap mb (kvE es)] := hH
  refine gl_ops 2 [(30, .pointer (some ⟨db, 0, none⟩)), (31, .func (.func 95) #[] #[.pointer (some ⟨b5, 0, none⟩), .pointer (some ⟨b1, 0, none⟩)])] (by kernel_rfl) ?_
  replace hH : Hp w w8 _ _ [.grp [.blk b5 136 [.pointer (some ⟨fb, 0, none⟩)], .blk b1 3 [.int .i64 ((k : Nat) : Int)], filsO es], .grp (armO D.ar ab), .blk db 128 [.map (some mb), .bool D.off, arV D.ar ab], .smap mb (kvE es)] := hH
  replace hH := hH.pick [2, 1, 0, 3] (by kernel_rfl) (os' := [.blk db 128 [.map (some mb), .bool D.off, arV D.ar ab], .grp (armO D.ar ab), .grp [.blk b5 136 [.pointer (some ⟨fb, 0, none⟩)], .blk b1 3 [.int .i64 ((k : Nat) : Int)], filsO es], .smap mb (kvE es)]) (by kernel_rfl)
  replace hH : Hp w w8 _ _ ([.blk db 128 [.map (some mb), .bool D.off, arV D.ar ab], .grp (armO D.ar ab), .grp [.blk b5 136 [.pointer (some ⟨fb, 0, none⟩)], .blk b1 3 [.int .i64 ((k : Nat) : Int)], filsO es]] ++ [.smap mb (kvE es)]) := hH
  refine gl_st (st_call rfl rfl rfl (by kernel_rfl) rfl (DAct_ct (γ := Unit) _ ab _ D D2 cu pt 95 _ (.grp [.blk b5 136 [.pointer (some ⟨fb, 0, none⟩)], .blk b1 3 [.int .i64 ((k : Nat) : Int)], filsO es]) (fun u => .grp [.blk b5 136 [.pointer (some ⟨fb, 0, none⟩)], .blk b1 3 [.int .i64 ((k : Nat) : Int)], filsO (es.set (ixE es nm) ⟨nm, fb, .slice (sliceA (.slice Af b.length cf)) k k, b.take k, min sr k⟩)]) (fun _ => none) _ hcut hA hH.mine (fun _ _ h => by cases h) (by kernel_rfl) (fun w1 hM1 _ => CutDo_ct b5 b1 k es _ nm fb _ b sr he _ w1 hM1 (by omega))) ?_)
  rintro _ w9 ⟨x', rfl, hF10, hor⟩
  replace hH := hH.turns hF10; clear hF10
  replace hH : Hp w w9 _ _ [.smap mb (kvE es), .blk db 128 [.map (some mb), .bool D2.off, arV D2.ar ab], .grp (armO D2.ar ab), x'] := hH
  refine gl_ops 1 [(6, errV (if cu = true then 80 else 0))] (by kernel_rfl) ?_
  refine gl_done rfl ?_
  refine sw_next ?_
  refine sw_ret ?_
  refine ret1 rfl rfl  ?_
  rcases hor with ⟨hrun, u, rfl⟩ | ⟨hrun, rfl⟩
  ·
    replace hH : Hp w w9 _ _ [.smap mb (kvE es), .blk db 128 [.map (some mb), .bool D2.off, arV D2.ar ab], .grp (armO D2.ar ab), .grp [.blk b5 136 [.pointer (some ⟨fb, 0, none⟩)], .blk b1 3 [.int .i64 ((k : Nat) : Int)], filsO (es.set (ixE es nm) ⟨nm, fb, .slice (sliceA (.slice Af b.length cf)) k k, b.take k, min sr k⟩)]] := hH
    replace hH := hH.pick [3, 0, 1, 2] (by kernel_rfl) (os' := [.grp [.blk b5 136 [.pointer (some ⟨fb, 0, none⟩)], .blk b1 3 [.int .i64 ((k : Nat) : Int)], filsO (es.set (ixE es nm) ⟨nm, fb, .slice (sliceA (.slice Af b.length cf)) k k, b.take k, min sr k⟩)], .smap mb (kvE es), .blk db 128 [.map (some mb), .bool D2.off, arV D2.ar ab], .grp (armO D2.ar ab)]) (by kernel_rfl)
    replace hH : Hp w w9 _ _ (.grp [.blk b5 136 [.pointer (some ⟨fb, 0, none⟩)], .blk b1 3 [.int .i64 ((k : Nat) : Int)], filsO (es.set (ixE es nm) ⟨nm, fb, .slice (sliceA (.slice Af b.length cf)) k k, b.take k, min sr k⟩)] :: [.smap mb (kvE es), .blk db 128 [.map (some mb), .bool D2.off, arV D2.ar ab], .grp (armO D2.ar ab)]) := hH
    replace hH := hH.open_
    replace hH : Hp w w9 _ _ [.blk b5 136 [.pointer (some ⟨fb, 0, none⟩)], .blk b1 3 [.int .i64 ((k : Nat) : Int)], filsO (es.set (ixE es nm) ⟨nm, fb, .slice (sliceA (.slice Af b.length cf)) k k, b.take k, min sr k⟩), .smap mb (kvE es), .blk db 128 [.map (some mb), .bool D2.off, arV D2.ar ab], .grp (armO D2.ar ab)] := hH
    have hkv : kvE es = kvE (es.set (ixE es nm) ⟨nm, fb, .slice (sliceA (.slice Af b.length cf)) k k, b.take k, min sr k⟩) := (kvE_set (e' := ⟨nm, fb, .slice (sliceA (.slice Af b.length cf)) k k, b.take k, min sr k⟩) he rfl rfl).symm
    replace hH := hH.cast (os' := [.blk b5 136 [.pointer (some ⟨fb, 0, none⟩)], .blk b1 3 [.int .i64 ((k : Nat) : Int)], filsO (es.set (ixE es nm) ⟨nm, fb, .slice (sliceA (.slice Af b.length cf)) k k, b.take k, min sr k⟩), .smap mb (kvE (es.set (ixE es nm) ⟨nm, fb, .slice (sliceA (.slice Af b.length cf)) k k, b.take k, min sr k⟩)), .blk db 128 [.map (some mb), .bool D2.off, arV D2.ar ab], .grp (armO D2.ar ab)]) (by rw [← hkv])
    replace hH : Hp w w9 _ _ [.blk b5 136 [.pointer (some ⟨fb, 0, none⟩)], .blk b1 3 [.int .i64 ((k : Nat) : Int)], filsO (es.set (ixE es nm) ⟨nm, fb, .slice (sliceA (.slice Af b.length cf)) k k, b.take k, min sr k⟩), .smap mb (kvE (es.set (ixE es nm) ⟨nm, fb, .slice (sliceA (.slice Af b.length cf)) k k, b.take k, min sr k⟩)), .blk db 128 [.map (some mb), .bool D2.off, arV D2.ar ab], .grp (armO D2.ar ab)] := hH
    replace hH := hH.pick [4, 3, 2, 5, 0, 1] (by kernel_rfl) (os' := [.blk db 128 [.map (some mb), .bool D2.off, arV D2.ar ab], .smap mb (kvE (es.set (ixE es nm) ⟨nm, fb, .slice (sliceA (.slice Af b.length cf)) k k, b.take k, min sr k⟩)), filsO (es.set (ixE es nm) ⟨nm, fb, .slice (sliceA (.slice Af b.length cf)) k k, b.take k, min sr k⟩), .grp (armO D2.ar ab), .blk b5 136 [.pointer (some ⟨fb, 0, none⟩)], .blk b1 3 [.int .i64 ((k : Nat) : Int)]]) (by kernel_rfl)
    replace hH := (hH.sublist (.cons_cons _ (.cons_cons _ (.cons_cons _ (.cons_cons _ (List.nil_sublist _))))))
    replace hH : Hp w w9 _ _ [.blk db 128 [.map (some mb), .bool D2.off, arV D2.ar ab], .smap mb (kvE (es.set (ixE es nm) ⟨nm, fb, .slice (sliceA (.slice Af b.length cf)) k k, b.take k, min sr k⟩)), filsO (es.set (ixE es nm) ⟨nm, fb, .slice (sliceA (.slice Af b.length cf)) k k, b.take k, min sr k⟩), .grp (armO D2.ar ab)] := hH
    exact fin_run (kind := 3) (th := true) (n := ((k : Nat) : Int)) rfl hm0 (fun h => by have h3 := h.2; rw [hold] at h3; simp only at h3; omega) hcut (by decide) hrun (by unfold doF; rw [hold, Int.toNat_natCast]; exact rep_set hR he _ rfl) ((hH.close (r := [])).turned)
  ·
    replace hH : Hp w w9 _ _ [.smap mb (kvE es), .blk db 128 [.map (some mb), .bool D2.off, arV D2.ar ab], .grp (armO D2.ar ab), .grp [.blk b5 136 [.pointer (some ⟨fb, 0, none⟩)], .blk b1 3 [.int .i64 ((k : Nat) : Int)], filsO es]] := hH
    replace hH := hH.pick [3, 0, 1, 2] (by kernel_rfl) (os' := [.grp [.blk b5 136 [.pointer (some ⟨fb, 0, none⟩)], .blk b1 3 [.int .i64 ((k : Nat) : Int)], filsO es], .smap mb (kvE es), .blk db 128 [.map (some mb), .bool D2.off, arV D2.ar ab], .grp (armO D2.ar ab)]) (by kernel_rfl)
    replace hH : Hp w w9 _ _ (.grp [.blk b5 136 [.pointer (some ⟨fb, 0, none⟩)], .blk b1 3 [.int .i64 ((k : Nat) : Int)], filsO es] :: [.smap mb (kvE es), .blk db 128 [.map (some mb), .bool D2.off, arV D2.ar ab], .grp (armO D2.ar ab)]) := hH
    replace hH := hH.open_
    replace hH : Hp w w9 _ _ [.blk b5 136 [.pointer (some ⟨fb, 0, none⟩)], .blk b1 3 [.int .i64 ((k : Nat) : Int)], filsO es, .smap mb (kvE es), .blk db 128 [.map (some mb), .bool D2.off, arV D2.ar ab], .grp (armO D2.ar ab)] := hH
    replace hH : Hp w w9 _ _ [.blk b5 136 [.pointer (some ⟨fb, 0, none⟩)], .blk b1 3 [.int .i64 ((k : Nat) : Int)], filsO es, .smap mb (kvE es), .blk db 128 [.map (some mb), .bool D2.off, arV D2.ar ab], .grp (armO D2.ar ab)] := hH
    replace hH := hH.pick [4, 3, 2, 5, 0, 1] (by kernel_rfl) (os' := [.blk db 128 [.map (some mb), .bool D2.off, arV D2.ar ab], .smap mb (kvE es), filsO es, .grp (armO D2.ar ab), .blk b5 136 [.pointer (some ⟨fb, 0, none⟩)], .blk b1 3 [.int .i64 ((k : Nat) : Int)]]) (by kernel_rfl)
    replace hH := (hH.sublist (.cons_cons _ (.cons_cons _ (.cons_cons _ (.cons_cons _ (List.nil_sublist _))))))
    replace hH : Hp w w9 _ _ [.blk db 128 [.map (some mb), .bool D2.off, arV D2.ar ab], .smap mb (kvE es), filsO es, .grp (armO D2.ar ab)] := hH
    exact fin_not (kind := 3) (th := true) (n := ((k : Nat) : Int)) hR rfl hm0 (fun h => by have h3 := h.2; rw [hold] at h3; simp only at h3; omega) hcut (by decide) hrun ((hH.close (r := [])).turned)
  
theorem Read_ct (db mb ab : Nat) (D : Dsk) (es : List PE) (nm : List UInt8) (M : Nat) (w : World) (hM : Mine w (ownD db mb ab D es)) (hR : Rep es D.fs) (hA : ArOk D.ar) (hG : Good D.fs M) (hMM : M ≤ 4194304) (hs : nm.length ≤ 140737488355328) :
    Fun Tryd.prog 34 [.pointer (some ⟨db, 0, none⟩), .string (bs nm)] w fun v w' => ∃ v1, v = .tuple #[v1, errV (readD D nm).2] ∧ Turn w w' (ownD db mb ab D es) [.grp (dskO db mb ab D es), .row v1 5 1 (readD D nm).1.length (bv (readD D nm).1)] := by
  refine fun_of_sw Tryd.func34 rfl 22 rfl rfl ?_
  have hH : Hp w w (off w (blksOf (ownD db mb ab D es))) (blksOf (ownD db mb ab D es)) (dskO db mb ab D es ++ []) := (Hp.start_mine hM).open_
  replace hH : Hp w w _ _ [.blk db 128 [.map (some mb), .bool D.off, arV D.ar ab], .smap mb (kvE es), filsO es, .grp (armO D.ar ab)] := hH
  refine sw_seq ?_
  refine sw_region ?_  -- R0 disk.go:132
  refine gl_ops 2 [(0, .pointer (some ⟨db, 0, none⟩)), (1, .string (bs nm))] (by kernel_rfl) ?_
  refine gl_done rfl ?_
  refine sw_next ?_
  refine sw_seq ?_
  refine sw_region ?_  -- R1 disk.go:133
  refine gl_ops 2 [(9, .pointer (some ⟨db, 0, none⟩)), (10, .string (bs nm))] (by kernel_rfl) ?_
  replace hH : Hp w w _ _ ([.blk db 128 [.map (some mb), .bool D.off, arV D.ar ab], .smap mb (kvE es)] ++ [filsO es, .grp (armO D.ar ab)]) := hH
  refine gl_st (st_call rfl rfl rfl (by kernel_rfl) rfl (At_ct _ _ _ _ es nm _ hs hH.mine) ?_)
  rintro _ w1 ⟨rfl, hF2⟩
  replace hH := hH.turns hF2; clear hF2
  replace hH : Hp w w1 _ _ [filsO es, .grp (armO D.ar ab), .blk db 128 [.map (some mb), .bool D.off, arV D.ar ab], .smap mb (kvE es)] := hH
  refine gl_ops 5 [(6, atV D.off es nm), (7, errV (mayP D.off es nm))] (by kernel_rfl) ?_
  refine gl_done rfl ?_
  refine sw_next ?_
  refine sw_seq ?_
  refine sw_seq ?_
  refine sw_region ?_  -- R2 disk.go:134
  refine gl_ops 1 [(6, atV D.off es nm), (7, errV (mayP D.off es nm)), (14, errV (mayP D.off es nm))] (by kernel_rfl) ?_
  refine gl_q rfl rfl rfl (rd_err_ne (by kernel_rfl) rfl) ?_
  refine gl_done rfl ?_
  refine sw_next ?_
  refine sw_cond rfl rfl (fun hc1 => ?_) (fun hc1 => ?_)
  ·
    try simp only [decide_eq_true_eq, beq_iff_eq, bne_iff_ne, ne_eq, Bool.not_eq_true', beq_eq_false_iff_ne, bne_eq_false_iff_eq, decide_eq_false_iff_not, Int.not_lt, Int.not_le] at hc1
    refine sw_seq ?_
    refine sw_region ?_  -- R3 disk.go:135
    refine gl_ops 3 [(4, .slice none 0 0), (5, errV (mayP D.off es nm))] (by kernel_rfl) ?_
    refine gl_done rfl ?_
    refine sw_next ?_
    refine sw_ret ?_
    refine thR ?_
    refine ret2 rfl rfl rfl  ?_
    replace hH := hH.nilRow 5 1
    have hr : readD D nm = ([], mayE D nm true) := by unfold readD; rw [if_pos (by rw [mayP_eq hR]; omega)]
    replace hH : Hp w w1 _ _ [filsO es, .grp (armO D.ar ab), .blk db 128 [.map (some mb), .bool D.off, arV D.ar ab], .smap mb (kvE es), .row (.slice none 0 0) 5 1 0 []] := hH
    replace hH := hH.pick [2, 3, 0, 1, 4] (by kernel_rfl) (os' := [.blk db 128 [.map (some mb), .bool D.off, arV D.ar ab], .smap mb (kvE es), filsO es, .grp (armO D.ar ab), .row (.slice none 0 0) 5 1 0 []]) (by kernel_rfl)
    replace hH := (hH.sublist (.cons_cons _ (.cons_cons _ (.cons_cons _ (.cons_cons _ (.cons_cons _ (List.nil_sublist _)))))))
    replace hH : Hp w w1 _ _ [.blk db 128 [.map (some mb), .bool D.off, arV D.ar ab], .smap mb (kvE es), filsO es, .grp (armO D.ar ab), .row (.slice none 0 0) 5 1 0 []] := hH
    replace hH : Hp w w1 _ _ (dskO db mb ab D es ++ [.row (.slice none 0 0) 5 1 0 []]) := hH
    exact ⟨.slice none 0 0, by rw [hr, mayP_eq hR], by rw [hr]; exact hH.close.turned⟩
  try simp only [decide_eq_false_iff_not, beq_eq_false_iff_ne, bne_eq_false_iff_eq, ne_eq, Decidable.not_not, Int.not_lt, Int.not_le, Bool.not_eq_false', beq_iff_eq, bne_iff_ne, decide_eq_true_eq] at hc1
  have hm0 : mayE D nm true = 0 := by rw [mayP_eq hR]; omega
  obtain ⟨fb, fv, b, sr, he, hat, hlt⟩ := at_zero (show mayP D.off es nm = 0 by omega)
  have hold := old_of hR he
  refine sw_cv 6 (.pointer (some ⟨fb, 0, none⟩)) (hat) rfl ?_
  refine sw_skip ?_
  refine sw_next ?_
  refine sw_seq ?_
  obtain ⟨Af, cf, rfl, hf1, hf2⟩ := (fil_rb hH 0 rfl he).row.form
  obtain ⟨hbM, hsr, hnm⟩ := good_at hG hR he
  refine sw_region ?_  -- R4 disk.go:137
  refine gl_ops 3 [(19, .pointer (some ⟨fb, 0, none⟩))] (by kernel_rfl) ?_
  refine gl_q rfl rfl rfl (rd_load (by kernel_rfl) rfl (fil_cell0 hH 0 rfl he)) ?_
  refine gl_st (st_call rfl rfl rfl (by kernel_rfl) rfl (SClone_ct _ b _ (fil_rb hH 0 rfl he) (by omega)) ?_)
  rintro _ w5 ⟨v3, rfl, hF6⟩
  replace hH := hH.call hF6; clear hF6
  obtain ⟨A7, c8, rfl, hl9, hm10⟩ := hH.row_form 4 rfl
  refine gl_ops 2 [(4, .slice A7 b.length c8), (5, .nilIface)] (by kernel_rfl) ?_
  refine gl_done rfl ?_
  refine sw_next ?_
  refine sw_ret ?_
  refine ret2 rfl rfl rfl  ?_
  have hr : readD D nm = (b, 0) := by unfold readD; rw [if_neg (by rw [hm0]; simp), hold]
  replace hH : Hp w w5 _ _ [filsO es, .grp (armO D.ar ab), .blk db 128 [.map (some mb), .bool D.off, arV D.ar ab], .smap mb (kvE es), .row (.slice A7 b.length c8) 5 1 b.length (bv b)] := hH
  replace hH := hH.pick [2, 3, 0, 1, 4] (by kernel_rfl) (os' := [.blk db 128 [.map (some mb), .bool D.off, arV D.ar ab], .smap mb (kvE es), filsO es, .grp (armO D.ar ab), .row (.slice A7 b.length c8) 5 1 b.length (bv b)]) (by kernel_rfl)
  replace hH := (hH.sublist (.cons_cons _ (.cons_cons _ (.cons_cons _ (.cons_cons _ (.cons_cons _ (List.nil_sublist _)))))))
  replace hH : Hp w w5 _ _ [.blk db 128 [.map (some mb), .bool D.off, arV D.ar ab], .smap mb (kvE es), filsO es, .grp (armO D.ar ab), .row (.slice A7 b.length c8) 5 1 b.length (bv b)] := hH
  replace hH : Hp w w5 _ _ (dskO db mb ab D es ++ [.row (.slice A7 b.length c8) 5 1 b.length (bv b)]) := hH
  exact ⟨.slice A7 b.length c8, by rw [hr]; rfl, by rw [hr]; exact hH.close.turned⟩
theorem Append_ct (db mb ab : Nat) (D : Dsk) (es : List PE) (nm : List UInt8) (vp : Value) (p : List UInt8) (M : Nat) (w : World) (hM : Mine w (ownD db mb ab D es)) (hR : Rep es D.fs) (hA : ArOk D.ar) (hG : Good D.fs M) (hMM : M ≤ 4194304) (hs : nm.length ≤ 140737488355328) (hp : RB (off w (blksOf (ownD db mb ab D es))) vp p) (hpl : p.length ≤ 1048576) :
    Fun Tryd.prog 63 [.pointer (some ⟨db, 0, none⟩), .string (bs nm), vp] w fun v w' => ActPost db mb ab D es (doD D 0 nm p 0) w v w' := by
  obtain ⟨Ap, cp, rfl, hp1, hp2⟩ := hp.row.form
  refine fun_of_sw Tryd.func63 rfl 59 rfl rfl ?_
  have hH : Hp w w (off w (blksOf (ownD db mb ab D es))) (blksOf (ownD db mb ab D es)) (dskO db mb ab D es ++ []) := (Hp.start_mine hM).open_
  replace hH : Hp w w _ _ [.blk db 128 [.map (some mb), .bool D.off, arV D.ar ab], .smap mb (kvE es), filsO es, .grp (armO D.ar ab)] := hH
  refine sw_seq ?_
  refine sw_region ?_  -- R0 disk.go:74
  refine gl_ops 1 [(0, .pointer (some ⟨db, 0, none⟩)), (1, .string (bs nm)), (2, .slice Ap p.length cp)] (by kernel_rfl) ?_
  refine gl_done rfl ?_
  refine sw_next ?_
  refine sw_seq ?_
  refine sw_region ?_  -- R1 disk.go:75
  refine gl_ops 2 [(0, .pointer (some ⟨db, 0, none⟩)), (1, .string (bs nm)), (2, .slice Ap p.length cp), (12, .pointer (some ⟨db, 0, none⟩)), (13, .string (bs nm))] (by kernel_rfl) ?_
  replace hH : Hp w w _ _ ([.blk db 128 [.map (some mb), .bool D.off, arV D.ar ab], .smap mb (kvE es)] ++ [filsO es, .grp (armO D.ar ab)]) := hH
  refine gl_st (st_call rfl rfl rfl (by kernel_rfl) rfl (At_ct _ _ _ _ es nm _ hs hH.mine) ?_)
  rintro _ w1 ⟨rfl, hF2⟩
  replace hH := hH.turns hF2; clear hF2
  replace hH : Hp w w1 _ _ [filsO es, .grp (armO D.ar ab), .blk db 128 [.map (some mb), .bool D.off, arV D.ar ab], .smap mb (kvE es)] := hH
  refine gl_ops 5 [(0, .pointer (some ⟨db, 0, none⟩)), (1, .string (bs nm)), (2, .slice Ap p.length cp), (7, atV D.off es nm), (8, errV (mayP D.off es nm))] (by kernel_rfl) ?_
  refine gl_done rfl ?_
  refine sw_next ?_
  refine sw_seq ?_
  refine sw_seq ?_
  refine sw_region ?_  -- R2 disk.go:76
  refine gl_ops 1 [(0, .pointer (some ⟨db, 0, none⟩)), (1, .string (bs nm)), (2, .slice Ap p.length cp), (7, atV D.off es nm), (8, errV (mayP D.off es nm)), (17, errV (mayP D.off es nm))] (by kernel_rfl) ?_
  refine gl_q rfl rfl rfl (rd_err_ne (by kernel_rfl) rfl) ?_
  refine gl_ops 1 [(0, .pointer (some ⟨db, 0, none⟩)), (1, .string (bs nm)), (2, .slice Ap p.length cp), (7, atV D.off es nm), (8, errV (mayP D.off es nm)), (19, .bool ((mayP D.off es nm) != 0))] (by kernel_rfl) ?_
  refine gl_split 19 (b := (mayP D.off es nm) != 0) rfl (fun hg1 => ?_) (fun hg1 => ?_)
  ·
    try simp only [decide_eq_true_eq, beq_iff_eq, bne_iff_ne, ne_eq, Bool.not_eq_true', beq_eq_false_iff_ne, bne_eq_false_iff_eq, decide_eq_false_iff_not, Int.not_lt, Int.not_le] at hg1
    refine gl_ops 1 [(0, .pointer (some ⟨db, 0, none⟩)), (1, .string (bs nm)), (2, .slice Ap p.length cp), (7, atV D.off es nm), (8, errV (mayP D.off es nm)), (19, .bool true), (20, errV (mayP D.off es nm))] (by kernel_rfl) ?_
    refine gl_cv 20 (.iface 37 (.int .i64 ((mayP D.off es nm : Nat) : Int))) (errV_if (by omega)) rfl ?_
    refine gl_ops 1 [(0, .pointer (some ⟨db, 0, none⟩)), (1, .string (bs nm)), (2, .slice Ap p.length cp), (7, atV D.off es nm), (8, errV (mayP D.off es nm)), (19, .bool true), (20, .iface 37 (.int .i64 ((mayP D.off es nm : Nat) : Int))), (21, .iface 37 (.int .i64 81))] (by kernel_rfl) ?_
    refine gl_q rfl rfl rfl (rd_ifi_ne (k0 := .i64) (by kernel_rfl) (by kernel_rfl) (by kernel_rfl) rfl rfl) ?_
    refine gl_ops 1 [(0, .pointer (some ⟨db, 0, none⟩)), (1, .string (bs nm)), (2, .slice Ap p.length cp), (7, atV D.off es nm), (8, errV (mayP D.off es nm)), (23, .bool ((((mayP D.off es nm : Nat) : Int) : Int) != 81))] (by kernel_rfl) ?_
    refine gl_done rfl ?_
    refine sw_next ?_
    refine sw_cond rfl rfl (fun hc2 => ?_) (fun hc2 => ?_)
    ·
      refine sw_cv 23 (.bool true) (by rw [hc2]) rfl ?_
      try simp only [decide_eq_true_eq, beq_iff_eq, bne_iff_ne, ne_eq, Bool.not_eq_true', beq_eq_false_iff_ne, bne_eq_false_iff_eq, decide_eq_false_iff_not, Int.not_lt, Int.not_le] at hc2
      refine sw_seq ?_
      refine sw_region ?_  -- R3 disk.go:77
      refine gl_ops 2 [(6, errV (mayP D.off es nm))] (by kernel_rfl) ?_
      refine gl_done rfl ?_
      refine sw_next ?_
      refine sw_ret ?_
      refine thR ?_
      refine ret1 rfl rfl  ?_
      replace hH : Hp w w1 _ _ [filsO es, .grp (armO D.ar ab), .blk db 128 [.map (some mb), .bool D.off, arV D.ar ab], .smap mb (kvE es)] := hH
      replace hH := hH.pick [2, 3, 0, 1] (by kernel_rfl) (os' := [.blk db 128 [.map (some mb), .bool D.off, arV D.ar ab], .smap mb (kvE es), filsO es, .grp (armO D.ar ab)]) (by kernel_rfl)
      replace hH := (hH.sublist (.cons_cons _ (.cons_cons _ (.cons_cons _ (.cons_cons _ (List.nil_sublist _))))))
      replace hH : Hp w w1 _ _ [.blk db 128 [.map (some mb), .bool D.off, arV D.ar ab], .smap mb (kvE es), filsO es, .grp (armO D.ar ab)] := hH
      exact fin_err (kind := 0) (th := false) hR rfl _ (ff_err hR (by omega)) (by omega) ((hH.close (r := [])).turned)
    refine sw_cv 23 (.bool false) (by rw [hc2]) rfl ?_
    try simp only [decide_eq_false_iff_not, beq_eq_false_iff_ne, bne_eq_false_iff_eq, ne_eq, Decidable.not_not, Int.not_lt, Int.not_le, Bool.not_eq_false', beq_iff_eq, bne_iff_ne, decide_eq_true_eq] at hc2
    have hm81 : mayP D.off es nm = 81 := by omega
    have hm0 : mayE D nm false = 0 := ff_zero hR (.inr hm81)
    have hnot := at_81 hm81
    have hold := old_none hR hnot
    refine sw_cv 7 (.pointer none) (at_n0 (by omega)) rfl ?_
    refine sw_skip ?_
    refine sw_next ?_
    refine sw_seq ?_
    refine sw_region ?_  -- R4 disk.go:79
    obtain ⟨D2, cu, pt, hcut⟩ : ∃ D2 cu pt, cutD D = (D2, cu, pt) := ⟨_, _, _, rfl⟩
    refine gl_ops 1 [(0, .pointer (some ⟨db, 0, none⟩)), (1, .string (bs nm)), (2, .slice Ap p.length cp), (7, .pointer none), (26, .pointer (some ⟨db, 0, none⟩))] (by kernel_rfl) ?_
    replace hH : Hp w w1 _ _ [filsO es, .grp (armO D.ar ab), .blk db 128 [.map (some mb), .bool D.off, arV D.ar ab], .smap mb (kvE es)] := hH
    replace hH := hH.pick [2, 1, 0, 3] (by kernel_rfl) (os' := [.blk db 128 [.map (some mb), .bool D.off, arV D.ar ab], .grp (armO D.ar ab), filsO es, .smap mb (kvE es)]) (by kernel_rfl)
    replace hH : Hp w w1 _ _ ([.blk db 128 [.map (some mb), .bool D.off, arV D.ar ab], .grp (armO D.ar ab)] ++ [filsO es, .smap mb (kvE es)]) := hH
    refine gl_st (st_call rfl rfl rfl (by kernel_rfl) rfl (Cut_ct _ ab _ D D2 cu pt _ hcut hA hH.mine) ?_)
    rintro _ w3 ⟨rfl, hF4⟩
    replace hH := hH.turns hF4; clear hF4
    replace hH : Hp w w3 _ _ [filsO es, .smap mb (kvE es), .blk db 128 [.map (some mb), .bool D2.off, arV D2.ar ab], .grp (armO D2.ar ab)] := hH
    refine gl_ops 5 [(0, .pointer (some ⟨db, 0, none⟩)), (1, .string (bs nm)), (2, .slice Ap p.length cp), (7, .pointer none), (9, .int .i64 pt), (10, .bool cu)] (by kernel_rfl) ?_
    refine gl_done rfl ?_
    refine sw_next ?_
    refine sw_seq ?_
    refine sw_seq ?_
    refine sw_region ?_  -- R5 disk.go:80
    refine gl_ops 1 [(0, .pointer (some ⟨db, 0, none⟩)), (1, .string (bs nm)), (2, .slice Ap p.length cp), (7, .pointer none), (9, .int .i64 pt), (10, .bool cu), (30, .bool cu)] (by kernel_rfl) ?_
    refine gl_done rfl ?_
    refine sw_next ?_
    refine sw_cond rfl rfl (fun hc3 => ?_) (fun hc3 => ?_)
    ·
      refine sw_cv 10 (.bool true) (by rw [hc3]) rfl ?_
      refine sw_cv 30 (.bool true) (by rw [hc3]) rfl ?_
      try simp only [decide_eq_true_eq, beq_iff_eq, bne_iff_ne, ne_eq, Bool.not_eq_true', beq_eq_false_iff_ne, bne_eq_false_iff_eq, decide_eq_false_iff_not, Int.not_lt, Int.not_le] at hc3
      subst hc3
      refine sw_region ?_  -- R6 disk.go:81
      refine gl_ops 3 [(0, .pointer (some ⟨db, 0, none⟩)), (1, .string (bs nm)), (7, .pointer none), (10, .bool true), (31, .slice Ap p.length cp), (32, .int .i64 pt), (33, .slice Ap p.length cp)] (by kernel_rfl) ?_
      refine gl_q rfl rfl rfl (rd_len (e := 5) (by kernel_rfl) rfl) ?_
      refine gl_ops 1 [(0, .pointer (some ⟨db, 0, none⟩)), (1, .string (bs nm)), (7, .pointer none), (10, .bool true), (31, .slice Ap p.length cp), (32, .int .i64 pt), (35, .int .i64 (IntKind.i64.wrap (((p.length : Nat) : Int) + 1)))] (by kernel_rfl) ?_
      refine gl_cv 35 (.int .i64 ((p.length + 1 : Nat) : Int)) (cv_i64 (by omega)) rfl ?_
      refine gl_st (st_call rfl rfl rfl (by kernel_rfl) rfl (Modulo_ct pt (p.length + 1) _ (by omega) (by omega)) ?_)
      rintro _ w5 ⟨rfl, hF6⟩
      replace hH := hH.call hF6; clear hF6
      have hmod := modI_lt pt (show 0 < p.length + 1 by omega)
      obtain ⟨A7, hk8, hv9⟩ := hp.row.cut (by decide) 0 (modI pt (p.length + 1)) (by omega) (by omega)
      refine gl_q rfl rfl rfl (rd_cut (e := 5) (m := 1) (by kernel_rfl) (by kernel_rfl) rfl (.inl ⟨rfl, rfl⟩) (.inr ⟨_, _, rfl, rfl⟩) hk8) ?_
      have hr10 := RB.head hv9 (by omega)
      refine gl_ops 1 [(0, .pointer (some ⟨db, 0, none⟩)), (1, .string (bs nm)), (2, .slice A7 ((modI pt (p.length + 1)) - 0) (cp - 0)), (7, .pointer none), (10, .bool true)] (by kernel_rfl) ?_
      refine gl_done rfl ?_
      refine sw_next ?_
      refine sw_seq ?_
      refine sw_seq ?_
      refine sw_region ?_  -- R7 disk.go:83
      refine gl_ops 2 [(0, .pointer (some ⟨db, 0, none⟩)), (1, .string (bs nm)), (2, .slice A7 ((modI pt (p.length + 1)) - 0) (cp - 0)), (7, .pointer none), (10, .bool true), (39, .bool true)] (by kernel_rfl) ?_
      refine gl_done rfl ?_
      refine sw_next ?_
      refine sw_true rfl rfl ?_
      refine sw_seq ?_
      refine sw_region ?_  -- R8 disk.go:84
      refine gl_ops 1 [(0, .pointer (some ⟨db, 0, none⟩)), (1, .string (bs nm)), (2, .slice A7 ((modI pt (p.length + 1)) - 0) (cp - 0)), (10, .bool true), (40, .agg #[.slice none 0 0, .int .i64 0])] (by kernel_rfl) ?_
      refine gl_st (st_boxH (cs := [.slice none 0 0, .int .i64 0]) rfl rfl rfl rfl hH ?_)
      clear hH; intro b11 w12 hH
      refine gl_ops 1 [(0, .pointer (some ⟨db, 0, none⟩)), (1, .string (bs nm)), (2, .slice A7 ((modI pt (p.length + 1)) - 0) (cp - 0)), (7, .pointer (some ⟨b11, 0, none⟩)), (10, .bool true)] (by kernel_rfl) ?_
      refine gl_done rfl ?_
      refine sw_next ?_
      refine sw_region ?_  -- R9 disk.go:85
      refine gl_ops 3 [(1, .string (bs nm)), (2, .slice A7 ((modI pt (p.length + 1)) - 0) (cp - 0)), (7, .pointer (some ⟨b11, 0, none⟩)), (10, .bool true), (44, .pointer (some ⟨db, 0, none⟩))] (by kernel_rfl) ?_
      refine gl_q rfl rfl rfl (rd_loadK 2 (by kernel_rfl) hH rfl rfl rfl) ?_
      refine gl_ops 2 [(2, .slice A7 ((modI pt (p.length + 1)) - 0) (cp - 0)), (7, .pointer (some ⟨b11, 0, none⟩)), (10, .bool true), (45, .map (some mb)), (46, .string (bs nm)), (47, .pointer (some ⟨b11, 0, none⟩))] (by kernel_rfl) ?_
      refine gl_st (st_smput (kt := 9) (e := 136) (v := .pointer (some ⟨b11, 0, none⟩)) 1 rfl rfl rfl (by kernel_rfl) (by kernel_rfl) hH rfl rfl nm rfl rfl ?_)
      clear hH; intro w13 hH
      refine gl_done rfl ?_
      refine sw_next ?_
      refine sw_seq ?_
      have hq9 : (p.take (modI pt (p.length + 1))).length ≤ 1048576 := by rw [List.length_take]; omega
      refine sw_region ?_  -- R10 disk.go:87
      refine gl_ops 4 [(2, .slice A7 ((modI pt (p.length + 1)) - 0) (cp - 0)), (10, .bool true), (48, .pointer (some ⟨b11, 0, none⟩)), (51, .pointer (some ⟨b11, 0, none⟩))] (by kernel_rfl) ?_
      refine gl_q rfl rfl rfl (rd_loadK 4 (by kernel_rfl) hH rfl rfl rfl) ?_
      refine gl_ops 1 [(10, .bool true), (48, .pointer (some ⟨b11, 0, none⟩)), (52, .slice none 0 0), (53, .slice A7 ((modI pt (p.length + 1)) - 0) (cp - 0))] (by kernel_rfl) ?_
      replace hH := hH.nilRow 5 1
      refine gl_st (st_appH (e := 5) (zv := .int .u8 0) (m := 1) (bytes := 1) 5 rfl rfl rfl (by kernel_rfl) (by kernel_rfl) rfl (by decide) hH rfl rfl rfl (hr10.row.mono hH.zin) (bv_one _) (by unfold maxLen; omega) (by omega) ?_)
      clear hH; intro v14 w15 hH
      replace hH := hH.row_eq 5 (l' := (p.take (modI pt (p.length + 1))).length) (xs' := bv (p.take (modI pt (p.length + 1)))) rfl (Nat.zero_add _) (List.nil_append _)
      obtain ⟨A16, c17, rfl, hl18, hm19⟩ := hH.row_form 5 rfl
      refine gl_ops 2 [(10, .bool true), (54, .slice A16 ((p.take (modI pt (p.length + 1))).length) c17), (56, .pointer (some ⟨b11, 0, none⟩))] (by kernel_rfl) ?_
      refine gl_st (st_storeK (v := .slice A16 ((p.take (modI pt (p.length + 1))).length) c17) 4 rfl rfl rfl hH rfl rfl rfl (by kernel_rfl) rfl (by simp) ?_)
      clear hH; intro w20 hH
      refine gl_done rfl ?_
      refine sw_next ?_
      refine sw_seq ?_
      refine sw_seq ?_
      refine sw_region ?_  -- R11 disk.go:88
      refine gl_ops 1 [(57, .bool true)] (by kernel_rfl) ?_
      refine gl_done rfl ?_
      refine sw_next ?_
      refine sw_true rfl rfl ?_
      refine sw_seq ?_
      refine sw_region ?_  -- R12 disk.go:89
      refine gl_ops 2 [(6, .iface 37 (.int .i64 80))] (by kernel_rfl) ?_
      refine gl_done rfl ?_
      refine sw_next ?_
      refine sw_ret ?_
      refine thR ?_
      refine ret1 rfl rfl  ?_
      replace hH : Hp w w20 _ _ [filsO es, .smap mb (kput (kvE es) nm (.pointer (some ⟨b11, 0, none⟩))), .blk db 128 [.map (some mb), .bool D2.off, arV D2.ar ab], .grp (armO D2.ar ab), .blk b11 138 [.slice A16 ((p.take (modI pt (p.length + 1))).length) c17, .int .i64 0], .row (.slice A16 ((p.take (modI pt (p.length + 1))).length) c17) 5 1 ((p.take (modI pt (p.length + 1))).length) (bv (p.take (modI pt (p.length + 1))))] := hH
      replace hH := hH.pick [5, 0, 1, 2, 3, 4] (by kernel_rfl) (os' := [.row (.slice A16 ((p.take (modI pt (p.length + 1))).length) c17) 5 1 ((p.take (modI pt (p.length + 1))).length) (bv (p.take (modI pt (p.length + 1)))), filsO es, .smap mb (kput (kvE es) nm (.pointer (some ⟨b11, 0, none⟩))), .blk db 128 [.map (some mb), .bool D2.off, arV D2.ar ab], .grp (armO D2.ar ab), .blk b11 138 [.slice A16 ((p.take (modI pt (p.length + 1))).length) c17, .int .i64 0]]) (by kernel_rfl)
      replace hH : Hp w w20 _ _ (.row (.slice A16 ((p.take (modI pt (p.length + 1))).length) c17) 5 1 (p.take (modI pt (p.length + 1))).length (bv (p.take (modI pt (p.length + 1)))) :: [filsO es, .smap mb (kput (kvE es) nm (.pointer (some ⟨b11, 0, none⟩))), .blk db 128 [.map (some mb), .bool D2.off, arV D2.ar ab], .grp (armO D2.ar ab), .blk b11 138 [.slice A16 ((p.take (modI pt (p.length + 1))).length) c17, .int .i64 0]]) := hH
      replace hH := hH.to_vw
      replace hH : Hp w w20 _ _ [.vw (.slice A16 ((p.take (modI pt (p.length + 1))).length) c17) 5 (p.take (modI pt (p.length + 1))), filsO es, .smap mb (kput (kvE es) nm (.pointer (some ⟨b11, 0, none⟩))), .blk db 128 [.map (some mb), .bool D2.off, arV D2.ar ab], .grp (armO D2.ar ab), .blk b11 138 [.slice A16 ((p.take (modI pt (p.length + 1))).length) c17, .int .i64 0]] := hH
      replace hH := hH.pick [5, 0, 1, 2, 3, 4] (by kernel_rfl) (os' := [.blk b11 138 [.slice A16 ((p.take (modI pt (p.length + 1))).length) c17, .int .i64 0], .vw (.slice A16 ((p.take (modI pt (p.length + 1))).length) c17) 5 (p.take (modI pt (p.length + 1))), filsO es, .smap mb (kput (kvE es) nm (.pointer (some ⟨b11, 0, none⟩))), .blk db 128 [.map (some mb), .bool D2.off, arV D2.ar ab], .grp (armO D2.ar ab)]) (by kernel_rfl)
      replace hH : Hp w w20 _ _ (f1O ⟨nm, b11, .slice A16 ((p.take (modI pt (p.length + 1))).length) c17, (p.take (modI pt (p.length + 1))), 0⟩ :: f2O ⟨nm, b11, .slice A16 ((p.take (modI pt (p.length + 1))).length) c17, (p.take (modI pt (p.length + 1))), 0⟩ :: filsO es :: [.smap mb (kput (kvE es) nm (.pointer (some ⟨b11, 0, none⟩))), .blk db 128 [.map (some mb), .bool D2.off, arV D2.ar ab], .grp (armO D2.ar ab)]) := hH
      replace hH := fil_put hH
      have hk : kput (kvE es) nm (.pointer (some ⟨b11, 0, none⟩)) = kvE (putE es ⟨nm, b11, .slice A16 ((p.take (modI pt (p.length + 1))).length) c17, (p.take (modI pt (p.length + 1))), 0⟩) := kput_kvE es ⟨nm, b11, .slice A16 ((p.take (modI pt (p.length + 1))).length) c17, (p.take (modI pt (p.length + 1))), 0⟩
      replace hH := hH.cast (os' := [filsO (putE es ⟨nm, b11, .slice A16 ((p.take (modI pt (p.length + 1))).length) c17, (p.take (modI pt (p.length + 1))), 0⟩), .smap mb (kvE (putE es ⟨nm, b11, .slice A16 ((p.take (modI pt (p.length + 1))).length) c17, (p.take (modI pt (p.length + 1))), 0⟩)), .blk db 128 [.map (some mb), .bool D2.off, arV D2.ar ab], .grp (armO D2.ar ab)]) (by rw [hk])
      replace hH : Hp w w20 _ _ [filsO (putE es ⟨nm, b11, .slice A16 ((p.take (modI pt (p.length + 1))).length) c17, (p.take (modI pt (p.length + 1))), 0⟩), .smap mb (kvE (putE es ⟨nm, b11, .slice A16 ((p.take (modI pt (p.length + 1))).length) c17, (p.take (modI pt (p.length + 1))), 0⟩)), .blk db 128 [.map (some mb), .bool D2.off, arV D2.ar ab], .grp (armO D2.ar ab)] := hH
      replace hH := hH.pick [2, 1, 0, 3] (by kernel_rfl) (os' := [.blk db 128 [.map (some mb), .bool D2.off, arV D2.ar ab], .smap mb (kvE (putE es ⟨nm, b11, .slice A16 ((p.take (modI pt (p.length + 1))).length) c17, (p.take (modI pt (p.length + 1))), 0⟩)), filsO (putE es ⟨nm, b11, .slice A16 ((p.take (modI pt (p.length + 1))).length) c17, (p.take (modI pt (p.length + 1))), 0⟩), .grp (armO D2.ar ab)]) (by kernel_rfl)
      replace hH := (hH.sublist (.cons_cons _ (.cons_cons _ (.cons_cons _ (.cons_cons _ (List.nil_sublist _))))))
      replace hH : Hp w w20 _ _ [.blk db 128 [.map (some mb), .bool D2.off, arV D2.ar ab], .smap mb (kvE (putE es ⟨nm, b11, .slice A16 ((p.take (modI pt (p.length + 1))).length) c17, (p.take (modI pt (p.length + 1))), 0⟩)), filsO (putE es ⟨nm, b11, .slice A16 ((p.take (modI pt (p.length + 1))).length) c17, (p.take (modI pt (p.length + 1))), 0⟩), .grp (armO D2.ar ab)] := hH
      exact fin_app (cu := true) (pt := pt) (D2 := D2) (p.take (modI pt (p.length + 1))) hm0 hcut (by simp) (by unfold doF; rw [hold]; exact rep_put hR ⟨nm, b11, .slice A16 ((p.take (modI pt (p.length + 1))).length) c17, (p.take (modI pt (p.length + 1))), 0⟩) ((hH.close (r := [])).turned)
    refine sw_cv 10 (.bool false) (by rw [hc3]) rfl ?_
    refine sw_cv 30 (.bool false) (by rw [hc3]) rfl ?_
    try simp only [decide_eq_false_iff_not, beq_eq_false_iff_ne, bne_eq_false_iff_eq, ne_eq, Decidable.not_not, Int.not_lt, Int.not_le, Bool.not_eq_false', beq_iff_eq, bne_iff_ne, decide_eq_true_eq] at hc3
    subst hc3
    refine sw_skip ?_
    refine sw_next ?_
    refine sw_seq ?_
    refine sw_seq ?_
    refine sw_region ?_  -- R7 disk.go:83
    refine gl_ops 2 [(0, .pointer (some ⟨db, 0, none⟩)), (1, .string (bs nm)), (2, .slice Ap p.length cp), (7, .pointer none), (10, .bool false), (39, .bool true)] (by kernel_rfl) ?_
    refine gl_done rfl ?_
    refine sw_next ?_
    refine sw_true rfl rfl ?_
    refine sw_seq ?_
    refine sw_region ?_  -- R8 disk.go:84
    refine gl_ops 1 [(0, .pointer (some ⟨db, 0, none⟩)), (1, .string (bs nm)), (2, .slice Ap p.length cp), (10, .bool false), (40, .agg #[.slice none 0 0, .int .i64 0])] (by kernel_rfl) ?_
    refine gl_st (st_boxH (cs := [.slice none 0 0, .int .i64 0]) rfl rfl rfl rfl hH ?_)
    clear hH; intro b21 w22 hH
    refine gl_ops 1 [(0, .pointer (some ⟨db, 0, none⟩)), (1, .string (bs nm)), (2, .slice Ap p.length cp), (7, .pointer (some ⟨b21, 0, none⟩)), (10, .bool false)] (by kernel_rfl) ?_
    refine gl_done rfl ?_
    refine sw_next ?_
    refine sw_region ?_  -- R9 disk.go:85
    refine gl_ops 3 [(1, .string (bs nm)), (2, .slice Ap p.length cp), (7, .pointer (some ⟨b21, 0, none⟩)), (10, .bool false), (44, .pointer (some ⟨db, 0, none⟩))] (by kernel_rfl) ?_
    refine gl_q rfl rfl rfl (rd_loadK 2 (by kernel_rfl) hH rfl rfl rfl) ?_
    refine gl_ops 2 [(2, .slice Ap p.length cp), (7, .pointer (some ⟨b21, 0, none⟩)), (10, .bool false), (45, .map (some mb)), (46, .string (bs nm)), (47, .pointer (some ⟨b21, 0, none⟩))] (by kernel_rfl) ?_
    refine gl_st (st_smput (kt := 9) (e := 136) (v := .pointer (some ⟨b21, 0, none⟩)) 1 rfl rfl rfl (by kernel_rfl) (by kernel_rfl) hH rfl rfl nm rfl rfl ?_)
    clear hH; intro w23 hH
    refine gl_done rfl ?_
    refine sw_next ?_
    refine sw_seq ?_
    have hq9 : p.length ≤ 1048576 := by omega
    refine sw_region ?_  -- R10 disk.go:87
    refine gl_ops 4 [(2, .slice Ap p.length cp), (10, .bool false), (48, .pointer (some ⟨b21, 0, none⟩)), (51, .pointer (some ⟨b21, 0, none⟩))] (by kernel_rfl) ?_
    refine gl_q rfl rfl rfl (rd_loadK 4 (by kernel_rfl) hH rfl rfl rfl) ?_
    refine gl_ops 1 [(10, .bool false), (48, .pointer (some ⟨b21, 0, none⟩)), (52, .slice none 0 0), (53, .slice Ap p.length cp)] (by kernel_rfl) ?_
    replace hH := hH.nilRow 5 1
    refine gl_st (st_appH (e := 5) (zv := .int .u8 0) (m := 1) (bytes := 1) 5 rfl rfl rfl (by kernel_rfl) (by kernel_rfl) rfl (by decide) hH rfl rfl rfl (hp.row.mono hH.zin) (bv_one _) (by unfold maxLen; omega) (by omega) ?_)
    clear hH; intro v24 w25 hH
    replace hH := hH.row_eq 5 (l' := p.length) (xs' := bv p) rfl (Nat.zero_add _) (List.nil_append _)
    obtain ⟨A26, c27, rfl, hl28, hm29⟩ := hH.row_form 5 rfl
    refine gl_ops 2 [(10, .bool false), (54, .slice A26 p.length c27), (56, .pointer (some ⟨b21, 0, none⟩))] (by kernel_rfl) ?_
    refine gl_st (st_storeK (v := .slice A26 p.length c27) 4 rfl rfl rfl hH rfl rfl rfl (by kernel_rfl) rfl (by simp) ?_)
    clear hH; intro w30 hH
    refine gl_done rfl ?_
    refine sw_next ?_
    refine sw_seq ?_
    refine sw_seq ?_
    refine sw_region ?_  -- R11 disk.go:88
    refine gl_ops 1 [(57, .bool false)] (by kernel_rfl) ?_
    refine gl_done rfl ?_
    refine sw_next ?_
    refine sw_false rfl rfl ?_
    refine sw_skip ?_
    refine sw_next ?_
    refine sw_seq ?_
    refine sw_region ?_  -- R13 disk.go:91
    refine gl_ops 1 [(6, .nilIface)] (by kernel_rfl) ?_
    refine gl_done rfl ?_
    refine sw_next ?_
    refine sw_ret ?_
    refine ret1 rfl rfl  ?_
    replace hH : Hp w w30 _ _ [filsO es, .smap mb (kput (kvE es) nm (.pointer (some ⟨b21, 0, none⟩))), .blk db 128 [.map (some mb), .bool D2.off, arV D2.ar ab], .grp (armO D2.ar ab), .blk b21 138 [.slice A26 p.length c27, .int .i64 0], .row (.slice A26 p.length c27) 5 1 p.length (bv p)] := hH
    replace hH := hH.pick [5, 0, 1, 2, 3, 4] (by kernel_rfl) (os' := [.row (.slice A26 p.length c27) 5 1 p.length (bv p), filsO es, .smap mb (kput (kvE es) nm (.pointer (some ⟨b21, 0, none⟩))), .blk db 128 [.map (some mb), .bool D2.off, arV D2.ar ab], .grp (armO D2.ar ab), .blk b21 138 [.slice A26 p.length c27, .int .i64 0]]) (by kernel_rfl)
    replace hH : Hp w w30 _ _ (.row (.slice A26 p.length c27) 5 1 p.length (bv p) :: [filsO es, .smap mb (kput (kvE es) nm (.pointer (some ⟨b21, 0, none⟩))), .blk db 128 [.map (some mb), .bool D2.off, arV D2.ar ab], .grp (armO D2.ar ab), .blk b21 138 [.slice A26 p.length c27, .int .i64 0]]) := hH
    replace hH := hH.to_vw
    replace hH : Hp w w30 _ _ [.vw (.slice A26 p.length c27) 5 p, filsO es, .smap mb (kput (kvE es) nm (.pointer (some ⟨b21, 0, none⟩))), .blk db 128 [.map (some mb), .bool D2.off, arV D2.ar ab], .grp (armO D2.ar ab), .blk b21 138 [.slice A26 p.length c27, .int .i64 0]] := hH
    replace hH := hH.pick [5, 0, 1, 2, 3, 4] (by kernel_rfl) (os' := [.blk b21 138 [.slice A26 p.length c27, .int .i64 0], .vw (.slice A26 p.length c27) 5 p, filsO es, .smap mb (kput (kvE es) nm (.pointer (some ⟨b21, 0, none⟩))), .blk db 128 [.map (some mb), .bool D2.off, arV D2.ar ab], .grp (armO D2.ar ab)]) (by kernel_rfl)
    replace hH : Hp w w30 _ _ (f1O ⟨nm, b21, .slice A26 p.length c27, p, 0⟩ :: f2O ⟨nm, b21, .slice A26 p.length c27, p, 0⟩ :: filsO es :: [.smap mb (kput (kvE es) nm (.pointer (some ⟨b21, 0, none⟩))), .blk db 128 [.map (some mb), .bool D2.off, arV D2.ar ab], .grp (armO D2.ar ab)]) := hH
    replace hH := fil_put hH
    have hk : kput (kvE es) nm (.pointer (some ⟨b21, 0, none⟩)) = kvE (putE es ⟨nm, b21, .slice A26 p.length c27, p, 0⟩) := kput_kvE es ⟨nm, b21, .slice A26 p.length c27, p, 0⟩
    replace hH := hH.cast (os' := [filsO (putE es ⟨nm, b21, .slice A26 p.length c27, p, 0⟩), .smap mb (kvE (putE es ⟨nm, b21, .slice A26 p.length c27, p, 0⟩)), .blk db 128 [.map (some mb), .bool D2.off, arV D2.ar ab], .grp (armO D2.ar ab)]) (by rw [hk])
    replace hH : Hp w w30 _ _ [filsO (putE es ⟨nm, b21, .slice A26 p.length c27, p, 0⟩), .smap mb (kvE (putE es ⟨nm, b21, .slice A26 p.length c27, p, 0⟩)), .blk db 128 [.map (some mb), .bool D2.off, arV D2.ar ab], .grp (armO D2.ar ab)] := hH
    replace hH := hH.pick [2, 1, 0, 3] (by kernel_rfl) (os' := [.blk db 128 [.map (some mb), .bool D2.off, arV D2.ar ab], .smap mb (kvE (putE es ⟨nm, b21, .slice A26 p.length c27, p, 0⟩)), filsO (putE es ⟨nm, b21, .slice A26 p.length c27, p, 0⟩), .grp (armO D2.ar ab)]) (by kernel_rfl)
    replace hH := (hH.sublist (.cons_cons _ (.cons_cons _ (.cons_cons _ (.cons_cons _ (List.nil_sublist _))))))
    replace hH : Hp w w30 _ _ [.blk db 128 [.map (some mb), .bool D2.off, arV D2.ar ab], .smap mb (kvE (putE es ⟨nm, b21, .slice A26 p.length c27, p, 0⟩)), filsO (putE es ⟨nm, b21, .slice A26 p.length c27, p, 0⟩), .grp (armO D2.ar ab)] := hH
    exact fin_app (cu := false) (pt := pt) (D2 := D2) p hm0 hcut (by simp) (by unfold doF; rw [hold]; exact rep_put hR ⟨nm, b21, .slice A26 p.length c27, p, 0⟩) ((hH.close (r := [])).turned)
  try simp only [decide_eq_false_iff_not, beq_eq_false_iff_ne, bne_eq_false_iff_eq, ne_eq, Decidable.not_not, Int.not_lt, Int.not_le, Bool.not_eq_false', beq_iff_eq, bne_iff_ne, decide_eq_true_eq] at hg1
  have hm00 : mayP D.off es nm = 0 := by omega
  have hm0 : mayE D nm false = 0 := ff_zero hR (.inl hm00)
  obtain ⟨fb, fv, b, sr, he, hat, hlt⟩ := at_zero hm00
  have hold := old_of hR he
  obtain ⟨hbM, hsr, hnm⟩ := good_at hG hR he
  refine gl_cv 7 (.pointer (some ⟨fb, 0, none⟩)) (hat) rfl ?_
  refine gl_ops 4 [(0, .pointer (some ⟨db, 0, none⟩)), (1, .string (bs nm)), (2, .slice Ap p.length cp), (7, .pointer (some ⟨fb, 0, none⟩)), (8, errV (mayP D.off es nm)), (23, .bool false)] (by kernel_rfl) ?_
  refine gl_done rfl ?_
  refine sw_next ?_
  refine sw_false rfl rfl ?_
  refine sw_skip ?_
  refine sw_next ?_
  refine sw_seq ?_
  refine sw_region ?_  -- R4 disk.go:79
  obtain ⟨D2, cu, pt, hcut⟩ : ∃ D2 cu pt, cutD D = (D2, cu, pt) := ⟨_, _, _, rfl⟩
  refine gl_ops 1 [(0, .pointer (some ⟨db, 0, none⟩)), (1, .string (bs nm)), (2, .slice Ap p.length cp), (7, .pointer (some ⟨fb, 0, none⟩)), (26, .pointer (some ⟨db, 0, none⟩))] (by kernel_rfl) ?_
  replace hH : Hp w w1 _ _ [filsO es, .grp (armO D.ar ab), .blk db 128 [.map (some mb), .bool D.off, arV D.ar ab], .smap mb (kvE es)] := hH
  replace hH := hH.pick [2, 1, 0, 3] (by kernel_rfl) (os' := [.blk db 128 [.map (some mb), .bool D.off, arV D.ar ab], .grp (armO D.ar ab), filsO es, .smap mb (kvE es)]) (by kernel_rfl)
  replace hH : Hp w w1 _ _ ([.blk db 128 [.map (some mb), .bool D.off, arV D.ar ab], .grp (armO D.ar ab)] ++ [filsO es, .smap mb (kvE es)]) := hH
  refine gl_st (st_call rfl rfl rfl (by kernel_rfl) rfl (Cut_ct _ ab _ D D2 cu pt _ hcut hA hH.mine) ?_)
  rintro _ w31 ⟨rfl, hF32⟩
  replace hH := hH.turns hF32; clear hF32
  replace hH : Hp w w31 _ _ [filsO es, .smap mb (kvE es), .blk db 128 [.map (some mb), .bool D2.off, arV D2.ar ab], .grp (armO D2.ar ab)] := hH
  refine gl_ops 5 [(0, .pointer (some ⟨db, 0, none⟩)), (1, .string (bs nm)), (2, .slice Ap p.length cp), (7, .pointer (some ⟨fb, 0, none⟩)), (9, .int .i64 pt), (10, .bool cu)] (by kernel_rfl) ?_
  refine gl_done rfl ?_
  refine sw_next ?_
  refine sw_seq ?_
  refine sw_seq ?_
  refine sw_region ?_  -- R5 disk.go:80
  refine gl_ops 1 [(0, .pointer (some ⟨db, 0, none⟩)), (1, .string (bs nm)), (2, .slice Ap p.length cp), (7, .pointer (some ⟨fb, 0, none⟩)), (9, .int .i64 pt), (10, .bool cu), (30, .bool cu)] (by kernel_rfl) ?_
  refine gl_done rfl ?_
  refine sw_next ?_
  refine sw_cond rfl rfl (fun hc9 => ?_) (fun hc9 => ?_)
  ·
    refine sw_cv 10 (.bool true) (by rw [hc9]) rfl ?_
    refine sw_cv 30 (.bool true) (by rw [hc9]) rfl ?_
    try simp only [decide_eq_true_eq, beq_iff_eq, bne_iff_ne, ne_eq, Bool.not_eq_true', beq_eq_false_iff_ne, bne_eq_false_iff_eq, decide_eq_false_iff_not, Int.not_lt, Int.not_le] at hc9
    subst hc9
    refine sw_region ?_  -- R6 disk.go:81
    refine gl_ops 3 [(0, .pointer (some ⟨db, 0, none⟩)), (1, .string (bs nm)), (7, .pointer (some ⟨fb, 0, none⟩)), (10, .bool true), (31, .slice Ap p.length cp), (32, .int .i64 pt), (33, .slice Ap p.length cp)] (by kernel_rfl) ?_
    refine gl_q rfl rfl rfl (rd_len (e := 5) (by kernel_rfl) rfl) ?_
    refine gl_ops 1 [(0, .pointer (some ⟨db, 0, none⟩)), (1, .string (bs nm)), (7, .pointer (some ⟨fb, 0, none⟩)), (10, .bool true), (31, .slice Ap p.length cp), (32, .int .i64 pt), (35, .int .i64 (IntKind.i64.wrap (((p.length : Nat) : Int) + 1)))] (by kernel_rfl) ?_
    refine gl_cv 35 (.int .i64 ((p.length + 1 : Nat) : Int)) (cv_i64 (by omega)) rfl ?_
    refine gl_st (st_call rfl rfl rfl (by kernel_rfl) rfl (Modulo_ct pt (p.length + 1) _ (by omega) (by omega)) ?_)
    rintro _ w33 ⟨rfl, hF34⟩
    replace hH := hH.call hF34; clear hF34
    have hmod := modI_lt pt (show 0 < p.length + 1 by omega)
    obtain ⟨A35, hk36, hv37⟩ := hp.row.cut (by decide) 0 (modI pt (p.length + 1)) (by omega) (by omega)
    refine gl_q rfl rfl rfl (rd_cut (e := 5) (m := 1) (by kernel_rfl) (by kernel_rfl) rfl (.inl ⟨rfl, rfl⟩) (.inr ⟨_, _, rfl, rfl⟩) hk36) ?_
    have hr38 := RB.head hv37 (by omega)
    refine gl_ops 1 [(0, .pointer (some ⟨db, 0, none⟩)), (1, .string (bs nm)), (2, .slice A35 ((modI pt (p.length + 1)) - 0) (cp - 0)), (7, .pointer (some ⟨fb, 0, none⟩)), (10, .bool true)] (by kernel_rfl) ?_
    refine gl_done rfl ?_
    refine sw_next ?_
    refine sw_seq ?_
    refine sw_seq ?_
    refine sw_region ?_  -- R7 disk.go:83
    refine gl_ops 2 [(0, .pointer (some ⟨db, 0, none⟩)), (1, .string (bs nm)), (2, .slice A35 ((modI pt (p.length + 1)) - 0) (cp - 0)), (7, .pointer (some ⟨fb, 0, none⟩)), (10, .bool true), (39, .bool false)] (by kernel_rfl) ?_
    refine gl_done rfl ?_
    refine sw_next ?_
    refine sw_false rfl rfl ?_
    refine sw_skip ?_
    refine sw_next ?_
    refine sw_seq ?_
    have hq9 : (p.take (modI pt (p.length + 1))).length ≤ 1048576 := by rw [List.length_take]; omega
    replace hH := fil_out he hH
    replace hH : Hp w w33 _ _ [.blk fb 138 [fv, .int .i64 ((sr : Nat) : Int)], .vw fv 5 b, restO es (ixE es nm), .smap mb (kvE es), .blk db 128 [.map (some mb), .bool D2.off, arV D2.ar ab], .grp (armO D2.ar ab)] := hH
    obtain ⟨Af, cf, hv, hv1, hv2⟩ := hH.vw_form 1 rfl
    subst hv
    refine sw_region ?_  -- R10 disk.go:87
    refine gl_ops 4 [(2, .slice A35 ((modI pt (p.length + 1)) - 0) (cp - 0)), (10, .bool true), (48, .pointer (some ⟨fb, 0, none⟩)), (51, .pointer (some ⟨fb, 0, none⟩))] (by kernel_rfl) ?_
    refine gl_q rfl rfl rfl (rd_loadK 0 (by kernel_rfl) hH rfl rfl rfl) ?_
    refine gl_ops 1 [(10, .bool true), (48, .pointer (some ⟨fb, 0, none⟩)), (52, .slice Af b.length cf), (53, .slice A35 ((modI pt (p.length + 1)) - 0) (cp - 0))] (by kernel_rfl) ?_
    refine gl_st (st_appV (e := 5) (zv := .int .u8 0) (bytes := 1) 1 rfl rfl rfl (by kernel_rfl) (by kernel_rfl) rfl hH rfl rfl rfl (hr38.mono hH.zin) (by have := hq9; unfold maxLen; omega) (by have := hq9; omega) ?_)
    clear hH; intro v43 w44 hH
    obtain ⟨A39, c40, rfl, hl41, hm42⟩ := hH.vw_form 1 rfl
    refine gl_ops 2 [(10, .bool true), (54, .slice A39 ((b ++ (p.take (modI pt (p.length + 1)))).length) c40), (56, .pointer (some ⟨fb, 0, none⟩))] (by kernel_rfl) ?_
    refine gl_st (st_storeK (v := .slice A39 ((b ++ (p.take (modI pt (p.length + 1)))).length) c40) 0 rfl rfl rfl hH rfl rfl rfl (by kernel_rfl) rfl (by simp) ?_)
    clear hH; intro w45 hH
    refine gl_done rfl ?_
    refine sw_next ?_
    refine sw_seq ?_
    refine sw_seq ?_
    refine sw_region ?_  -- R11 disk.go:88
    refine gl_ops 1 [(57, .bool true)] (by kernel_rfl) ?_
    refine gl_done rfl ?_
    refine sw_next ?_
    refine sw_true rfl rfl ?_
    refine sw_seq ?_
    refine sw_region ?_  -- R12 disk.go:89
    refine gl_ops 2 [(6, .iface 37 (.int .i64 80))] (by kernel_rfl) ?_
    refine gl_done rfl ?_
    refine sw_next ?_
    refine sw_ret ?_
    refine thR ?_
    refine ret1 rfl rfl  ?_
    replace hH : Hp w w45 _ _ (f1O ⟨nm, fb, (.slice A39 (b ++ (p.take (modI pt (p.length + 1)))).length c40), b ++ (p.take (modI pt (p.length + 1))), sr⟩ :: f2O ⟨nm, fb, (.slice A39 (b ++ (p.take (modI pt (p.length + 1)))).length c40), b ++ (p.take (modI pt (p.length + 1))), sr⟩ :: restO es (ixE es nm) :: [.smap mb (kvE es), .blk db 128 [.map (some mb), .bool D2.off, arV D2.ar ab], .grp (armO D2.ar ab)]) := hH
    replace hH := fil_in (List.getElem?_eq_some_iff.1 he).1 hH
    have hkv : kvE es = kvE (es.set (ixE es nm) ⟨nm, fb, (.slice A39 (b ++ (p.take (modI pt (p.length + 1)))).length c40), b ++ (p.take (modI pt (p.length + 1))), sr⟩) := (kvE_set (e' := ⟨nm, fb, (.slice A39 (b ++ (p.take (modI pt (p.length + 1)))).length c40), b ++ (p.take (modI pt (p.length + 1))), sr⟩) he rfl rfl).symm
    replace hH := hH.cast (os' := [filsO (es.set (ixE es nm) ⟨nm, fb, (.slice A39 (b ++ (p.take (modI pt (p.length + 1)))).length c40), b ++ (p.take (modI pt (p.length + 1))), sr⟩), .smap mb (kvE (es.set (ixE es nm) ⟨nm, fb, (.slice A39 (b ++ (p.take (modI pt (p.length + 1)))).length c40), b ++ (p.take (modI pt (p.length + 1))), sr⟩)), .blk db 128 [.map (some mb), .bool D2.off, arV D2.ar ab], .grp (armO D2.ar ab)]) (by rw [← hkv])
    replace hH : Hp w w45 _ _ [filsO (es.set (ixE es nm) ⟨nm, fb, (.slice A39 (b ++ (p.take (modI pt (p.length + 1)))).length c40), b ++ (p.take (modI pt (p.length + 1))), sr⟩), .smap mb (kvE (es.set (ixE es nm) ⟨nm, fb, (.slice A39 (b ++ (p.take (modI pt (p.length + 1)))).length c40), b ++ (p.take (modI pt (p.length + 1))), sr⟩)), .blk db 128 [.map (some mb), .bool D2.off, arV D2.ar ab], .grp (armO D2.ar ab)] := hH
    replace hH := hH.pick [2, 1, 0, 3] (by kernel_rfl) (os' := [.blk db 128 [.map (some mb), .bool D2.off, arV D2.ar ab], .smap mb (kvE (es.set (ixE es nm) ⟨nm, fb, (.slice A39 (b ++ (p.take (modI pt (p.length + 1)))).length c40), b ++ (p.take (modI pt (p.length + 1))), sr⟩)), filsO (es.set (ixE es nm) ⟨nm, fb, (.slice A39 (b ++ (p.take (modI pt (p.length + 1)))).length c40), b ++ (p.take (modI pt (p.length + 1))), sr⟩), .grp (armO D2.ar ab)]) (by kernel_rfl)
    replace hH := (hH.sublist (.cons_cons _ (.cons_cons _ (.cons_cons _ (.cons_cons _ (List.nil_sublist _))))))
    replace hH : Hp w w45 _ _ [.blk db 128 [.map (some mb), .bool D2.off, arV D2.ar ab], .smap mb (kvE (es.set (ixE es nm) ⟨nm, fb, (.slice A39 (b ++ (p.take (modI pt (p.length + 1)))).length c40), b ++ (p.take (modI pt (p.length + 1))), sr⟩)), filsO (es.set (ixE es nm) ⟨nm, fb, (.slice A39 (b ++ (p.take (modI pt (p.length + 1)))).length c40), b ++ (p.take (modI pt (p.length + 1))), sr⟩), .grp (armO D2.ar ab)] := hH
    exact fin_app (cu := true) (pt := pt) (D2 := D2) (p.take (modI pt (p.length + 1))) hm0 hcut (by simp) (by unfold doF; rw [hold]; exact rep_set hR he _ rfl) ((hH.close (r := [])).turned)
  refine sw_cv 10 (.bool false) (by rw [hc9]) rfl ?_
  refine sw_cv 30 (.bool false) (by rw [hc9]) rfl ?_
  try simp only [decide_eq_false_iff_not, beq_eq_false_iff_ne, bne_eq_false_iff_eq, ne_eq, Decidable.not_not, Int.not_lt, Int.not_le, Bool.not_eq_false', beq_iff_eq, bne_iff_ne, decide_eq_true_eq] at hc9
  subst hc9
  refine sw_skip ?_
  refine sw_next ?_
  refine sw_seq ?_
  refine sw_seq ?_
  refine sw_region ?_  -- R7 disk.go:83
  refine gl_ops 2 [(0, .pointer (some ⟨db, 0, none⟩)), (1, .string (bs nm)), (2, .slice Ap p.length cp), (7, .pointer (some ⟨fb, 0, none⟩)), (10, .bool false), (39, .bool false)] (by kernel_rfl) ?_
  refine gl_done rfl ?_
  refine sw_next ?_
  refine sw_false rfl rfl ?_
  refine sw_skip ?_
  refine sw_next ?_
  refine sw_seq ?_
  have hq9 : p.length ≤ 1048576 := by omega
  replace hH := fil_out he hH
  replace hH : Hp w w31 _ _ [.blk fb 138 [fv, .int .i64 ((sr : Nat) : Int)], .vw fv 5 b, restO es (ixE es nm), .smap mb (kvE es), .blk db 128 [.map (some mb), .bool D2.off, arV D2.ar ab], .grp (armO D2.ar ab)] := hH
  obtain ⟨Af, cf, hv, hv1, hv2⟩ := hH.vw_form 1 rfl
  subst hv
  refine sw_region ?_  -- R10 disk.go:87
  refine gl_ops 4 [(2, .slice Ap p.length cp), (10, .bool false), (48, .pointer (some ⟨fb, 0, none⟩)), (51, .pointer (some ⟨fb, 0, none⟩))] (by kernel_rfl) ?_
  refine gl_q rfl rfl rfl (rd_loadK 0 (by kernel_rfl) hH rfl rfl rfl) ?_
  refine gl_ops 1 [(10, .bool false), (48, .pointer (some ⟨fb, 0, none⟩)), (52, .slice Af b.length cf), (53, .slice Ap p.length cp)] (by kernel_rfl) ?_
  refine gl_st (st_appV (e := 5) (zv := .int .u8 0) (bytes := 1) 1 rfl rfl rfl (by kernel_rfl) (by kernel_rfl) rfl hH rfl rfl rfl (hp.mono hH.zin) (by have := hq9; unfold maxLen; omega) (by have := hq9; omega) ?_)
  clear hH; intro v50 w51 hH
  obtain ⟨A46, c47, rfl, hl48, hm49⟩ := hH.vw_form 1 rfl
  refine gl_ops 2 [(10, .bool false), (54, .slice A46 ((b ++ p).length) c47), (56, .pointer (some ⟨fb, 0, none⟩))] (by kernel_rfl) ?_
  refine gl_st (st_storeK (v := .slice A46 ((b ++ p).length) c47) 0 rfl rfl rfl hH rfl rfl rfl (by kernel_rfl) rfl (by simp) ?_)
  clear hH; intro w52 hH
  refine gl_done rfl ?_
  refine sw_next ?_
  refine sw_seq ?_
  refine sw_seq ?_
  refine sw_region ?_  -- R11 disk.go:88
  refine gl_ops 1 [(57, .bool false)] (by kernel_rfl) ?_
  refine gl_done rfl ?_
  refine sw_next ?_
  refine sw_false rfl rfl ?_
  refine sw_skip ?_
  refine sw_next ?_
  refine sw_seq ?_
  refine sw_region ?_  -- R13 disk.go:91
  refine gl_ops 1 [(6, .nilIface)] (by kernel_rfl) ?_
  refine gl_done rfl ?_
  refine sw_next ?_
  refine sw_ret ?_
  refine ret1 rfl rfl  ?_
  replace hH : Hp w w52 _ _ (f1O ⟨nm, fb, (.slice A46 (b ++ p).length c47), b ++ p, sr⟩ :: f2O ⟨nm, fb, (.slice A46 (b ++ p).length c47), b ++ p, sr⟩ :: restO es (ixE es nm) :: [.smap mb (kvE es), .blk db 128 [.map (some mb), .bool D2.off, arV D2.ar ab], .grp (armO D2.ar ab)]) := hH
  replace hH := fil_in (List.getElem?_eq_some_iff.1 he).1 hH
  have hkv : kvE es = kvE (es.set (ixE es nm) ⟨nm, fb, (.slice A46 (b ++ p).length c47), b ++ p, sr⟩) := (kvE_set (e' := ⟨nm, fb, (.slice A46 (b ++ p).length c47), b ++ p, sr⟩) he rfl rfl).symm
  replace hH := hH.cast (os' := [filsO (es.set (ixE es nm) ⟨nm, fb, (.slice A46 (b ++ p).length c47), b ++ p, sr⟩), .smap mb (kvE (es.set (ixE es nm) ⟨nm, fb, (.slice A46 (b ++ p).length c47), b ++ p, sr⟩)), .blk db 128 [.map (some mb), .bool D2.off, arV D2.ar ab], .grp (armO D2.ar ab)]) (by rw [← hkv])
  replace hH : Hp w w52 _ _ [filsO (es.set (ixE es nm) ⟨nm, fb, (.slice A46 (b ++ p).length c47), b ++ p, sr⟩), .smap mb (kvE (es.set (ixE es nm) ⟨nm, fb, (.slice A46 (b ++ p).length c47), b ++ p, sr⟩)), .blk db 128 [.map (some mb), .bool D2.off, arV D2.ar ab], .grp (armO D2.ar ab)] := hH
  replace hH := hH.pick [2, 1, 0, 3] (by kernel_rfl) (os' := [.blk db 128 [.map (some mb), .bool D2.off, arV D2.ar ab], .smap mb (kvE (es.set (ixE es nm) ⟨nm, fb, (.slice A46 (b ++ p).length c47), b ++ p, sr⟩)), filsO (es.set (ixE es nm) ⟨nm, fb, (.slice A46 (b ++ p).length c47), b ++ p, sr⟩), .grp (armO D2.ar ab)]) (by kernel_rfl)
  replace hH := (hH.sublist (.cons_cons _ (.cons_cons _ (.cons_cons _ (.cons_cons _ (List.nil_sublist _))))))
  replace hH : Hp w w52 _ _ [.blk db 128 [.map (some mb), .bool D2.off, arV D2.ar ab], .smap mb (kvE (es.set (ixE es nm) ⟨nm, fb, (.slice A46 (b ++ p).length c47), b ++ p, sr⟩)), filsO (es.set (ixE es nm) ⟨nm, fb, (.slice A46 (b ++ p).length c47), b ++ p, sr⟩), .grp (armO D2.ar ab)] := hH
  exact fin_app (cu := false) (pt := pt) (D2 := D2) p hm0 hcut (by simp) (by unfold doF; rw [hold]; exact rep_set hR he _ rfl) ((hH.close (r := [])).turned)
end Go.Proofs.YtjcchjgkkplamaaDoor
