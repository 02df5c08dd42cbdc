/- Layer 18 (disk), the program's: Sync, Put, Cut, Remove, Append, Read: what they answer. -/
import Derived.Test.YtjcchjgkkplamaaGreatDoorDisk1
set_option maxRecDepth 100000
set_option maxHeartbeats 2000000
set_option linter.unusedVariables false
set_option linter.unusedSimpArgs false
namespace Go.Proofs.YtjcchjgkkplamaaGreatDoor
open Go.RowKit Go.SW
theorem at_zero {pw : Bool} {es : List PE} {nm : List UInt8} (h : mayQ pw es nm = 0) : ∃ fb fv b sr, es[ixE es nm]? = some ⟨nm, fb, fv, b, sr⟩ ∧ atV pw es nm = .pointer (some ⟨fb, 0, none⟩) ∧ ixE es nm < es.length := by
  have hlt : ixE es nm < es.length := by
    unfold mayQ at h
    split at h
    · omega
    split at h
    · omega
    split at h
    · assumption
    · omega
  obtain ⟨⟨nm2, fb, fv, b, sr⟩, h2, h3⟩ := ix_at hlt
  simp only at h3
  subst h3
  exact ⟨fb, fv, b, sr, h2, by unfold atV fV; rw [if_pos h, h2], hlt⟩
theorem old_of {es : List PE} {F : List Fil} (h : Rep es F) {nm : List UInt8} {fb : Nat} {fv : Value} {b : List UInt8} {sr : Nat} (he : es[ixE es nm]? = some ⟨nm, fb, fv, b, sr⟩) : oldF F nm = ⟨nm, b, sr⟩ := by
  unfold oldF
  rw [← rep_get h nm, he]; rfl
theorem doD_err {D : Dsk} {kind : Nat} {nm p : List UInt8} {n : Int} {th : Bool} (ht : decide (kind ≠ 0 ∧ kind ≠ 2) = th) (h : mayE D nm th ≠ 0) : doD D kind nm p n = (D, mayE D nm th) := by
  unfold doD
  rw [ht, if_pos h]
theorem doD_ok {D D2 : Dsk} {kind : Nat} {nm p : List UInt8} {n : Int} {th cu : Bool} {pt : Int} (ht : decide (kind ≠ 0 ∧ kind ≠ 2) = th) (h : mayE D nm th = 0) (h2 : ¬ (kind = 3 ∧ (n < 0 ∨ ((oldF D.fs nm).b.length : Int) < n))) (hc : cutD D = (D2, cu, pt)) :
    doD D kind nm p n = ({ D2 with fs := if cu = false ∨ kind = 0 ∨ modI pt 2 = 1 then doF D.fs kind nm (if cu = true ∧ kind = 0 then p.take (modI pt (p.length + 1)) else p) n.toNat else D.fs }, if cu = true then 80 else 0) := by
  unfold doD
  rw [ht, if_neg (by rw [h]; simp), if_neg h2, hc]
abbrev ownD (db mb ab : Nat) (D : Dsk) (es : List PE) : List Own := [.grp (dskO db mb ab D es)]
/-- What an act answers, and leaves. -/
def ActPost (db mb ab : Nat) (D : Dsk) (es : List PE) (R : Dsk × Nat) (w : World) (v : Value) (w' : World) : Prop := ∃ es', v = errV R.2 ∧ Rep es' R.1.fs ∧ Turn w w' (ownD db mb ab D es) (ownD db mb ab R.1 es')
section
variable {w w' : World} {db mb ab : Nat} {D D2 : Dsk} {es es' : List PE} {kind : Nat} {nm p : List UInt8} {n : Int} {th cu : Bool} {pt : Int}
theorem fin_err (hR : Rep es D.fs) (ht : decide (kind ≠ 0 ∧ kind ≠ 2) = th) (e : Nat) (he : mayE D nm th = e) (h : e ≠ 0) (hT : Turn w w' (ownD db mb ab D es) (ownD db mb ab D es)) : ActPost db mb ab D es (doD D kind nm p n) w (errV e) w' := by
  subst he
  rw [doD_err ht h]
  exact ⟨es, rfl, hR, hT⟩
theorem fin_run (ht : decide (kind ≠ 0 ∧ kind ≠ 2) = th) (h : mayE D nm th = 0) (h2 : ¬ (kind = 3 ∧ (n < 0 ∨ ((oldF D.fs nm).b.length : Int) < n))) (hc : cutD D = (D2, cu, pt)) (hk : kind ≠ 0) (hrun : cu = false ∨ modI pt 2 = 1)
    (hrep : Rep es' (doF D.fs kind nm p n.toNat)) (hT : Turn w w' (ownD db mb ab D es) [.grp [hdO db mb ab D2.off D2.ar, .smap mb (kvE es'), filsO es', .grp (armO D2.ar ab)]]) : ActPost db mb ab D es (doD D kind nm p n) w (errV (if cu = true then 80 else 0)) w' := by
  rw [doD_ok ht h h2 hc]
  refine ⟨es', rfl, ?_, hT⟩
  show Rep es' (if cu = false ∨ kind = 0 ∨ modI pt 2 = 1 then doF D.fs kind nm (if cu = true ∧ kind = 0 then p.take (modI pt (p.length + 1)) else p) n.toNat else D.fs)
  rw [if_pos (hrun.elim .inl fun h => .inr (.inr h)), if_neg (fun h => hk h.2)]
  exact hrep
theorem fin_not (hR : Rep es D.fs) (ht : decide (kind ≠ 0 ∧ kind ≠ 2) = th) (h : mayE D nm th = 0) (h2 : ¬ (kind = 3 ∧ (n < 0 ∨ ((oldF D.fs nm).b.length : Int) < n))) (hc : cutD D = (D2, cu, pt)) (hk : kind ≠ 0) (hrun : ¬ (cu = false ∨ modI pt 2 = 1))
    (hT : Turn w w' (ownD db mb ab D es) [.grp [hdO db mb ab D2.off D2.ar, .smap mb (kvE es), filsO es, .grp (armO D2.ar ab)]]) : ActPost db mb ab D es (doD D kind nm p n) w (errV (if cu = true then 80 else 0)) w' := by
  rw [doD_ok ht h h2 hc]
  refine ⟨es, rfl, ?_, hT⟩
  show Rep es (if cu = false ∨ kind = 0 ∨ modI pt 2 = 1 then doF D.fs kind nm (if cu = true ∧ kind = 0 then p.take (modI pt (p.length + 1)) else p) n.toNat else D.fs)
  rw [if_neg (fun h => hrun (h.elim .inl fun h => h.elim (fun h => absurd h hk) .inr))]
  exact hR
theorem fin_arg (hR : Rep es D.fs) (h : mayE D nm true = 0) (h2 : n < 0 ∨ ((oldF D.fs nm).b.length : Int) < n) (hT : Turn w w' (ownD db mb ab D es) (ownD db mb ab D es)) : ActPost db mb ab D es (doD D 3 nm p n) w (errV 1) w' := by
  have e : doD D 3 nm p n = (D, 1) := by
    unfold doD
    rw [show decide ((3 : Nat) ≠ 0 ∧ (3 : Nat) ≠ 2) = true from rfl, if_neg (by rw [h]; simp), if_pos ⟨rfl, h2⟩]
  rw [e]
  exact ⟨es, rfl, hR, hT⟩
theorem fin_app (q : List UInt8) (h : mayE D nm false = 0) (hc : cutD D = (D2, cu, pt)) (hq : q = if cu = true then p.take (modI pt (p.length + 1)) else p) (hrep : Rep es' (doF D.fs 0 nm q 0))
    (hT : Turn w w' (ownD db mb ab D es) [.grp [hdO db mb ab D2.off D2.ar, .smap mb (kvE es'), filsO es', .grp (armO D2.ar ab)]]) : ActPost db mb ab D es (doD D 0 nm p 0) w (errV (if cu = true then 80 else 0)) w' := by
  rw [doD_ok (th := false) rfl h (fun h => absurd h.1 (by decide)) hc]
  refine ⟨es', rfl, ?_, hT⟩
  show Rep es' (if cu = false ∨ 0 = 0 ∨ modI pt 2 = 1 then doF D.fs 0 nm (if cu = true ∧ 0 = 0 then p.take (modI pt (p.length + 1)) else p) 0 else D.fs)
  rw [if_pos (.inr (.inl rfl))]
  rw [hq] at hrep
  by_cases hcu : cu = true
  · rw [if_pos ⟨hcu, rfl⟩]; rw [if_pos hcu] at hrep; exact hrep
  · rw [if_neg (fun h => hcu h.1)]; rw [if_neg hcu] at hrep; exact hrep
end
theorem errV_if {e : Nat} (h : e ≠ 0) : errV e = .iface 37 (.int .i64 ((e : Nat) : Int)) := by unfold errV errW; rw [if_neg h]
theorem at_n0 {pw : Bool} {es : List PE} {nm : List UInt8} (h : mayQ pw es nm ≠ 0) : atV pw es nm = .pointer none := by unfold atV; rw [if_neg h]
theorem at_81 {pw : Bool} {es : List PE} {nm : List UInt8} (h : mayQ pw es nm = 81) : ¬ ixE es nm < es.length := by
  intro hlt
  unfold mayQ at h
  rw [if_pos hlt] at h
  split at h
  · omega
  split at h <;> omega
theorem old_none {es : List PE} {F : List Fil} (h : Rep es F) {nm : List UInt8} (hn : ¬ ixE es nm < es.length) : oldF F nm = ⟨nm, [], 0⟩ := by
  unfold oldF
  rw [← rep_get h nm, List.getElem?_eq_none (by omega)]; rfl
theorem ff_zero {D : Dsk} {es : List PE} (hR : Rep es D.fs) {nm : List UInt8} (h : mayQ D.off es nm = 0 ∨ mayQ D.off es nm = 81) : mayE D nm false = 0 := by
  rw [mayE_ff hR]
  rcases h with h | h <;> rw [h] <;> rfl
theorem ff_err {D : Dsk} {es : List PE} (hR : Rep es D.fs) {nm : List UInt8} (h : mayQ D.off es nm ≠ 81) : mayE D nm false = mayQ D.off es nm := by rw [mayE_ff hR, if_neg h]
section
variable {w w0 : World} {z : Zone} {F : List Nat} {os : List Own}
theorem fil_own (hH : Hp w0 w z F os) (k : Nat) {es : List PE} (hk : os[k]? = some (filsO es)) {i : Nat} {e : PE} (he : es[i]? = some e) : (f1O e).at w ∧ (f2O e).at w := by
  have h : ∀ o ∈ es.map (fun e => Own.grp (filO e)), o.at w := hH.own _ (List.mem_of_getElem? hk)
  have h1 : ∀ o ∈ filO e, o.at w := h _ (List.mem_map.2 ⟨e, List.mem_of_getElem? he, rfl⟩)
  exact ⟨h1 _ List.mem_cons_self, h1 _ (List.mem_cons_of_mem _ List.mem_cons_self)⟩
theorem fil_cell0 (hH : Hp w0 w z F os) (k : Nat) {es : List PE} (hk : os[k]? = some (filsO es)) {i : Nat} {nm : List UInt8} {fb : Nat} {fv : Value} {b : List UInt8} {sr : Nat} (he : es[i]? = some ⟨nm, fb, fv, b, sr⟩) : w.cell? ⟨fb, 0, none⟩ = some fv := by
  have h : w.heap[fb]? = some (.cells #[fv, .int .i64 ((sr : Nat) : Int)] 84 (0, 0)) := (fil_own hH k hk he).1
  simp [World.cell?, h]
theorem fil_cell1 (hH : Hp w0 w z F os) (k : Nat) {es : List PE} (hk : os[k]? = some (filsO es)) {i : Nat} {nm : List UInt8} {fb : Nat} {fv : Value} {b : List UInt8} {sr : Nat} (he : es[i]? = some ⟨nm, fb, fv, b, sr⟩) : w.cell? ⟨fb, 1, none⟩ = some (.int .i64 ((sr : Nat) : Int)) := by
  have h : w.heap[fb]? = some (.cells #[fv, .int .i64 ((sr : Nat) : Int)] 84 (0, 0)) := (fil_own hH k hk he).1
  simp [World.cell?, h]
theorem fil_rb (hH : Hp w0 w z F os) (k : Nat) {es : List PE} (hk : os[k]? = some (filsO es)) {i : Nat} {nm : List UInt8} {fb : Nat} {fv : Value} {b : List UInt8} {sr : Nat} (he : es[i]? = some ⟨nm, fb, fv, b, sr⟩) : RB w.cell? fv b := vw_row (fil_own hH k hk he).2
end
theorem good_at {es : List PE} {F : List Fil} {M : Nat} (hG : Good F M) (hR : Rep es F) {i : Nat} {nm : List UInt8} {fb : Nat} {fv : Value} {b : List UInt8} {sr : Nat} (he : es[i]? = some ⟨nm, fb, fv, b, sr⟩) : b.length ≤ M ∧ sr ≤ b.length ∧ nm.length ≤ 32 := by
  have h : (⟨nm, b, sr⟩ : Fil) ∈ F := hR.perm.mem_iff.1 (List.mem_map.2 ⟨_, List.mem_of_getElem? he, rfl⟩)
  exact ⟨hG.short _ h, hG.sure _ h, hG.nm _ h⟩

theorem DPut_ct (db mb ab : Nat) (D : Dsk) (es : List PE) (nm : List UInt8) (vp : Value) (p : List UInt8) (M : Nat) (w : World) (hM : Mine w (ownD db mb ab D es)) (hR : Rep es D.fs) (hA : ArOk D.ar) (hG : Good D.fs M) (hMM : M ≤ 140737488355328) (hs : nm.length ≤ 140737488355328) (hp : RB (off w (blksOf (ownD db mb ab D es))) vp p) (hpl : p.length ≤ 140737488355328) :
    Fun Tryz.prog 17 [.pointer (some ⟨db, 0, none⟩), .string (bs nm), vp] w fun v w' => ActPost db mb ab D es (doD D 2 nm p 0) w v w' := by
  obtain ⟨Ap, cp, rfl, hp1, hp2⟩ := hp.row.form
  refine fun_of_sw Tryz.func17 rfl 26 rfl rfl ?_
  have hH : Hp w w (off w (blksOf (ownD db mb ab D es))) (blksOf (ownD db mb ab D es)) (dskO db mb ab D es ++ []) := (Hp.start_mine hM).open_
  replace hH : Hp w w _ _ [.blk db 70 [.map (some mb), .bool D.off, arV D.ar ab], .smap mb (kvE es), filsO es, .grp (armO D.ar ab)] := hH
  refine sw_sr ?_
  refine gl_st (st_boxH (cs := [Pp db 0]) rfl rfl rfl rfl hH ?_)
  clear hH; intro b1 w2 hH
  refine gl_st (st_boxH (cs := [.string (bs nm)]) rfl rfl rfl rfl hH ?_)
  clear hH; intro b3 w4 hH
  refine gl_st (st_boxH (cs := [.slice Ap p.length cp]) rfl rfl rfl rfl hH ?_)
  clear hH; intro b5 w6 hH
  replace hH : Hp w w6 _ _ [.blk db 70 [.map (some mb), .bool D.off, arV D.ar ab], .smap mb (kvE es), filsO es, .grp (armO D.ar ab), .blk b1 27 [Pp db 0], .blk b3 9 [.string (bs nm)], .blk b5 22 [.slice Ap p.length cp]] := hH
  refine gl_ops 1 [(3, Pp b1 0), (4, Pp b3 0), (5, Pp b5 0)] (by kernel_rfl) ?_
  refine gl_dn rfl ?_
  refine sw_seq ?_
  refine sw_sr ?_
  refine gl_q rfl rfl rfl (rd_loadK 4 (by kernel_rfl) hH rfl rfl rfl) ?_
  refine gl_q rfl rfl rfl (rd_loadK 5 (by kernel_rfl) hH rfl rfl rfl) ?_
  replace hH : Hp w w6 _ _ ([.blk db 70 [.map (some mb), .bool D.off, arV D.ar ab], .smap mb (kvE es)] ++ [filsO es, .grp (armO D.ar ab), .blk b1 27 [Pp db 0], .blk b3 9 [.string (bs nm)], .blk b5 22 [.slice Ap p.length cp]]) := hH
  refine gl_st (st_call rfl rfl rfl (by kernel_rfl) rfl (At_ct _ _ _ _ es nm _ hs hH.mine) ?_)
  rintro _ w7 ⟨rfl, hF8⟩
  replace hH := hH.turns hF8; clear hF8
  replace hH : Hp w w7 _ _ [filsO es, .grp (armO D.ar ab), .blk b1 27 [Pp db 0], .blk b3 9 [.string (bs nm)], .blk b5 22 [.slice Ap p.length cp], .blk db 70 [.map (some mb), .bool D.off, arV D.ar ab], .smap mb (kvE es)] := hH
  replace hH : Hp w w7 _ _ [filsO es, .grp (armO D.ar ab), .blk b1 27 [Pp db 0], .blk b3 9 [.string (bs nm)], .blk b5 22 [.slice Ap p.length cp], .blk db 70 [.map (some mb), .bool D.off, arV D.ar ab], .smap mb (kvE es)] := hH
  refine gl_ops 5 [(3, Pp b1 0), (4, Pp b3 0), (5, Pp b5 0), (8, errV (mayQ D.off es nm))] (by kernel_rfl) ?_
  refine gl_dn rfl ?_
  refine sw_sr ?_
  refine gl_ops 1 [(3, Pp b1 0), (4, Pp b3 0), (5, Pp b5 0), (8, errV (mayQ D.off es nm)), (15, errV (mayQ D.off es nm))] (by kernel_rfl) ?_
  refine gl_q rfl rfl rfl (rd_err_ne (by kernel_rfl) rfl) ?_
  refine gl_ops 1 [(3, Pp b1 0), (4, Pp b3 0), (5, Pp b5 0), (8, errV (mayQ D.off es nm)), (17, .bool ((mayQ D.off es nm) != 0))] (by kernel_rfl) ?_
  refine gl_split 17 (b := (mayQ D.off es nm) != 0) rfl (fun hg1 => ?_) (fun hg1 => ?_)
  ·
    try simp only [bne_iff_ne, ne_eq] at hg1
    refine gl_ops 1 [(3, Pp b1 0), (4, Pp b3 0), (5, Pp b5 0), (8, errV (mayQ D.off es nm)), (17, .bool true), (18, errV (mayQ D.off es nm))] (by kernel_rfl) ?_
    refine gl_cv 18 (.iface 37 (Ni (mayQ D.off es nm))) (errV_if (by omega)) rfl ?_
    refine gl_ops 1 [(3, Pp b1 0), (4, Pp b3 0), (5, Pp b5 0), (8, errV (mayQ D.off es nm)), (17, .bool true), (18, .iface 37 (Ni (mayQ D.off es nm))), (19, .iface 37 (.int .i64 81))] (by kernel_rfl) ?_
    refine gl_q rfl rfl rfl (rd_ifi_ne (k0 := .i64) (by kernel_rfl) (by kernel_rfl) (by kernel_rfl) rfl rfl) ?_
    refine gl_ops 1 [(3, Pp b1 0), (4, Pp b3 0), (5, Pp b5 0), (8, errV (mayQ D.off es nm)), (21, .bool ((((mayQ D.off es nm : Nat) : Int) : Int) != 81))] (by kernel_rfl) ?_
    refine gl_dn rfl ?_
    refine sw_cond rfl rfl (fun hc2 => ?_) (fun hc2 => ?_)
    ·
      try simp only [bne_iff_ne, ne_eq] at hc2
      refine sw_sr ?_
      refine gl_ops 2 [(6, errV (mayQ D.off es nm))] (by kernel_rfl) ?_
      refine gl_dn rfl ?_
      refine sw_ret ?_
      refine thR ?_
      refine ret1 rfl rfl  ?_
      replace hH := hH.pick [5, 6, 0, 1, 2, 3, 4] (by kernel_rfl) (os' := [.blk db 70 [.map (some mb), .bool D.off, arV D.ar ab], .smap mb (kvE es), filsO es, .grp (armO D.ar ab), .blk b1 27 [Pp db 0], .blk b3 9 [.string (bs nm)], .blk b5 22 [.slice Ap p.length cp]]) (by kernel_rfl)
      replace hH := (hH.sublist (.cons_cons _ (.cons_cons _ (.cons_cons _ (.cons_cons _ (List.nil_sublist _))))))
      replace hH : Hp w w7 _ _ [.blk db 70 [.map (some mb), .bool D.off, arV D.ar ab], .smap mb (kvE es), filsO es, .grp (armO D.ar ab)] := hH
      exact fin_err (kind := 2) (th := false) hR rfl _ (ff_err hR (by omega)) (by omega) ((hH.close (r := [])).turned)
    try simp only [bne_eq_false_iff_eq] at hc2
    have hm81 : mayQ D.off es nm = 81 := by omega
    have hm0 : mayE D nm false = 0 := ff_zero hR (.inr hm81)
    have hnot := at_81 hm81
    have hold := old_none hR hnot
    refine sw_skip ?_
    refine sw_next ?_
    refine sw_sr ?_
    refine gl_q rfl rfl rfl (rd_loadK 2 (by kernel_rfl) hH rfl rfl rfl) ?_
    obtain ⟨D2, cu, pt, hcut⟩ : ∃ D2 cu pt, cutD D = (D2, cu, pt) := ⟨_, _, _, rfl⟩
    replace hH := hH.pick [4, 2, 3, 6, 0, 1, 5] (by kernel_rfl) (os' := [.blk b5 22 [.slice Ap p.length cp], .blk b1 27 [Pp db 0], .blk b3 9 [.string (bs nm)], .smap mb (kvE es), filsO es, .grp (armO D.ar ab), .blk db 70 [.map (some mb), .bool D.off, arV D.ar ab]]) (by kernel_rfl)
    replace hH : Hp w w7 _ _ ([.blk b5 22 [.slice Ap p.length cp], .blk b1 27 [Pp db 0], .blk b3 9 [.string (bs nm)], .smap mb (kvE es), filsO es] ++ [.grp (armO D.ar ab), .blk db 70 [.map (some mb), .bool D.off, arV D.ar ab]]) := hH
    replace hH := hH.close
    replace hH : Hp w w7 _ _ [.grp [.blk b5 22 [.slice Ap p.length cp], .blk b1 27 [Pp db 0], .blk b3 9 [.string (bs nm)], .smap mb (kvE es), filsO es], .grp (armO D.ar ab), .blk db 70 [.map (some mb), .bool D.off, arV D.ar ab]] := hH
    refine gl_ops 1 [(23, Pp db 0), (24, .func (.func 39) #[] #[Pp b5 0, Pp b1 0, Pp b3 0])] (by kernel_rfl) ?_
    replace hH := hH.pick [2, 1, 0] (by kernel_rfl) (os' := [.blk db 70 [.map (some mb), .bool D.off, arV D.ar ab], .grp (armO D.ar ab), .grp [.blk b5 22 [.slice Ap p.length cp], .blk b1 27 [Pp db 0], .blk b3 9 [.string (bs nm)], .smap mb (kvE es), filsO es]] ++ []) (by kernel_rfl)
    refine gl_st (st_call rfl rfl rfl (by kernel_rfl) rfl (DAct_ct (γ := Nat × Value) _ ab _ D D2 cu pt 39 _ (.grp [.blk b5 22 [.slice Ap p.length cp], .blk b1 27 [Pp db 0], .blk b3 9 [.string (bs nm)], .smap mb (kvE es), filsO es]) (fun u => .grp [.blk b5 22 [.slice Ap p.length cp], .blk b1 27 [Pp db 0], .blk b3 9 [.string (bs nm)], .smap mb (kvE (putE es ⟨nm, u.1, u.2, p, p.length⟩)), filsO (putE es ⟨nm, u.1, u.2, p, p.length⟩)]) (off w (blksOf (ownD db mb ab D es))) _ hcut hA hH.mine hH.zoff (by kernel_rfl) (fun w1 hM1 hz1 => PutDo_ct b5 b1 b3 db mb D2.off (arV D2.ar ab) _ es nm p _ w1 hM1 hp hz1 hpl)) ?_)
    rintro _ w9 ⟨x', rfl, hF10, hor⟩
    replace hH := hH.turns hF10; clear hF10
    replace hH : Hp w w9 _ _ [.blk db 70 [.map (some mb), .bool D2.off, arV D2.ar ab], .grp (armO D2.ar ab), x'] := hH
    refine gl_ops 1 [(6, errV (if cu = true then 80 else 0))] (by kernel_rfl) ?_
    refine gl_dn rfl ?_
    refine sw_ret ?_
    refine ret1 rfl rfl  ?_
    rcases hor with ⟨hrun, u, rfl⟩ | ⟨hrun, rfl⟩
    ·
      replace hH := hH.pick [2, 0, 1] (by kernel_rfl) (os' := [.grp [.blk b5 22 [.slice Ap p.length cp], .blk b1 27 [Pp db 0], .blk b3 9 [.string (bs nm)], .smap mb (kvE (putE es ⟨nm, u.1, u.2, p, p.length⟩)), filsO (putE es ⟨nm, u.1, u.2, p, p.length⟩)], .blk db 70 [.map (some mb), .bool D2.off, arV D2.ar ab], .grp (armO D2.ar ab)]) (by kernel_rfl)
      replace hH : Hp w w9 _ _ (.grp [.blk b5 22 [.slice Ap p.length cp], .blk b1 27 [Pp db 0], .blk b3 9 [.string (bs nm)], .smap mb (kvE (putE es ⟨nm, u.1, u.2, p, p.length⟩)), filsO (putE es ⟨nm, u.1, u.2, p, p.length⟩)] :: [.blk db 70 [.map (some mb), .bool D2.off, arV D2.ar ab], .grp (armO D2.ar ab)]) := hH
      replace hH := hH.open_
      replace hH : Hp w w9 _ _ [.blk b5 22 [.slice Ap p.length cp], .blk b1 27 [Pp db 0], .blk b3 9 [.string (bs nm)], .smap mb (kvE (putE es ⟨nm, u.1, u.2, p, p.length⟩)), filsO (putE es ⟨nm, u.1, u.2, p, p.length⟩), .blk db 70 [.map (some mb), .bool D2.off, arV D2.ar ab], .grp (armO D2.ar ab)] := hH
      replace hH := hH.pick [5, 3, 4, 6, 0, 1, 2] (by kernel_rfl) (os' := [.blk db 70 [.map (some mb), .bool D2.off, arV D2.ar ab], .smap mb (kvE (putE es ⟨nm, u.1, u.2, p, p.length⟩)), filsO (putE es ⟨nm, u.1, u.2, p, p.length⟩), .grp (armO D2.ar ab), .blk b5 22 [.slice Ap p.length cp], .blk b1 27 [Pp db 0], .blk b3 9 [.string (bs nm)]]) (by kernel_rfl)
      replace hH := (hH.sublist (.cons_cons _ (.cons_cons _ (.cons_cons _ (.cons_cons _ (List.nil_sublist _))))))
      replace hH : Hp w w9 _ _ [.blk db 70 [.map (some mb), .bool D2.off, arV D2.ar ab], .smap mb (kvE (putE es ⟨nm, u.1, u.2, p, p.length⟩)), filsO (putE es ⟨nm, u.1, u.2, p, p.length⟩), .grp (armO D2.ar ab)] := hH
      exact fin_run (kind := 2) (th := false) (n := 0) rfl hm0 (fun h => absurd h.1 (by decide)) hcut (by decide) hrun (rep_put hR _) ((hH.close (r := [])).turned)
    ·
      replace hH := hH.pick [2, 0, 1] (by kernel_rfl) (os' := [.grp [.blk b5 22 [.slice Ap p.length cp], .blk b1 27 [Pp db 0], .blk b3 9 [.string (bs nm)], .smap mb (kvE es), filsO es], .blk db 70 [.map (some mb), .bool D2.off, arV D2.ar ab], .grp (armO D2.ar ab)]) (by kernel_rfl)
      replace hH : Hp w w9 _ _ (.grp [.blk b5 22 [.slice Ap p.length cp], .blk b1 27 [Pp db 0], .blk b3 9 [.string (bs nm)], .smap mb (kvE es), filsO es] :: [.blk db 70 [.map (some mb), .bool D2.off, arV D2.ar ab], .grp (armO D2.ar ab)]) := hH
      replace hH := hH.open_
      replace hH : Hp w w9 _ _ [.blk b5 22 [.slice Ap p.length cp], .blk b1 27 [Pp db 0], .blk b3 9 [.string (bs nm)], .smap mb (kvE es), filsO es, .blk db 70 [.map (some mb), .bool D2.off, arV D2.ar ab], .grp (armO D2.ar ab)] := hH
      replace hH := hH.pick [5, 3, 4, 6, 0, 1, 2] (by kernel_rfl) (os' := [.blk db 70 [.map (some mb), .bool D2.off, arV D2.ar ab], .smap mb (kvE es), filsO es, .grp (armO D2.ar ab), .blk b5 22 [.slice Ap p.length cp], .blk b1 27 [Pp db 0], .blk b3 9 [.string (bs nm)]]) (by kernel_rfl)
      replace hH := (hH.sublist (.cons_cons _ (.cons_cons _ (.cons_cons _ (.cons_cons _ (List.nil_sublist _))))))
      replace hH : Hp w w9 _ _ [.blk db 70 [.map (some mb), .bool D2.off, arV D2.ar ab], .smap mb (kvE es), filsO es, .grp (armO D2.ar ab)] := hH
      exact fin_not (kind := 2) (th := false) (n := 0) hR rfl hm0 (fun h => absurd h.1 (by decide)) hcut (by decide) hrun ((hH.close (r := [])).turned)
    
  try simp only [bne_eq_false_iff_eq] at hg1
  have hm00 : mayQ D.off es nm = 0 := by omega
  have hm0 : mayE D nm false = 0 := ff_zero hR (.inl hm00)
  refine gl_ops 4 [(3, Pp b1 0), (4, Pp b3 0), (5, Pp b5 0), (8, errV (mayQ D.off es nm)), (21, .bool false)] (by kernel_rfl) ?_
  refine gl_dn rfl ?_
  refine sw_false rfl rfl ?_
  refine sw_skip ?_
  refine sw_next ?_
  refine sw_sr ?_
  refine gl_q rfl rfl rfl (rd_loadK 2 (by kernel_rfl) hH rfl rfl rfl) ?_
  obtain ⟨D2, cu, pt, hcut⟩ : ∃ D2 cu pt, cutD D = (D2, cu, pt) := ⟨_, _, _, rfl⟩
  replace hH := hH.pick [4, 2, 3, 6, 0, 1, 5] (by kernel_rfl) (os' := [.blk b5 22 [.slice Ap p.length cp], .blk b1 27 [Pp db 0], .blk b3 9 [.string (bs nm)], .smap mb (kvE es), filsO es, .grp (armO D.ar ab), .blk db 70 [.map (some mb), .bool D.off, arV D.ar ab]]) (by kernel_rfl)
  replace hH : Hp w w7 _ _ ([.blk b5 22 [.slice Ap p.length cp], .blk b1 27 [Pp db 0], .blk b3 9 [.string (bs nm)], .smap mb (kvE es), filsO es] ++ [.grp (armO D.ar ab), .blk db 70 [.map (some mb), .bool D.off, arV D.ar ab]]) := hH
  replace hH := hH.close
  replace hH : Hp w w7 _ _ [.grp [.blk b5 22 [.slice Ap p.length cp], .blk b1 27 [Pp db 0], .blk b3 9 [.string (bs nm)], .smap mb (kvE es), filsO es], .grp (armO D.ar ab), .blk db 70 [.map (some mb), .bool D.off, arV D.ar ab]] := hH
  refine gl_ops 1 [(23, Pp db 0), (24, .func (.func 39) #[] #[Pp b5 0, Pp b1 0, Pp b3 0])] (by kernel_rfl) ?_
  replace hH := hH.pick [2, 1, 0] (by kernel_rfl) (os' := [.blk db 70 [.map (some mb), .bool D.off, arV D.ar ab], .grp (armO D.ar ab), .grp [.blk b5 22 [.slice Ap p.length cp], .blk b1 27 [Pp db 0], .blk b3 9 [.string (bs nm)], .smap mb (kvE es), filsO es]] ++ []) (by kernel_rfl)
  refine gl_st (st_call rfl rfl rfl (by kernel_rfl) rfl (DAct_ct (γ := Nat × Value) _ ab _ D D2 cu pt 39 _ (.grp [.blk b5 22 [.slice Ap p.length cp], .blk b1 27 [Pp db 0], .blk b3 9 [.string (bs nm)], .smap mb (kvE es), filsO es]) (fun u => .grp [.blk b5 22 [.slice Ap p.length cp], .blk b1 27 [Pp db 0], .blk b3 9 [.string (bs nm)], .smap mb (kvE (putE es ⟨nm, u.1, u.2, p, p.length⟩)), filsO (putE es ⟨nm, u.1, u.2, p, p.length⟩)]) (off w (blksOf (ownD db mb ab D es))) _ hcut hA hH.mine hH.zoff (by kernel_rfl) (fun w1 hM1 hz1 => PutDo_ct b5 b1 b3 db mb D2.off (arV D2.ar ab) _ es nm p _ w1 hM1 hp hz1 hpl)) ?_)
  rintro _ w11 ⟨x', rfl, hF12, hor⟩
  replace hH := hH.turns hF12; clear hF12
  replace hH : Hp w w11 _ _ [.blk db 70 [.map (some mb), .bool D2.off, arV D2.ar ab], .grp (armO D2.ar ab), x'] := hH
  refine gl_ops 1 [(6, errV (if cu = true then 80 else 0))] (by kernel_rfl) ?_
  refine gl_dn rfl ?_
  refine sw_ret ?_
  refine ret1 rfl rfl  ?_
  rcases hor with ⟨hrun, u, rfl⟩ | ⟨hrun, rfl⟩
  ·
    replace hH := hH.pick [2, 0, 1] (by kernel_rfl) (os' := [.grp [.blk b5 22 [.slice Ap p.length cp], .blk b1 27 [Pp db 0], .blk b3 9 [.string (bs nm)], .smap mb (kvE (putE es ⟨nm, u.1, u.2, p, p.length⟩)), filsO (putE es ⟨nm, u.1, u.2, p, p.length⟩)], .blk db 70 [.map (some mb), .bool D2.off, arV D2.ar ab], .grp (armO D2.ar ab)]) (by kernel_rfl)
    replace hH : Hp w w11 _ _ (.grp [.blk b5 22 [.slice Ap p.length cp], .blk b1 27 [Pp db 0], .blk b3 9 [.string (bs nm)], .smap mb (kvE (putE es ⟨nm, u.1, u.2, p, p.length⟩)), filsO (putE es ⟨nm, u.1, u.2, p, p.length⟩)] :: [.blk db 70 [.map (some mb), .bool D2.off, arV D2.ar ab], .grp (armO D2.ar ab)]) := hH
    replace hH := hH.open_
    replace hH : Hp w w11 _ _ [.blk b5 22 [.slice Ap p.length cp], .blk b1 27 [Pp db 0], .blk b3 9 [.string (bs nm)], .smap mb (kvE (putE es ⟨nm, u.1, u.2, p, p.length⟩)), filsO (putE es ⟨nm, u.1, u.2, p, p.length⟩), .blk db 70 [.map (some mb), .bool D2.off, arV D2.ar ab], .grp (armO D2.ar ab)] := hH
    replace hH := hH.pick [5, 3, 4, 6, 0, 1, 2] (by kernel_rfl) (os' := [.blk db 70 [.map (some mb), .bool D2.off, arV D2.ar ab], .smap mb (kvE (putE es ⟨nm, u.1, u.2, p, p.length⟩)), filsO (putE es ⟨nm, u.1, u.2, p, p.length⟩), .grp (armO D2.ar ab), .blk b5 22 [.slice Ap p.length cp], .blk b1 27 [Pp db 0], .blk b3 9 [.string (bs nm)]]) (by kernel_rfl)
    replace hH := (hH.sublist (.cons_cons _ (.cons_cons _ (.cons_cons _ (.cons_cons _ (List.nil_sublist _))))))
    replace hH : Hp w w11 _ _ [.blk db 70 [.map (some mb), .bool D2.off, arV D2.ar ab], .smap mb (kvE (putE es ⟨nm, u.1, u.2, p, p.length⟩)), filsO (putE es ⟨nm, u.1, u.2, p, p.length⟩), .grp (armO D2.ar ab)] := hH
    exact fin_run (kind := 2) (th := false) (n := 0) rfl hm0 (fun h => absurd h.1 (by decide)) hcut (by decide) hrun (rep_put hR _) ((hH.close (r := [])).turned)
  ·
    replace hH := hH.pick [2, 0, 1] (by kernel_rfl) (os' := [.grp [.blk b5 22 [.slice Ap p.length cp], .blk b1 27 [Pp db 0], .blk b3 9 [.string (bs nm)], .smap mb (kvE es), filsO es], .blk db 70 [.map (some mb), .bool D2.off, arV D2.ar ab], .grp (armO D2.ar ab)]) (by kernel_rfl)
    replace hH : Hp w w11 _ _ (.grp [.blk b5 22 [.slice Ap p.length cp], .blk b1 27 [Pp db 0], .blk b3 9 [.string (bs nm)], .smap mb (kvE es), filsO es] :: [.blk db 70 [.map (some mb), .bool D2.off, arV D2.ar ab], .grp (armO D2.ar ab)]) := hH
    replace hH := hH.open_
    replace hH : Hp w w11 _ _ [.blk b5 22 [.slice Ap p.length cp], .blk b1 27 [Pp db 0], .blk b3 9 [.string (bs nm)], .smap mb (kvE es), filsO es, .blk db 70 [.map (some mb), .bool D2.off, arV D2.ar ab], .grp (armO D2.ar ab)] := hH
    replace hH := hH.pick [5, 3, 4, 6, 0, 1, 2] (by kernel_rfl) (os' := [.blk db 70 [.map (some mb), .bool D2.off, arV D2.ar ab], .smap mb (kvE es), filsO es, .grp (armO D2.ar ab), .blk b5 22 [.slice Ap p.length cp], .blk b1 27 [Pp db 0], .blk b3 9 [.string (bs nm)]]) (by kernel_rfl)
    replace hH := (hH.sublist (.cons_cons _ (.cons_cons _ (.cons_cons _ (.cons_cons _ (List.nil_sublist _))))))
    replace hH : Hp w w11 _ _ [.blk db 70 [.map (some mb), .bool D2.off, arV D2.ar ab], .smap mb (kvE es), filsO es, .grp (armO D2.ar ab)] := hH
    exact fin_not (kind := 2) (th := false) (n := 0) hR rfl hm0 (fun h => absurd h.1 (by decide)) hcut (by decide) hrun ((hH.close (r := [])).turned)
  
theorem Remove_ct (db mb ab : Nat) (D : Dsk) (es : List PE) (nm : List UInt8) (M : Nat) (w : World) (hM : Mine w (ownD db mb ab D es)) (hR : Rep es D.fs) (hA : ArOk D.ar) (hG : Good D.fs M) (hMM : M ≤ 140737488355328) (hs : nm.length ≤ 140737488355328) :
    Fun Tryz.prog 19 [.pointer (some ⟨db, 0, none⟩), .string (bs nm)] w fun v w' => ActPost db mb ab D es (doD D 4 nm [] 0) w v w' := by
  refine fun_of_sw Tryz.func19 rfl 19 rfl rfl ?_
  have hH : Hp w w (off w (blksOf (ownD db mb ab D es))) (blksOf (ownD db mb ab D es)) (dskO db mb ab D es ++ []) := (Hp.start_mine hM).open_
  replace hH : Hp w w _ _ [.blk db 70 [.map (some mb), .bool D.off, arV D.ar ab], .smap mb (kvE es), filsO es, .grp (armO D.ar ab)] := hH
  refine sw_sr ?_
  refine gl_st (st_boxH (cs := [Pp db 0]) rfl rfl rfl rfl hH ?_)
  clear hH; intro b1 w2 hH
  refine gl_st (st_boxH (cs := [.string (bs nm)]) rfl rfl rfl rfl hH ?_)
  clear hH; intro b3 w4 hH
  refine gl_ops 1 [(2, Pp b1 0), (3, Pp b3 0)] (by kernel_rfl) ?_
  refine gl_dn rfl ?_
  refine sw_seq ?_
  refine sw_sr ?_
  refine gl_q rfl rfl rfl (rd_loadK 4 (by kernel_rfl) hH rfl rfl rfl) ?_
  refine gl_q rfl rfl rfl (rd_loadK 5 (by kernel_rfl) hH rfl rfl rfl) ?_
  replace hH : Hp w w4 _ _ ([.blk db 70 [.map (some mb), .bool D.off, arV D.ar ab], .smap mb (kvE es)] ++ [filsO es, .grp (armO D.ar ab), .blk b1 27 [Pp db 0], .blk b3 9 [.string (bs nm)]]) := hH
  refine gl_st (st_call rfl rfl rfl (by kernel_rfl) rfl (At_ct _ _ _ _ es nm _ hs hH.mine) ?_)
  rintro _ w5 ⟨rfl, hF6⟩
  replace hH := hH.turns hF6; clear hF6
  replace hH : Hp w w5 _ _ [filsO es, .grp (armO D.ar ab), .blk b1 27 [Pp db 0], .blk b3 9 [.string (bs nm)], .blk db 70 [.map (some mb), .bool D.off, arV D.ar ab], .smap mb (kvE es)] := hH
  refine gl_ops 5 [(2, Pp b1 0), (3, Pp b3 0), (6, errV (mayQ D.off es nm))] (by kernel_rfl) ?_
  refine gl_dn rfl ?_
  refine sw_sr ?_
  refine gl_ops 1 [(2, Pp b1 0), (3, Pp b3 0), (6, errV (mayQ D.off es nm)), (13, errV (mayQ D.off es nm))] (by kernel_rfl) ?_
  refine gl_q rfl rfl rfl (rd_err_ne (by kernel_rfl) rfl) ?_
  refine gl_dn rfl ?_
  refine sw_cond rfl rfl (fun hc1 => ?_) (fun hc1 => ?_)
  ·
    try simp only [bne_iff_ne, ne_eq] at hc1
    refine sw_sr ?_
    refine gl_ops 2 [(4, errV (mayQ D.off es nm))] (by kernel_rfl) ?_
    refine gl_dn rfl ?_
    refine sw_ret ?_
    refine thR ?_
    refine ret1 rfl rfl  ?_
    replace hH := hH.pick [4, 5, 0, 1, 2, 3] (by kernel_rfl) (os' := [.blk db 70 [.map (some mb), .bool D.off, arV D.ar ab], .smap mb (kvE es), filsO es, .grp (armO D.ar ab), .blk b1 27 [Pp db 0], .blk b3 9 [.string (bs nm)]]) (by kernel_rfl)
    replace hH := (hH.sublist (.cons_cons _ (.cons_cons _ (.cons_cons _ (.cons_cons _ (List.nil_sublist _))))))
    replace hH : Hp w w5 _ _ [.blk db 70 [.map (some mb), .bool D.off, arV D.ar ab], .smap mb (kvE es), filsO es, .grp (armO D.ar ab)] := hH
    exact fin_err (kind := 4) (th := true) hR rfl _ (mayP_eq hR nm) (by omega) ((hH.close (r := [])).turned)
  try simp only [bne_eq_false_iff_eq] at hc1
  have hm0 : mayE D nm true = 0 := by rw [mayP_eq hR]; omega
  obtain ⟨fb, fv, b, sr, he, hat, hlt⟩ := at_zero (show mayQ D.off es nm = 0 by omega)
  have hold := old_of hR he
  refine sw_skip ?_
  refine sw_next ?_
  refine sw_sr ?_
  refine gl_q rfl rfl rfl (rd_loadK 2 (by kernel_rfl) hH rfl rfl rfl) ?_
  obtain ⟨D2, cu, pt, hcut⟩ : ∃ D2 cu pt, cutD D = (D2, cu, pt) := ⟨_, _, _, rfl⟩
  replace hH := hH.pick [2, 3, 5, 0, 1, 4] (by kernel_rfl) (os' := [.blk b1 27 [Pp db 0], .blk b3 9 [.string (bs nm)], .smap mb (kvE es), filsO es, .grp (armO D.ar ab), .blk db 70 [.map (some mb), .bool D.off, arV D.ar ab]]) (by kernel_rfl)
  replace hH : Hp w w5 _ _ ([.blk b1 27 [Pp db 0], .blk b3 9 [.string (bs nm)], .smap mb (kvE es), filsO es] ++ [.grp (armO D.ar ab), .blk db 70 [.map (some mb), .bool D.off, arV D.ar ab]]) := hH
  replace hH := hH.close
  replace hH : Hp w w5 _ _ [.grp [.blk b1 27 [Pp db 0], .blk b3 9 [.string (bs nm)], .smap mb (kvE es), filsO es], .grp (armO D.ar ab), .blk db 70 [.map (some mb), .bool D.off, arV D.ar ab]] := hH
  refine gl_ops 1 [(16, Pp db 0), (17, .func (.func 46) #[] #[Pp b1 0, Pp b3 0])] (by kernel_rfl) ?_
  replace hH := hH.pick [2, 1, 0] (by kernel_rfl) (os' := [.blk db 70 [.map (some mb), .bool D.off, arV D.ar ab], .grp (armO D.ar ab), .grp [.blk b1 27 [Pp db 0], .blk b3 9 [.string (bs nm)], .smap mb (kvE es), filsO es]] ++ []) (by kernel_rfl)
  refine gl_st (st_call rfl rfl rfl (by kernel_rfl) rfl (DAct_ct (γ := Unit) _ ab _ D D2 cu pt 46 _ (.grp [.blk b1 27 [Pp db 0], .blk b3 9 [.string (bs nm)], .smap mb (kvE es), filsO es]) (fun u => .grp [.blk b1 27 [Pp db 0], .blk b3 9 [.string (bs nm)], .smap mb (kvE (es.eraseIdx (ixE es nm))), filsO (es.eraseIdx (ixE es nm))]) (fun _ => none) _ hcut hA hH.mine (fun _ _ h => by cases h) (by kernel_rfl) (fun w1 hM1 _ => RemDo_ct b1 b3 db mb D2.off (arV D2.ar ab) es nm w1 hM1 hlt)) ?_)
  rintro _ w7 ⟨x', rfl, hF8, hor⟩
  replace hH := hH.turns hF8; clear hF8
  replace hH : Hp w w7 _ _ [.blk db 70 [.map (some mb), .bool D2.off, arV D2.ar ab], .grp (armO D2.ar ab), x'] := hH
  refine gl_ops 1 [(4, errV (if cu = true then 80 else 0))] (by kernel_rfl) ?_
  refine gl_dn rfl ?_
  refine sw_ret ?_
  refine ret1 rfl rfl  ?_
  rcases hor with ⟨hrun, u, rfl⟩ | ⟨hrun, rfl⟩
  ·
    replace hH := hH.pick [2, 0, 1] (by kernel_rfl) (os' := [.grp [.blk b1 27 [Pp db 0], .blk b3 9 [.string (bs nm)], .smap mb (kvE (es.eraseIdx (ixE es nm))), filsO (es.eraseIdx (ixE es nm))], .blk db 70 [.map (some mb), .bool D2.off, arV D2.ar ab], .grp (armO D2.ar ab)]) (by kernel_rfl)
    replace hH : Hp w w7 _ _ (.grp [.blk b1 27 [Pp db 0], .blk b3 9 [.string (bs nm)], .smap mb (kvE (es.eraseIdx (ixE es nm))), filsO (es.eraseIdx (ixE es nm))] :: [.blk db 70 [.map (some mb), .bool D2.off, arV D2.ar ab], .grp (armO D2.ar ab)]) := hH
    replace hH := hH.open_
    replace hH : Hp w w7 _ _ [.blk b1 27 [Pp db 0], .blk b3 9 [.string (bs nm)], .smap mb (kvE (es.eraseIdx (ixE es nm))), filsO (es.eraseIdx (ixE es nm)), .blk db 70 [.map (some mb), .bool D2.off, arV D2.ar ab], .grp (armO D2.ar ab)] := hH
    replace hH := hH.pick [4, 2, 3, 5, 0, 1] (by kernel_rfl) (os' := [.blk db 70 [.map (some mb), .bool D2.off, arV D2.ar ab], .smap mb (kvE (es.eraseIdx (ixE es nm))), filsO (es.eraseIdx (ixE es nm)), .grp (armO D2.ar ab), .blk b1 27 [Pp db 0], .blk b3 9 [.string (bs nm)]]) (by kernel_rfl)
    replace hH := (hH.sublist (.cons_cons _ (.cons_cons _ (.cons_cons _ (.cons_cons _ (List.nil_sublist _))))))
    replace hH : Hp w w7 _ _ [.blk db 70 [.map (some mb), .bool D2.off, arV D2.ar ab], .smap mb (kvE (es.eraseIdx (ixE es nm))), filsO (es.eraseIdx (ixE es nm)), .grp (armO D2.ar ab)] := hH
    exact fin_run (kind := 4) (th := true) (n := 0) rfl hm0 (fun h => absurd h.1 (by decide)) hcut (by decide) hrun (rep_del hR nm) ((hH.close (r := [])).turned)
  ·
    replace hH := hH.pick [2, 0, 1] (by kernel_rfl) (os' := [.grp [.blk b1 27 [Pp db 0], .blk b3 9 [.string (bs nm)], .smap mb (kvE es), filsO es], .blk db 70 [.map (some mb), .bool D2.off, arV D2.ar ab], .grp (armO D2.ar ab)]) (by kernel_rfl)
    replace hH : Hp w w7 _ _ (.grp [.blk b1 27 [Pp db 0], .blk b3 9 [.string (bs nm)], .smap mb (kvE es), filsO es] :: [.blk db 70 [.map (some mb), .bool D2.off, arV D2.ar ab], .grp (armO D2.ar ab)]) := hH
    replace hH := hH.open_
    replace hH : Hp w w7 _ _ [.blk b1 27 [Pp db 0], .blk b3 9 [.string (bs nm)], .smap mb (kvE es), filsO es, .blk db 70 [.map (some mb), .bool D2.off, arV D2.ar ab], .grp (armO D2.ar ab)] := hH
    replace hH := hH.pick [4, 2, 3, 5, 0, 1] (by kernel_rfl) (os' := [.blk db 70 [.map (some mb), .bool D2.off, arV D2.ar ab], .smap mb (kvE es), filsO es, .grp (armO D2.ar ab), .blk b1 27 [Pp db 0], .blk b3 9 [.string (bs nm)]]) (by kernel_rfl)
    replace hH := (hH.sublist (.cons_cons _ (.cons_cons _ (.cons_cons _ (.cons_cons _ (List.nil_sublist _))))))
    replace hH : Hp w w7 _ _ [.blk db 70 [.map (some mb), .bool D2.off, arV D2.ar ab], .smap mb (kvE es), filsO es, .grp (armO D2.ar ab)] := hH
    exact fin_not (kind := 4) (th := true) (n := 0) hR rfl hm0 (fun h => absurd h.1 (by decide)) hcut (by decide) hrun ((hH.close (r := [])).turned)
  
theorem DRead_ct (db mb ab : Nat) (D : Dsk) (es : List PE) (nm : List UInt8) (M : Nat) (w : World) (hM : Mine w (ownD db mb ab D es)) (hR : Rep es D.fs) (hA : ArOk D.ar) (hG : Good D.fs M) (hMM : M ≤ 140737488355328) (hs : nm.length ≤ 140737488355328) :
    Fun Tryz.prog 28 [.pointer (some ⟨db, 0, none⟩), .string (bs nm)] w fun v w' => ∃ v1, v = .tuple #[v1, errV (readD D nm).2] ∧ Turn w w' (ownD db mb ab D es) [.grp (dskO db mb ab D es), .row v1 5 1 (readD D nm).1.length (bv (readD D nm).1)] := by
  refine fun_of_sw Tryz.func28 rfl 22 rfl rfl ?_
  have hH : Hp w w (off w (blksOf (ownD db mb ab D es))) (blksOf (ownD db mb ab D es)) (dskO db mb ab D es ++ []) := (Hp.start_mine hM).open_
  replace hH : Hp w w _ _ [.blk db 70 [.map (some mb), .bool D.off, arV D.ar ab], .smap mb (kvE es), filsO es, .grp (armO D.ar ab)] := hH
  refine sw_sr ?_
  refine gl_ops 2 [(0, Pp db 0), (1, .string (bs nm))] (by kernel_rfl) ?_
  refine gl_dn rfl ?_
  refine sw_sr ?_
  refine gl_ops 2 [(9, Pp db 0), (10, .string (bs nm))] (by kernel_rfl) ?_
  replace hH : Hp w w _ _ ([.blk db 70 [.map (some mb), .bool D.off, arV D.ar ab], .smap mb (kvE es)] ++ [filsO es, .grp (armO D.ar ab)]) := hH
  refine gl_st (st_call rfl rfl rfl (by kernel_rfl) rfl (At_ct _ _ _ _ es nm _ hs hH.mine) ?_)
  rintro _ w1 ⟨rfl, hF2⟩
  replace hH := hH.turns hF2; clear hF2
  replace hH : Hp w w1 _ _ [filsO es, .grp (armO D.ar ab), .blk db 70 [.map (some mb), .bool D.off, arV D.ar ab], .smap mb (kvE es)] := hH
  refine gl_ops 5 [(6, atV D.off es nm), (7, errV (mayQ D.off es nm))] (by kernel_rfl) ?_
  refine gl_dn rfl ?_
  refine sw_seq ?_
  refine sw_sr ?_
  refine gl_ops 1 [(6, atV D.off es nm), (7, errV (mayQ D.off es nm)), (14, errV (mayQ D.off es nm))] (by kernel_rfl) ?_
  refine gl_q rfl rfl rfl (rd_err_ne (by kernel_rfl) rfl) ?_
  refine gl_dn rfl ?_
  refine sw_cond rfl rfl (fun hc1 => ?_) (fun hc1 => ?_)
  ·
    try simp only [bne_iff_ne, ne_eq] at hc1
    refine sw_sr ?_
    refine gl_ops 3 [(4, .slice none 0 0), (5, errV (mayQ D.off es nm))] (by kernel_rfl) ?_
    refine gl_dn rfl ?_
    refine sw_ret ?_
    refine thR ?_
    refine ret2 rfl rfl rfl  ?_
    replace hH := hH.nilRow 5 1
    have hr : readD D nm = ([], mayE D nm true) := by unfold readD; rw [if_pos (by rw [mayP_eq hR]; omega)]
    replace hH := hH.pick [2, 3, 0, 1, 4] (by kernel_rfl) (os' := [.blk db 70 [.map (some mb), .bool D.off, arV D.ar ab], .smap mb (kvE es), filsO es, .grp (armO D.ar ab), .row (.slice none 0 0) 5 1 0 []]) (by kernel_rfl)
    replace hH := (hH.sublist (.cons_cons _ (.cons_cons _ (.cons_cons _ (.cons_cons _ (.cons_cons _ (List.nil_sublist _)))))))
    replace hH : Hp w w1 _ _ [.blk db 70 [.map (some mb), .bool D.off, arV D.ar ab], .smap mb (kvE es), filsO es, .grp (armO D.ar ab), .row (.slice none 0 0) 5 1 0 []] := hH
    replace hH : Hp w w1 _ _ (dskO db mb ab D es ++ [.row (.slice none 0 0) 5 1 0 []]) := hH
    exact ⟨.slice none 0 0, by rw [hr, mayP_eq hR], by rw [hr]; exact hH.close.turned⟩
  try simp only [bne_eq_false_iff_eq] at hc1
  have hm0 : mayE D nm true = 0 := by rw [mayP_eq hR]; omega
  obtain ⟨fb, fv, b, sr, he, hat, hlt⟩ := at_zero (show mayQ D.off es nm = 0 by omega)
  have hold := old_of hR he
  refine sw_cv 6 (Pp fb 0) (hat) rfl ?_
  refine sw_skip ?_
  refine sw_next ?_
  obtain ⟨Af, cf, rfl, hf1, hf2⟩ := (fil_rb hH 0 rfl he).row.form
  obtain ⟨hbM, hsr, hnm⟩ := good_at hG hR he
  refine sw_sr ?_
  refine gl_ops 3 [(19, Pp fb 0)] (by kernel_rfl) ?_
  refine gl_q rfl rfl rfl (rd_load (by kernel_rfl) rfl (fil_cell0 hH 0 rfl he)) ?_
  refine gl_st (st_call rfl rfl rfl (by kernel_rfl) rfl (SClone_ct _ b _ (fil_rb hH 0 rfl he) (by omega)) ?_)
  rintro _ w5 ⟨v3, rfl, hF6⟩
  replace hH := hH.call hF6; clear hF6
  obtain ⟨A7, c8, rfl, hl9, hm10⟩ := hH.row_form 4 rfl
  refine gl_ops 2 [(4, .slice A7 b.length c8), (5, .nilIface)] (by kernel_rfl) ?_
  refine gl_dn rfl ?_
  refine sw_ret ?_
  refine ret2 rfl rfl rfl  ?_
  have hr : readD D nm = (b, 0) := by unfold readD; rw [if_neg (by rw [hm0]; simp), hold]
  replace hH := hH.pick [2, 3, 0, 1, 4] (by kernel_rfl) (os' := [.blk db 70 [.map (some mb), .bool D.off, arV D.ar ab], .smap mb (kvE es), filsO es, .grp (armO D.ar ab), .row (.slice A7 b.length c8) 5 1 b.length (bv b)]) (by kernel_rfl)
  replace hH := (hH.sublist (.cons_cons _ (.cons_cons _ (.cons_cons _ (.cons_cons _ (.cons_cons _ (List.nil_sublist _)))))))
  replace hH : Hp w w5 _ _ [.blk db 70 [.map (some mb), .bool D.off, arV D.ar ab], .smap mb (kvE es), filsO es, .grp (armO D.ar ab), .row (.slice A7 b.length c8) 5 1 b.length (bv b)] := hH
  replace hH : Hp w w5 _ _ (dskO db mb ab D es ++ [.row (.slice A7 b.length c8) 5 1 b.length (bv b)]) := hH
  exact ⟨.slice A7 b.length c8, by rw [hr]; rfl, by rw [hr]; exact hH.close.turned⟩
end Go.Proofs.YtjcchjgkkplamaaGreatDoor
