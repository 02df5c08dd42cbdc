/- Gf: several texts in one. -/
import Derived.Test.YtajapgjemefoiaaGreatDoorGe
import Derived.Test.YtajapgjemefoiaaGreatDoorGc
import Derived.Test.YtajapgjemefoiaaGreatDoorGd
import Derived.Test.YtajapgjemefoiaaGreatDoorGb
/- Layer 19 (wal): all that a log says is put into a file: what it answers. -/
set_option maxRecDepth 100000
set_option maxHeartbeats 4000000
set_option linter.unusedVariables false
set_option linter.unusedSimpArgs false
namespace Go.Proofs.YtajapgjemefoiaaGreatDoor
open Go.RowKit Go.SW
theorem allB {c : Cn} {es : EQ} (h : es.map (·.1) = c.es) : recB ⟨3, c.ix, c.ah, 0, []⟩ ++ recB ⟨1, c.term, c.vote, 0, []⟩ ++ enB es = recsB (allR c) := by
  unfold enB allR
  rw [← h, List.map_map, List.append_assoc]
  rfl
theorem enok_off {c : Zone} {pl : Pl} {cn : Cn} {es : EQ} {ve : Value} (h : CnR pl cn es ve) (hl : (pz pl).le c) : ∀ q ∈ es, EnOk c q := fun q hq => by
  obtain ⟨⟨h1, h2, h3, h4⟩, _⟩ := h.ok q hq
  exact ⟨h1.mono hl, h2, h3, h4⟩

theorem nameF_short (k : Nat) (hk : k < 9223372036854775808) : (nameF k).length ≤ 24 := by
  rw [nameF_len, show (decB k).length = Lib.nDigits k from Lib.decDigits_length k]
  have := nDig_le 20 k (by omega)
  omega
def BeginPost (g db mb ab : Nat) (c : Cn) (fi lo : Int) (bad ve : Value) (pl : Pl) (D : Dsk) (pe : List PE) (k : Nat) (w : World) (v : Value) (w' : World) : Prop :=
  ∃ pe', v = errV (doD D 2 (nameF k) (recsB (allR c)) 0).2 ∧ Rep pe' (doD D 2 (nameF k) (recsB (allR c)) 0).1.fs ∧
    Turn w w' [lgO g db c ve fi lo bad, plO pl, .grp (dskO db mb ab D pe)] [lgO g db c ve ((k : Nat) : Int) (((recsB (allR c)).length : Nat) : Int) bad, plO pl, .grp (dskO db mb ab (doD D 2 (nameF k) (recsB (allR c)) 0).1 pe')]

theorem Begin_ct (g db mb ab k : Nat) (c : Cn) (fi lo : Int) (bad ve : Value) (es : EQ) (pl : Pl) (D : Dsk) (pe : List PE) (M : Nat) (w : World) (hM : Mine w [lgO g db c ve fi lo bad, plO pl, .grp (dskO db mb ab D pe)]) (hL : CnR pl c es ve) (hR : Rep pe D.fs) (hA : ArOk D.ar) (hG : Good D.fs M) (hMM : M ≤ 140737488355328) (hc : CnOk c) (hbl : (recsB (allR c)).length ≤ 1073741824) (hn : es.length ≤ 1000000) (hk : k < 9223372036854775808) (hT : KOk w (blksOf [lgO g db c ve fi lo bad, plO pl, .grp (dskO db mb ab D pe)]) k) :
    Fun Tryz.prog 41 [.pointer (some ⟨g, 0, none⟩), .int .i64 ((k : Nat) : Int)] w fun v w' => BeginPost g db mb ab c fi lo bad ve pl D pe k w v w' := by
 obtain ⟨Ae, ce, rfl, he1, he2⟩ := hL.row.form
 have hc1 := hc.term
 have hc2 := hc.vote
 have hc3 := hc.ix
 have hc4 := hc.ah
 have hlb := congrArg List.length (allB hL.fst)
 simp only [List.length_append] at hlb
 refine fun_of_sw Tryz.func41 rfl 56 rfl rfl ?_
 have hH := Hp.start_mine hM
 refine sw_sr <| Go0 1 <| Dn <| sw_seq <| Dr hH (slk (slk (slk sln))) ?_
 clear hH; intro w1 hH hS9
 refine Gp1 4 [0,1,2,3] 9 (Pp g 3) hS9 <| Dq 4 rfl (fun _ hS => (Lk 0 hS rfl rfl rfl)) hS9 <| Gp1 4 [5,6,7,8] 14 (Pp g 4) hS9 <| Dq 9 rfl (fun _ hS => (Lk 0 hS rfl rfl rfl)) hS9 <| Gp1 1 [10] 16 (.agg #[.int .i64 3, Ni c.ix, Ni c.ah, .int .i64 0, .slice none 0 0]) hS9 <| gds 11 (Sc rfl rfl (RecFrame_ct 3 c.ix c.ah 0 _ [] _ (RB.nil _) (by omega) (by omega) (by omega) (by omega)) ?_)
 rintro _ w4 ⟨v2, rfl, hF5⟩
 replace hH := hH.call hF5
 obtain ⟨A6, c7, rfl, hl8, hm9⟩ := hH.row_form 3 rfl
 refine Nl (hH.sb (slk (slk (slk sln)))) fun hS9 => Gp1 1 [12] 5 (.slice A6 ((recB ⟨3, c.ix, c.ah, 0, []⟩).length) c7) hS9 <| gdn [(0, Pp g 0), (1, Ni k), (5, .slice A6 ((recB ⟨3, c.ix, c.ah, 0, []⟩).length) c7)] <| sw_next <| sw_seq <| Dr hH (slk (slk (slk sln))) ?_
 clear hH; intro w10 hH hS9
 refine Gp2 5 [0,1,2,3,4] 18 (.slice A6 ((recB ⟨3, c.ix, c.ah, 0, []⟩).length) c7) 22 (Pp g 1) hS9 <| Dq 5 rfl (fun _ hS => (Lk 0 hS rfl rfl rfl)) hS9 <| Gp1 4 [6,7,8,9] 27 (Pp g 2) hS9 <| Dq 10 rfl (fun _ hS => (Lk 0 hS rfl rfl rfl)) hS9 <| Gp1 1 [11] 29 (.agg #[.int .i64 1, Ni c.term, Ni c.vote, .int .i64 0, .slice none 0 0]) hS9 <| gds 12 (Sc rfl rfl (RecFrame_ct 1 c.term c.vote 0 _ [] _ (RB.nil _) (by omega) (by omega) (by omega) (by omega)) ?_)
 rintro _ w13 ⟨v11, rfl, hF14⟩
 replace hH := hH.call hF14
 obtain ⟨A15, c16, rfl, hl17, hm18⟩ := hH.row_form 4 rfl
 refine Nl (hH.sb (slk (slk (slk sln)))) fun hS9 => gds 13 (Apd (e := 5) (.int .u8 0) 1 1 3 rfl hH rfl rfl rfl (hH.row_reads 4 rfl) (bv_one _) (by unfold maxLen; omega) (by omega) ?_)
 clear hH; intro v19 w20 hH
 replace hH := hH.row_eq 3 (l' := ((recB ⟨3, c.ix, c.ah, 0, []⟩) ++ (recB ⟨1, c.term, c.vote, 0, []⟩)).length) (xs' := bv ((recB ⟨3, c.ix, c.ah, 0, []⟩) ++ (recB ⟨1, c.term, c.vote, 0, []⟩))) rfl (by simp only [List.length_append, List.length_cons, List.length_nil] <;> omega) ((bv_append _ _).symm)
 obtain ⟨A21, c22, rfl, hl23, hm24⟩ := hH.row_form 3 rfl
 refine Nl (hH.sb (slk (slk (slk sln)))) fun hS9 => Gp1 1 [14] 5 (.slice A21 (((recB ⟨3, c.ix, c.ah, 0, []⟩) ++ (recB ⟨1, c.term, c.vote, 0, []⟩)).length) c22) hS9 <| gdn [(0, Pp g 0), (1, Ni k), (5, .slice A21 (((recB ⟨3, c.ix, c.ah, 0, []⟩) ++ (recB ⟨1, c.term, c.vote, 0, []⟩)).length) c22)] <| sw_next <| sw_sr <| Go2 5 32 (.slice A21 (((recB ⟨3, c.ix, c.ah, 0, []⟩) ++ (recB ⟨1, c.term, c.vote, 0, []⟩)).length) c22) 36 (Pp g 5) <| Gq rfl (Lk 0 hH rfl rfl rfl) ?_
 replace hH : Hp w w20 _ _ ([_] ++ [_, _, _, _]) := hH.fr4
 refine gl_st (Sc rfl rfl (Frames_ct _ _ ((recB ⟨3, c.ix, c.ah, 0, []⟩) ++ (recB ⟨1, c.term, c.vote, 0, []⟩)) es _ hH.mine (hL.row.mono (pz_off hH 1 rfl)) (enok_off hL (pz_off hH 1 rfl)) (by simp only [List.length_append] at *; omega) (by omega)) ?_)
 rintro _ w26 ⟨v25, rfl, hF27⟩
 replace hH := hH.turns hF27
 replace hH := hH.n5
 obtain ⟨A28, c29, rfl, hl30, hm31⟩ := hH.row_form 4 rfl
 refine Go1 1 5 (.slice A28 ((((recB ⟨3, c.ix, c.ah, 0, []⟩) ++ (recB ⟨1, c.term, c.vote, 0, []⟩)) ++ enB es).length) c29) <| Dn <| sw_sr <| Go4 4 39 (Pp g 0) 40 (Pp g 0) 41 (Ni k) 42 (.slice A28 ((((recB ⟨3, c.ix, c.ah, 0, []⟩) ++ (recB ⟨1, c.term, c.vote, 0, []⟩)) ++ enB es).length) c29) <| Gq rfl (Ln (e := 5) rfl) <| gl_cv 43 (Ni ((recsB (allR c)).length)) (by rw [← allB hL.fst]) rfl <| Go1 2 45 (Pp g 6) <| gl_st (Ks 0 (Ni k) rfl hH rfl rfl ?_)
 clear hH; intro w32 hH
 refine Go1 2 47 (Pp g 7) <| gl_st (Ks 0 (Ni ((recsB (allR c)).length)) rfl hH rfl rfl ?_)
 clear hH; intro w33 hH
 refine Dn <| sw_seq <| Dr hH (slk (slk (slc (slk sln)))) ?_
 clear hH; intro w34 hH hS9
 refine Gp1 3 [0,1,2] 50 (Pp g 0) hS9 <| Dq 3 rfl (fun _ hS => (Lk 0 hS rfl rfl rfl)) hS9 <| Gp2 2 [4,6] 52 (Ni k) 54 (.slice A28 ((((recB ⟨3, c.ix, c.ah, 0, []⟩) ++ (recB ⟨1, c.term, c.vote, 0, []⟩)) ++ enB es).length) c29) hS9 <| gds 5 (Sc rfl rfl (Name_ct k _ hk (hT.now hH)) ?_)
 rintro _ w35 ⟨rfl, hF36⟩
 replace hH := hH.call hF36
 refine Nl (hH.sb (slk (slk (slc (slk sln))))) fun hS9 => ?_
 have hab : (recB ⟨3, c.ix, c.ah, 0, []⟩ ++ recB ⟨1, c.term, c.vote, 0, []⟩) ++ enB es = recsB (allR c) := allB hL.fst
 replace hH := hH.row_eq 4 (l' := (recsB (allR c)).length) (xs' := bv (recsB (allR c))) rfl (by rw [hab]) (by rw [hab])
 replace hH : Hp w w35 _ _ ([_] ++ [_, _, _, _]) := hH.fr3
 refine gds 7 (Sc rfl rfl (DPut_ct db mb ab D pe (nameF k) _ (recsB (allR c)) M _ hH.mine hR hA hG (by omega) (by have := nameF_short k hk; omega) (zoff_row (mine := [.grp (dskO db mb ab D pe)]) hH 3 rfl) (by omega)) ?_)
 rintro _ w37 ⟨pe2, rfl, hR2, hF38⟩
 replace hH := hH.turns hF38
 replace hH := hH.n5
 refine Nl (hH.sb (slk (slk (slk sln)))) fun hS9 => Gp1 1 [8] 4 (errV ((doD D 2 (nameF k) (recsB (allR c)) 0).2)) hS9 <| gdn [(4, errV ((doD D 2 (nameF k) (recsB (allR c)) 0).2))] <| sw_next <| Rt1 rfl rfl ?_
 replace hH := hH.fr5.fr3.fr3
 replace hH := (hH.sb (slk (slk (slk sln)))).n3
 exact ⟨pe2, rfl, hR2, hH.turned⟩
end Go.Proofs.YtajapgjemefoiaaGreatDoor
/- errors.Is at an error of the kind api.Errno or at an *api.Fault that holds one, any code the target: what it answers. Plain theorems. -/
set_option maxRecDepth 1000000
set_option linter.unusedVariables false
set_option linter.unusedSimpArgs false
namespace Go.Proofs.YtajapgjemefoiaaGreatDoor
open Go.RowKit Go.Extern.Stop Go.Stop Go.Extern Go.SW
theorem noIsF (v : Value) (xT : TypeId) (w : World) : (Instr.typeAssert (.iface 178 v) xT 188 true).run Tryz.prog w = .ok (.tuple #[.nilIface, .bool false]) w := run_typeAssert_lacksB Tryz.underlying188 (by kernel_rfl) (by kernel_rfl) v xT w
theorem hasUnwrapF (v : Value) (xT : TypeId) (w : World) : (Instr.typeAssert (.iface 178 v) xT 191 true).run Tryz.prog w = .ok (.tuple #[.iface 178 v, .bool true]) w := run_typeAssert_hasB Tryz.underlying191 (by kernel_rfl) v xT w
theorem methodUnwrapF (v : Value) (w : World) : (Go.method 384 178 v "Unwrap").run Tryz.prog w = .ok (199, v) w := by kernel_rfl
set_option maxHeartbeats 8000000 in
theorem is_fault (fb : Nat) (w : World) (hcell : w.cell? ⟨fb, 0, none⟩ = some (.int .i64 90)) :
    Calls Tryz.prog 43 #[.iface 178 (.pointer (some ⟨fb, 0, none⟩)), .iface 38 (.int .i64 90)] w fun e w' => e = .returned (.bool true) ∧ w' = w := by
  have h8 := @run_callFunc_extern Tryz.prog 73 _ Extern.ReflectliteType.typeOf Tryz.func73 (by kernel_rfl) (by kernel_rfl) (by kernel_rfl) (by kernel_rfl)
  have h32 := @run_callFunc_extern Tryz.prog 202 _ (Extern.ReflectliteType.method fun t => do Rtype.noPackHeld "Comparable" t; pure (.bool (← typeInfo t).comparable)) Tryz.func202 (by kernel_rfl) (by kernel_rfl) (by kernel_rfl) (by kernel_rfl)
  have tT := typeOfE
  have cT := isComparableE
  have mR := isMethodComparable
  have nF := noIsF
  have uF := hasUnwrapF
  have mU := methodUnwrapF
  have hty := run_eql_iface_types (P := Tryz.prog) 178 38 (.pointer (some ⟨fb, 0, none⟩)) (.int .i64 90) Tryz.underlying35 (by decide) w
  have heq := eqE 90 90 w
  rw [show ((90 : Int) == 90) = true from rfl] at heq
  go_enter Tryz.func43, Tryz.ntmps43
  go_wp2
  refine wp_loop_rounds 2 ?_
  rw [rounds_succ]
  go_wp2
  rw [rounds_succ]
  go_wp2
  go_ret
  exact ⟨rfl, rfl⟩
theorem IsN_ct (e t : Nat) (ht : t ≠ 0) (w : World) :
    Fun Tryz.prog 43 [errV e, .iface 38 (.int .i64 ((t : Nat) : Int))] w fun v w' => v = .bool (e == t) ∧ Fresh w w' [] := by
  by_cases h : e = 0
  · subst h
    refine Calls.mono (is_nil ((t : Nat) : Int) w) ?_
    rintro ev w' ⟨rfl, rfl⟩
    exact ⟨_, rfl, by rw [show (0 == t) = false from by simpa using Ne.symm ht], (Hp.start _).fresh⟩
  · have hb : (((e : Nat) : Int) == ((t : Nat) : Int)) = (e == t) := by
      rw [Bool.eq_iff_iff, beq_iff_eq, beq_iff_eq]; omega
    rw [show errV e = .iface 38 (.int .i64 ((e : Nat) : Int)) by unfold errV errW; rw [if_neg h]]
    refine Calls.mono (is_errno _ ((e : Nat) : Int) ((t : Nat) : Int) w hb) ?_
    rintro ev w' ⟨rfl, rfl⟩
    exact ⟨_, rfl, rfl, (Hp.start _).fresh⟩
theorem IsF_ct (fb : Nat) (w : World) (hcell : w.cell? ⟨fb, 0, none⟩ = some (.int .i64 90)) :
    Fun Tryz.prog 43 [.iface 178 (.pointer (some ⟨fb, 0, none⟩)), .iface 38 (.int .i64 90)] w fun v w' => v = .bool true ∧ Fresh w w' [] := by
  refine Calls.mono (is_fault fb w hcell) ?_
  rintro ev w' ⟨rfl, rfl⟩
  exact ⟨_, rfl, rfl, (Hp.start _).fresh⟩
end Go.Proofs.YtajapgjemefoiaaGreatDoor
/- Layer 19 (wal): a log is opened: what it answers. -/
set_option maxRecDepth 100000
set_option maxHeartbeats 4000000
set_option linter.unusedVariables false
set_option linter.unusedSimpArgs false
namespace Go.Proofs.YtajapgjemefoiaaGreatDoor
open Go.RowKit Go.SW
def faultO (bad : Bool) (fb : Nat) : Own := .grp (bif bad then [.blk fb 180 [.int .i64 90, .int .i64 0]] else [])
def PartsPost (db mb ab : Nat) (D : Dsk) (es : List PE) (w : World) (v : Value) (w' : World) : Prop :=
  ∃ bad fb vf ds pl, v = .tuple #[vf, ifW (!bad) 178 (.pointer (some ⟨fb, 0, none⟩))] ∧ ((bad = true ∧ partsF D.fs = none ∧ ds = []) ∨ (bad = false ∧ (partsF D.fs).map sortP = some (ds.map PV.pt))) ∧ (∀ q ∈ ds, PvOk (pz pl) q) ∧
    Turn w w' [.grp (dskO db mb ab D es)] [.grp (dskO db mb ab D es), .row vf 106 4 ds.length (rowC pvC ds), plO pl, faultO bad fb]
theorem PartsP_ct (db mb ab : Nat) (D : Dsk) (es : List PE) (M : Nat) (w : World) (hM : Mine w [.grp (dskO db mb ab D es)]) (hR : Rep es D.fs) (hG : Good D.fs M) (hMM : M ≤ 4294967296) (hN : D.fs.length ≤ 1000) :
    Fun Tryz.prog 40 [.pointer (some ⟨db, 0, none⟩)] w fun v w' => PartsPost db mb ab D es w v w' := by
  refine (Parts_ct db mb ab D es M w hM hR hG hMM hN).mono ?_
  rintro v w' (⟨fb, h1, rfl, h2⟩ | ⟨vf, ds, pl, h1, rfl, h2, h3⟩)
  · refine ⟨true, fb, .slice none 0 0, [], [], rfl, .inl ⟨rfl, h1, rfl⟩, (fun q hq => by cases hq), ?_⟩
    have h3 : Hp w w' (fun _ => none) (blksOf [.grp (dskO db mb ab D es)]) [.blk fb 180 [.int .i64 90, .int .i64 0], .grp (dskO db mb ab D es), .row (.slice none 0 0) 106 4 0 [], plO []] := ((Hp.nilRow h2 106 4).pool).pick [1, 0, 2, 3] (by kernel_rfl) rfl
    exact (Hp.close (l := [.blk fb 180 [.int .i64 90, .int .i64 0]]) h3).pick [1, 2, 3, 0] (by kernel_rfl) rfl
  · exact ⟨false, 0, vf, ds, pl, rfl, .inr ⟨rfl, h1⟩, h2, Hp.nogrp h3⟩
def LReadPost (g db : Nat) (fi lo : Int) (bad : Value) (qs : List PV) (pl : Pl) (w : World) (v : Value) (w' : World) : Prop :=
  ∃ i e o2, v = .tuple #[.int .i64 ((i : Nat) : Int), errV e] ∧ ((readL (qs.map PV.pt) = none ∧ e = 90) ∨ (∃ c2 es2 ve2 pl2, readL (qs.map PV.pt) = some (i, c2) ∧ e = 0 ∧ CnR pl2 c2 es2 ve2 ∧ o2 = [lgO g db c2 ve2 fi lo bad, plO pl2])) ∧
    Turn w w' [lgO g db Cn.zero (.slice none 0 0) fi lo bad, plO pl] [.grp o2]
theorem LReadP_ct (g db : Nat) (fi lo : Int) (bad vf : Value) (qs : List PV) (pl : Pl) (Zp : Zone) (w : World) (hM : Mine w [lgO g db Cn.zero (.slice none 0 0) fi lo bad, plO pl]) (hZ : Zp.le (off w (blksOf [lgO g db Cn.zero (.slice none 0 0) fi lo bad, plO pl]))) (hF : Row (off w (blksOf [lgO g db Cn.zero (.slice none 0 0) fi lo bad, plO pl])) vf 4 qs.length (rowC pvC qs)) (hP0 : ∀ q ∈ qs, PvOk Zp q) (hn : qs.length ≤ 1000) (hrs : recN qs ≤ 1000000) :
    Fun Tryz.prog 42 [.pointer (some ⟨g, 0, none⟩), vf] w fun v w' => LReadPost g db fi lo bad qs pl w v w' := by
  refine (LRead_ct g db fi lo bad vf qs pl Zp w hM hZ hF hP0 hn hrs).mono ?_
  rintro v w' (⟨h1, rfl, h2⟩ | ⟨i, c2, es2, ve2, pl2, h1, rfl, h2, h3⟩)
  · exact ⟨0, 90, [], rfl, .inl ⟨h1, rfl⟩, Hp.close (l := []) (r := []) h2⟩
  · exact ⟨i, 0, _, rfl, .inr ⟨c2, es2, ve2, pl2, h1, rfl, h2, rfl⟩, Hp.close (r := []) (by rw [List.append_nil]; exact h3)⟩
theorem parts_few {D : Dsk} {bad : Bool} {ds : List PV} (h : (bad = true ∧ partsF D.fs = none ∧ ds = []) ∨ (bad = false ∧ (partsF D.fs).map sortP = some (ds.map PV.pt))) : ds.length ≤ D.fs.length := by
  rcases h with ⟨_, _, h⟩ | ⟨_, h⟩
  · rw [h]; simp
  · obtain ⟨p0, h3, h4⟩ := Option.map_eq_some_iff.1 h
    have h5 := congrArg List.length h4
    rw [show (sortP p0).length = p0.length from List.length_mergeSort _, List.length_map] at h5
    have := partsF_len h3
    omega
def openT (D : Dsk) (ps : List Pt) (i : Nat) (c : Cn) : Dsk × Option Lg × Nat :=
  if (remAll D ((ps.take i).map (·.k))).2 ≠ 0 then ((remAll D ((ps.take i).map (·.k))).1, none, (remAll D ((ps.take i).map (·.k))).2) else
  let R2 := if (lastP ps).more = true then doD (remAll D ((ps.take i).map (·.k))).1 3 (nameF (lastP ps).k) [] (lastP ps).whole else ((remAll D ((ps.take i).map (·.k))).1, 0)
  if R2.2 ≠ 0 then (R2.1, none, R2.2) else
  if (doD R2.1 1 (nameF (lastP ps).k) [] 0).2 ≠ 0 then ((doD R2.1 1 (nameF (lastP ps).k) [] 0).1, none, (doD R2.1 1 (nameF (lastP ps).k) [] 0).2) else ((doD R2.1 1 (nameF (lastP ps).k) [] 0).1, some ⟨c, (lastP ps).k, (lastP ps).whole, 0⟩, 0)
section
variable {D : Dsk} {ps : List Pt}
theorem openL_down (h : D.off = true) : openL D = (D, none, 80) := by unfold openL; rw [if_pos h]
theorem openL_bad (h : ¬ D.off = true) (h2 : partsF D.fs = none) : openL D = (D, none, 90) := by unfold openL; rw [if_neg h, h2]
theorem openL_new (h : ¬ D.off = true) (h2 : (partsF D.fs).map sortP = some []) : openL D = if (doD D 2 (nameF 1) (recsB (allR Cn.zero)) 0).2 ≠ 0 then ((doD D 2 (nameF 1) (recsB (allR Cn.zero)) 0).1, none, (doD D 2 (nameF 1) (recsB (allR Cn.zero)) 0).2) else ((doD D 2 (nameF 1) (recsB (allR Cn.zero)) 0).1, some ⟨Cn.zero, 1, (recsB (allR Cn.zero)).length, 0⟩, 0) := by
  obtain ⟨p0, h3, h4⟩ := Option.map_eq_some_iff.1 h2
  unfold openL
  rw [if_neg h, h3]
  simp only [h4, List.length_nil, if_true]
theorem openL_none (h : ¬ D.off = true) (h2 : (partsF D.fs).map sortP = some ps) (hne : ps.length ≠ 0) (h5 : readL ps = none) : openL D = (D, none, 90) := by
  obtain ⟨p0, h3, h4⟩ := Option.map_eq_some_iff.1 h2
  unfold openL
  rw [if_neg h, h3]
  simp only [h4, if_neg hne, h5]
theorem openL_some (h : ¬ D.off = true) (h2 : (partsF D.fs).map sortP = some ps) (hne : ps.length ≠ 0) {i : Nat} {c : Cn} (h5 : readL ps = some (i, c)) : openL D = openT D ps i c := by
  obtain ⟨p0, h3, h4⟩ := Option.map_eq_some_iff.1 h2
  unfold openL
  rw [if_neg h, h3]
  simp only [h4, if_neg hne, h5]
  rfl
end
def openS (D : Dsk) (k whole : Nat) (c : Cn) : Dsk × Option Lg × Nat := if (doD D 1 (nameF k) [] 0).2 ≠ 0 then ((doD D 1 (nameF k) [] 0).1, none, (doD D 1 (nameF k) [] 0).2) else ((doD D 1 (nameF k) [] 0).1, some ⟨c, k, whole, 0⟩, 0)
theorem openT_rem {D : Dsk} {ps : List Pt} {i : Nat} {c : Cn} {R : Dsk × Nat} (hR : remAll D ((ps.take i).map (·.k)) = R) (h : R.2 ≠ 0) : openT D ps i c = (R.1, none, R.2) := by
  unfold openT; rw [hR, if_pos h]
theorem openT_cut {D Dj : Dsk} {ps : List Pt} {i : Nat} {c : Cn} {q : PV} (hl : lastP ps = q.pt) (hR : remAll D ((ps.take i).map (·.k)) = (Dj, 0)) (hm : q.more = true) : openT D ps i c = if (doD Dj 3 (nameF q.k) [] q.whole).2 ≠ 0 then ((doD Dj 3 (nameF q.k) [] q.whole).1, none, (doD Dj 3 (nameF q.k) [] q.whole).2) else openS (doD Dj 3 (nameF q.k) [] q.whole).1 q.k q.whole c := by
  obtain ⟨k, w, m, rs, A, cap⟩ := q
  simp only at hm
  subst hm
  unfold openT
  rw [hR, hl]; rfl
theorem openT_no {D Dj : Dsk} {ps : List Pt} {i : Nat} {c : Cn} {q : PV} (hl : lastP ps = q.pt) (hR : remAll D ((ps.take i).map (·.k)) = (Dj, 0)) (hm : q.more = false) : openT D ps i c = openS Dj q.k q.whole c := by
  obtain ⟨k, w, m, rs, A, cap⟩ := q
  simp only at hm
  subst hm
  unfold openT
  rw [hR, hl]; rfl
theorem openS_no {D : Dsk} {k whole : Nat} {c : Cn} {R : Dsk × Nat} (hr : doD D 1 (nameF k) [] 0 = R) (h : R.2 ≠ 0) : openS D k whole c = (R.1, none, R.2) := by unfold openS; rw [hr, if_pos h]
theorem openS_yes {D : Dsk} {k whole : Nat} {c : Cn} {R : Dsk × Nat} (hr : doD D 1 (nameF k) [] 0 = R) (h : R.2 = 0) : openS D k whole c = (R.1, some ⟨c, k, whole, 0⟩, 0) := by unfold openS; rw [hr, if_neg (fun x => x h)]
theorem remAll_cons (D : Dsk) (k : Nat) (r : List Nat) : remAll D (k :: r) = if (doD D 4 (nameF k) [] 0).2 ≠ 0 then doD D 4 (nameF k) [] 0 else remAll (doD D 4 (nameF k) [] 0).1 r := rfl
theorem lastP_at {ds : List PV} {q : PV} (h : ds[ds.length - 1]? = some q) : lastP (ds.map PV.pt) = q.pt := by
  unfold lastP
  rw [List.getLast?_eq_getElem?, List.length_map, List.getElem?_map, h]; rfl
theorem readL_lt {ps : List Pt} {i : Nat} {c : Cn} (h : readL ps = some (i, c)) : i < ps.length := by
  unfold readL at h
  split at h
  · obtain ⟨j, h1, h2⟩ := Option.bind_eq_some_iff.1 h
    obtain ⟨c2, _, h3⟩ := Option.map_eq_some_iff.1 h2
    cases h3
    obtain ⟨p, h4, _⟩ := fromP_at h1
    exact (List.getElem?_eq_some_iff.1 h4).1
  · cases h
theorem zero_len : (recsB (allR Cn.zero)).length ≤ 1073741824 := by
  have h1 : RcOk (baR 0 0) := baR_ok (by decide) (by decide)
  have h2 : RcOk (stR 0 0) := stR_ok (by decide) (by decide)
  have e : recsB (allR Cn.zero) = recB (baR 0 0) ++ (recB (stR 0 0) ++ []) := rfl
  rw [e, List.append_nil, List.length_append, recB_eq h1, recB_eq h2, frameB_length, frameB_length]
  have := recP_len h1
  have := recP_len h2
  omega
def OpenPost (db mb ab : Nat) (D : Dsk) (pe : List PE) (w : World) (v : Value) (w' : World) : Prop :=
  ∃ pe', Rep pe' (openL D).1.fs ∧ (((openL D).2.1 = none ∧ v = .tuple #[.pointer none, errV (openL D).2.2] ∧ Turn w w' [.grp (dskO db mb ab D pe)] [.grp (dskO db mb ab (openL D).1 pe')]) ∨
    (∃ g l es ve pl, (openL D).2.1 = some l ∧ (openL D).2.2 = 0 ∧ v = .tuple #[.pointer (some ⟨g, 0, none⟩), .nilIface] ∧ CnR pl l.c es ve ∧ l.bad = 0 ∧ Turn w w' [.grp (dskO db mb ab D pe)] [lgO g db l.c ve ((l.file : Nat) : Int) ((l.long : Nat) : Int) .nilIface, plO pl, .grp (dskO db mb ab (openL D).1 pe')]))
theorem open_no {db mb ab : Nat} {D D2 : Dsk} {pe pe2 : List PE} {w w' : World} {e : Nat} {v : Value} (h : openL D = (D2, none, e)) (hv : v = .tuple #[.pointer none, errV e]) (hR : Rep pe2 D2.fs) (hT : Turn w w' [.grp (dskO db mb ab D pe)] [.grp (dskO db mb ab D2 pe2)]) : OpenPost db mb ab D pe w v w' := by
  unfold OpenPost
  rw [h]
  exact ⟨pe2, hR, .inl ⟨rfl, hv, hT⟩⟩
theorem open_yes {g db mb ab : Nat} {D D2 : Dsk} {pe pe2 : List PE} {w w' : World} {l : Lg} {es : EQ} {ve : Value} {pl : Pl} (h : openL D = (D2, some l, 0)) (hR : Rep pe2 D2.fs) (hL : CnR pl l.c es ve) (hb : l.bad = 0)
    (hT : Turn w w' [.grp (dskO db mb ab D pe)] [lgO g db l.c ve ((l.file : Nat) : Int) ((l.long : Nat) : Int) .nilIface, plO pl, .grp (dskO db mb ab D2 pe2)]) : OpenPost db mb ab D pe w (.tuple #[.pointer (some ⟨g, 0, none⟩), .nilIface]) w' := by
  unfold OpenPost
  rw [h]
  exact ⟨pe2, hR, .inr ⟨g, l, es, ve, pl, rfl, rfl, rfl, hL, hb, hT⟩⟩

theorem fault_cell {w0 w : World} {z : Zone} {F : List Nat} {os : List Own} {bad : Bool} {fb : Nat} (hb : bad = true) (hH : Hp w0 w z F os) (k : Nat) (hk : os[k]? = some (faultO bad fb)) : w.cell? ⟨fb, 0, none⟩ = some (.int .i64 90) := by
  subst hb
  have h1 := hH.own _ (List.mem_of_getElem? hk)
  have h2 : w.heap[fb]? = some (.cells #[.int .i64 90, .int .i64 0] 180 (0, 0)) := h1 _ (List.mem_singleton.2 rfl)
  simp [World.cell?, h2]

theorem rem_next {D : Dsk} {ds : List PV} {i j : Nat} {q : PV} (h : ds[j]? = some q) (hj : j < i) : remAll D ((((ds.map PV.pt).take i).drop j).map (·.k)) = if (doD D 4 (nameF q.k) [] 0).2 ≠ 0 then doD D 4 (nameF q.k) [] 0 else remAll (doD D 4 (nameF q.k) [] 0).1 ((((ds.map PV.pt).take i).drop (j + 1)).map (·.k)) := by
  have hl := (List.getElem?_eq_some_iff.1 h).1
  have he := (List.getElem?_eq_some_iff.1 h).2
  have h1 : j < ((ds.map PV.pt).take i).length := by rw [List.length_take, List.length_map]; omega
  rw [List.drop_eq_getElem_cons h1, List.map_cons, remAll_cons]
  have e : (((ds.map PV.pt).take i)[j]).k = q.k := by rw [List.getElem_take, List.getElem_map, he]; rfl
  rw [e]

theorem WOpen_ct (db mb ab : Nat) (D : Dsk) (pe : List PE) (M : Nat) (w : World) (hM : Mine w [.grp (dskO db mb ab D pe)]) (hR : Rep pe D.fs) (hA : ArOk D.ar) (hG : Good D.fs M) (hMM : M ≤ 4294967296) (hN : D.fs.length ≤ 1000) (hrs : ∀ ps, (partsF D.fs).map sortP = some ps → (ps.map (·.rs)).flatten.length ≤ 1000000) (hks : ∀ ps, (partsF D.fs).map sortP = some ps → ∀ p ∈ ps, KOk w (blksOf [.grp (dskO db mb ab D pe)]) p.k) (hT1 : KOk w (blksOf [.grp (dskO db mb ab D pe)]) 1) :
    Fun Tryz.prog 14 [.pointer (some ⟨db, 0, none⟩)] w fun v w' => OpenPost db mb ab D pe w v w' := by
 refine fun_of_sw Tryz.func14 rfl 102 rfl rfl ?_
 have hH := Hp.start_mine hM
 refine sw_sr <| Go0 2 <| Dn <| sw_seq <| sw_sr <| Go1 1 13 (Pp db 0) ?_
 replace hH : Hp w w _ _ ([_] ++ []) := hH
 refine gl_st (Sc rfl rfl (Down_ct db mb ab D pe _ hH.mine) ?_)
 rintro _ w1 ⟨rfl, hF2⟩
 replace hH := hH.turns hF2
 replace hH := hH.n1
 refine Dn <| If rfl (fun hc1 => ?_) (fun hc1 => ?_)
 have hoff := hc1
 refine sw_sr <| Go2 3 2 (.pointer none) 3 (.iface 38 (.int .i64 80)) <| Dn <| Rt2 rfl rfl rfl ?_
 replace hH := (hH.sb (slk sln)).n1
 exact open_no (openL_down hoff) rfl hR (hH.turned)
 have hoff : ¬ D.off = true := by rw [hc1]; simp
 refine Sk <| sw_sr <| Go1 2 17 (.agg #[Pp db 0, .int .i64 0, .int .i64 0, .int .i64 0, .int .i64 0, .slice none 0 0, .int .i64 0, .int .i64 0, .nilIface]) <| gl_st (Bx [Pp db 0, .int .i64 0, .int .i64 0, .int .i64 0, .int .i64 0, .slice none 0 0, .int .i64 0, .int .i64 0, .nilIface] rfl hH ?_)
 clear hH; intro b3 w4 hH
 replace hH := hH.pool
 refine Go1 1 4 (Pp b3 0) <| Dn <| sw_sr <| Go1 1 20 (Pp db 0) ?_
 replace hH : Hp w w4 _ _ ([_] ++ [_, _]) := hH
 refine gl_st (Sc rfl rfl (PartsP_ct db mb ab D pe M _ hH.mine hR hG (by omega) hN) ?_)
 rintro _ w5 ⟨bad, fb, vf, ds, pf, rfl, hps, hpv, hF6⟩
 replace hH := hH.turns hF6
 replace hH := hH.n6
 have hdl : ds.length ≤ D.fs.length := parts_few hps
 obtain ⟨A7, c8, rfl, hl9, hm10⟩ := hH.row_form 3 rfl
 refine Go2 5 5 (.slice A7 ds.length c8) 6 (ifW (!bad) 178 (.pointer (some ⟨fb, 0, none⟩))) <| Dn <| sw_seq <| sw_sr <| Go1 1 24 (ifW (!bad) 178 (.pointer (some ⟨fb, 0, none⟩))) <| Gq rfl (rd_if_eq (by kernel_rfl) rfl) <| Go1 1 26 (.bool (!bad)) <| Gi 26 rfl (fun hg2 => ?_) (fun hg2 => ?_)
 have hbf : bad = false := by simpa using hg2
 have hok := (hps.resolve_left (fun h => by rw [h.1] at hbf; cases hbf)).2
 refine Go1 1 27 (.slice A7 ds.length c8) <| Gq rfl (Ln (e := 106) rfl) <| Go1 2 30 (.bool (((ds.length : Nat) : Int) == (0 : Int))) <| Dn <| If rfl (fun hc3 => ?_) (fun hc3 => ?_)
 have hnew : (partsF D.fs).map sortP = some [] := by rw [hok, List.eq_nil_of_length_eq_zero (show ds.length = 0 by omega)]; rfl
 refine sw_seq <| sw_sr <| Go1 1 31 (Pp b3 0) ?_
 replace hH : Hp w w5 _ _ ([_, _, _] ++ [_, _, _]) := hH
 refine gl_st (Sc rfl rfl (Begin_ct b3 db mb ab 1 Cn.zero 0 0 .nilIface _ [] [] D pe M _ hH.mine (CnR.nil [] _ rfl) hR hA hG (by omega) cnOk_zero zero_len (by simp) (by omega) (hT1.sub hH)) ?_)
 rintro _ w11 ⟨pe2, rfl, hR2, hF12⟩
 replace hH := hH.turns hF12
 replace hH := hH.n6
 refine Go1 1 7 (errV ((doD D 2 (nameF 1) (recsB (allR Cn.zero)) 0).2)) <| Dn <| sw_sr <| Go1 1 33 (errV ((doD D 2 (nameF 1) (recsB (allR Cn.zero)) 0).2)) <| Gq rfl (rd_err_ne (by kernel_rfl) rfl) <| Dn <| If rfl (fun hc4 => ?_) (fun hc4 => ?_)
 have hbe := hc4
 refine sw_sr <| Go2 3 2 (.pointer none) 3 (errV ((doD D 2 (nameF 1) (recsB (allR Cn.zero)) 0).2)) <| Dn <| Rt2 rfl rfl rfl ?_
 replace hH := hH.fr6
 replace hH := (hH.sb (slk sln)).n1
 have hop := openL_new hoff hnew
 rw [if_pos (by simpa using hbe)] at hop
 exact open_no hop rfl hR2 (hH.turned)
 have hbe := hc4
 refine Sk <| sw_sr <| Go2 3 2 (Pp b3 0) 3 (.nilIface) <| Dn <| Rt2 rfl rfl rfl ?_
 replace hH := hH.fr6.fr6.fr6
 replace hH := (hH.sb (slk (slk (slk sln)))).n3
 have hop := openL_new hoff hnew
 rw [if_neg (by simpa using hbe)] at hop
 exact open_yes hop hR2 (CnR.nil [] _ rfl) rfl (hH.turned)
 refine Sk <| sw_sr <| Go1 1 8 (.int .i64 0) <| Dn <| sw_seq <| sw_sr <| Go1 1 37 (ifW (!bad) 178 (.pointer (some ⟨fb, 0, none⟩))) <| Gq rfl (rd_if_eq (by kernel_rfl) rfl) <| Dn <| If rfl (fun hc5 => ?_) (fun hc5 => ?_)
 refine sw_region ?_
 have hrn : recN ds ≤ 1000000 := by have h9 := hrs _ hok; rw [List.map_map] at h9; exact h9
 refine Go2 2 40 (Pp b3 0) 41 (.slice A7 ds.length c8) ?_
 replace hH : Hp w w5 _ _ ([_, _] ++ [_, _, _, _]) := hH
 refine gl_st (Sc rfl rfl (LReadP_ct b3 db 0 0 .nilIface _ ds [] (pz pf) _ hH.mine (pz_off hH 2 rfl) (zoff_row (mine := [.blk b3 96 [Pp db 0, .int .i64 0, .int .i64 0, .int .i64 0, .int .i64 0, .slice none 0 0, .int .i64 0, .int .i64 0, .nilIface], plO []]) hH 1 rfl) hpv (by omega) hrn) ?_)
 rintro _ w13 ⟨i, er, o2, rfl, hor, hF14⟩
 replace hH := hH.turns hF14
 replace hH := hH.n5
 refine Go2 5 6 (errV er) 8 (Ni i) <| Dd <| sw_next <| sw_seq <| sw_sr <| Go1 1 45 (errV er) <| gl_cv 45 (errV er) (rfl) rfl <| Go1 1 46 (.iface 38 (.int .i64 90)) <| gl_st (Sc rfl rfl (IsN_ct er 90 (by decide) _) ?_)
 rintro _ w15 ⟨rfl, hF16⟩
 replace hH := hH.call hF16
 refine Dn <| If rfl (fun hc6 => ?_) (fun hc6 => ?_)
 have hey := hc6
 refine sw_sr <| Go2 3 2 (.pointer none) 3 (.iface 38 (.int .i64 90)) <| Dn <| Rt2 rfl rfl rfl ?_
 replace hH := (hH.sb (slk sln)).n1
 have hnn := hor.resolve_right (fun h => by obtain ⟨_, _, _, _, _, h2, _⟩ := h; rw [h2] at hey; cases hey)
 exact open_no (openL_none hoff hok (by rw [List.length_map]; omega) hnn.1) rfl hR (hH.turned)
 have hne9 : er ≠ 90 := by simpa using hc6
 obtain ⟨c2, es2, ve2, pl2, hrd, he0, hL2, ho2⟩ := hor.resolve_left (fun h => by rw [h.2] at hne9; exact hne9 rfl)
 obtain ⟨Ae, ce, rfl, _, _⟩ := hL2.row.form
 replace hH := hH.fr5
 replace hH := do_back ho2 hH
 replace hH : Hp w w15 _ _ [.blk b3 96 [Pp db 0, Ni c2.term, Ni c2.vote, Ni c2.ix, Ni c2.ah, .slice Ae es2.length ce, .int .i64 0, .int .i64 0, .nilIface], plO pl2, .grp (dskO db mb ab D pe), .row (.slice A7 ds.length c8) 106 4 ds.length (rowC pvC ds), plO pf, faultO bad fb] := hH
 have hil : i < ds.length := by have := readL_lt hrd; simpa using this
 have hop := openL_some hoff hok (by rw [List.length_map]; omega) hrd
 have hkk : ∀ q ∈ ds, KOk w (blksOf [.grp (dskO db mb ab D pe)]) q.k := fun q hq => hks _ hok q.pt (List.mem_map.2 ⟨q, hq, rfl⟩)
 obtain ⟨RA, hRA⟩ : ∃ R, remAll D (((ds.map PV.pt).take i).map (·.k)) = R := ⟨_, rfl⟩
 refine Sk <| sw_seq <| sw_sr ?_
 obtain ⟨A9, hc9, hv9⟩ := hH.row_win 3 rfl 0 i c8 (by omega) (by omega) (by omega) (by omega)
 refine Go2 2 49 (.slice A7 ds.length c8) 50 (Ni i) <| Gq rfl (rd_cut (e := 106) (m := 4) (by kernel_rfl) (by kernel_rfl) rfl (.inl ⟨rfl, rfl⟩) (.inr ⟨_, _, rfl, rfl⟩) hc9) <| Gq rfl (Ln (e := 106) rfl) <| glo 1 [(0, Pp db 0), (4, Pp b3 0), (5, .slice A7 ds.length c8), (6, errV er), (51, .slice A9 (i - 0) (c8 - 0)), (52, Ni (i - 0)), (53, .int .i64 0)] <| Dn <| sw_block ?_
 replace hH := hH.fr2.fr2.fr4.fr4
 replace hH := (hH.sb (slk (slk (slk (slk sln))))).n4
 refine Lp (γ := Nat × Dsk × List PE) hH (fun (j, Dj, pej) => [(0, Pp db 0), (4, Pp b3 0), (5, .slice A7 ds.length c8), (6, errV er), (51, .slice A9 (i - 0) (c8 - 0)), (52, Ni (i - 0)), (53, Ni j)]) (fun (j, Dj, pej) w_ H_ => (j ≤ i) ∧ (Rep pej Dj.fs) ∧ (ArOk Dj.ar) ∧ (Good Dj.fs M) ∧ (remAll Dj ((((ds.map PV.pt).take i).drop j).map (·.k)) = RA) ∧ H_ [.grp (dskO db mb ab Dj pej), .row (.slice A7 ds.length c8) 106 4 ds.length (rowC pvC ds), .blk b3 96 [Pp db 0, Ni c2.term, Ni c2.vote, Ni c2.ix, Ni c2.ah, .slice Ae es2.length ce, .int .i64 0, .int .i64 0, .nilIface], plO pl2]) (fun (j, Dj, pej) => i - j) (0, D, pe) ?_ ?_
 · exact ⟨by omega, hR, hA, hG, by rw [List.drop_zero]; exact hRA, hH⟩
 clear hH
 rintro ⟨j, Dj, pej⟩ w17 ⟨hj, hRj, hAj, hGj, hrem, hH⟩
 refine swk [(0, Pp db 0), (4, Pp b3 0), (5, .slice A7 ds.length c8), (6, errV er), (51, .slice A9 (i - 0) (c8 - 0)), (52, Ni (i - 0)), (53, Ni j)] <| sw_sr <| Go1 1 54 (.bool (decide ((j : Int) < ((i - 0 : Nat) : Int)))) <| Dn <| sw_seq <| If rfl (fun hc7 => ?_) (fun hc7 => ?_)
 refine Sk <| sw_seq <| sw_block ?_
 obtain ⟨q, hq⟩ : ∃ q, ds[j]? = some q := ⟨_, List.getElem?_eq_getElem (by omega)⟩
 have hq0 : ds[0 + j]? = some q := by rw [Nat.zero_add]; exact hq
 have hqk := (hpv q (List.mem_of_getElem? hq)).k
 have hT9 := hkk q (List.mem_of_getElem? hq)
 refine sw_sr ?_
 obtain ⟨b19, hb18, hi20⟩ := hv9.idx j (by omega)
 refine Gq rfl (Ix (e := 106) 4 rfl rfl hi20) <| Gq rfl (rd_loadOA (q := 4) 1 (by kernel_rfl) hH rfl rfl hb18 (by kernel_rfl) [Ni q.k, Ni q.whole, .bool q.more, .slice q.A q.rs.length q.cap] rfl (rowC_allO pvC_len hq0 _ rfl)) <| gl_st (Alc [.int .i64 0, .int .i64 0, .bool false, .slice none 0 0] rfl hH ?_)
 clear hH; intro b21 w22 hH
 refine gl_st (Ka 4 [Ni q.k, Ni q.whole, .bool q.more, .slice q.A q.rs.length q.cap] [Ni q.k, Ni q.whole, .bool q.more, .slice q.A q.rs.length q.cap] rfl hH rfl rfl ?_)
 clear hH; intro w23 hH
 refine Dn <| sw_sr <| Go2 2 57 (Pp db 0) 58 (Pp b21 0) <| Gq rfl (Lk 4 hH rfl rfl rfl) <| gl_st (Sc rfl rfl (Name_ct q.k _ (by omega) (hT9.now hH)) ?_)
 rintro _ w24 ⟨rfl, hF25⟩
 replace hH := hH.call hF25
 obtain ⟨R26, hr27⟩ : ∃ R, doD Dj 4 (nameF q.k) [] 0 = R := ⟨_, rfl⟩
 replace hH : Hp w w24 _ _ ([_] ++ [_, _, _, _]) := hH
 refine gl_st (Sc rfl rfl (by have h9 := Remove_ct db mb ab Dj pej (nameF q.k) M _ hH.mine hRj hAj hGj (by omega) (by have := nameF_short q.k (by omega); omega); rw [hr27] at h9; exact h9) ?_)
 rintro _ w30 ⟨pe28, rfl, hR29, hF31⟩
 replace hH := hH.turns hF31
 replace hH := hH.n5
 have hAR26 : ArOk R26.1.ar := by rw [← hr27]; exact arOk_do hAj _ _ _ _
 have hGR26 : Good R26.1.fs M := by rw [← hr27]; exact (good_doD hGj _ _ _ _).mono (by simp)
 refine Go1 1 11 (errV R26.2) <| Dn <| sw_sr <| Go1 1 62 (errV R26.2) <| Gq rfl (rd_err_ne (by kernel_rfl) rfl) <| Dn <| If rfl (fun hc8 => ?_) (fun hc8 => ?_)
 have hz9 := hc8
 refine sw_sr <| Go2 3 2 (.pointer none) 3 (errV R26.2) <| Dn <| Rt2 rfl rfl rfl ?_
 replace hH := hH.fr5
 replace hH := (hH.sb (slk sln)).n1
 rw [rem_next hq (by omega), if_pos (by rw [hr27]; simpa using hz9), hr27] at hrem
 subst hrem
 have hop2 := hop.trans (openT_rem hRA (by simpa using hz9))
 exact open_no hop2 rfl hR29 (hH.turned)
 have hz9 := hc8
 refine sw_skip <| bkN <| sw_next <| sw_region <| Gw0 1 65 ((j : Int) + 1) ((j + 1 : Nat) : Int) <| Go1 1 53 (Ni (j + 1)) <| Dd <| rnd_end (g := (j, Dj, pej)) (j + 1, R26.1, pe28) (by kernel_rfl) ?_ ?_
 replace hH := hH.fr3.fr3.fr3.fr5
 replace hH := (hH.sb (slk (slk (slk (slk sln))))).n4
 · exact ⟨by omega, hR29, hAR26, hGR26, by rw [rem_next hq (by omega), if_neg (by rw [hr27]; simpa using hz9), hr27] at hrem; exact hrem, hH⟩
 · show i - (j + 1) < i - j; omega
 refine sw_exit <| thX <| thX <| bkH <| sw_next ?_
 obtain ⟨q, hq⟩ : ∃ q, ds[ds.length - 1]? = some q := ⟨_, List.getElem?_eq_getElem (by omega)⟩
 have hqk := (hpv q (List.mem_of_getElem? hq)).k
 have hqw := (hpv q (List.mem_of_getElem? hq)).whole
 have hT9 := hkk q (List.mem_of_getElem? hq)
 have hlp := lastP_at hq
 have hje : j = i := by omega
 subst hje
 rw [List.drop_of_length_le (by rw [List.length_take, List.length_map]; omega)] at hrem
 subst hrem
 have hRA2 : remAll D (((ds.map PV.pt).take j).map (·.k)) = (Dj, 0) := hRA
 refine sw_sr <| Go2 2 66 (.slice A7 ds.length c8) 67 (.slice A7 ds.length c8) <| Gq rfl (Ln (e := 106) rfl) <| Gw0 1 69 (((ds.length : Nat) : Int) - 1) ((ds.length - 1 : Nat) : Int) ?_
 obtain ⟨b33, hb32, hi34⟩ := hH.row_idx 1 rfl (ds.length - 1) (by omega)
 refine Gq rfl (Ix (e := 106) 4 rfl rfl hi34) <| Gq rfl (rd_loadOA (q := 4) 1 (by kernel_rfl) hH rfl rfl hb32 (by kernel_rfl) [Ni q.k, Ni q.whole, .bool q.more, .slice q.A q.rs.length q.cap] rfl (rowC_allO pvC_len hq _ rfl)) <| gl_st (Alc [.int .i64 0, .int .i64 0, .bool false, .slice none 0 0] rfl hH ?_)
 clear hH; intro b35 w36 hH
 refine gl_st (Ka 4 [Ni q.k, Ni q.whole, .bool q.more, .slice q.A q.rs.length q.cap] [Ni q.k, Ni q.whole, .bool q.more, .slice q.A q.rs.length q.cap] rfl hH rfl rfl ?_)
 clear hH; intro w37 hH
 refine Dn <| sw_seq <| Dr hH (slk (slk (slc (slk (slk sln))))) ?_
 clear hH; intro w38 hH hS9
 refine Gp3 3 [0,1,2] 72 (Pp b3 0) 73 (Pp b3 0) 74 (Pp b35 0) hS9 <| Dq 3 rfl (fun _ hS => (Lk 3 hS rfl rfl rfl)) hS9 <| Gp1 1 [4] 76 (Pp b35 1) hS9 <| Dq 5 rfl (fun _ hS => (Lk 3 hS rfl rfl rfl)) hS9 <| Gp1 2 [6,7] 79 (Pp b3 6) hS9 <| gds 8 (Ks 2 (Ni q.k) rfl hH rfl rfl ?_)
 clear hH; intro w39 hH
 refine Nl (hH.sb (slk (slk (slc (slk (slk sln)))))) fun hS9 => Gp1 2 [9,10] 81 (Pp b3 7) hS9 <| gds 11 (Ks 2 (Ni q.whole) rfl hH rfl rfl ?_)
 clear hH; intro w40 hH
 refine Nl (hH.sb (slk (slk (slc (slk (slk sln)))))) fun hS9 => gdn [(0, Pp db 0), (4, Pp b3 0), (6, errV er), (12, Pp b35 0)] <| sw_next <| sw_seq <| sw_sr <| Go1 1 82 (Pp b35 2) <| Gq rfl (Lk 4 hH rfl rfl rfl) <| Dn <| If rfl (fun hc9 => ?_) (fun hc9 => ?_)
 have hmore := hc9
 have hop2 := hop.trans (openT_cut hlp hRA2 hmore)
 refine Dr hH (slc (slk (slk (slk (slk sln))))) ?_
 clear hH; intro w41 hH hS9
 refine Gp2 2 [0,1] 84 (Pp db 0) 85 (Pp b35 0) hS9 <| Dq 2 rfl (fun _ hS => (Lk 3 hS rfl rfl rfl)) hS9 <| Gp1 1 [4] 88 (Pp b35 1) hS9 <| Dq 5 rfl (fun _ hS => (Lk 3 hS rfl rfl rfl)) hS9 <| gds 3 (Sc rfl rfl (Name_ct q.k _ (by omega) (hT9.now hH)) ?_)
 rintro _ w42 ⟨rfl, hF43⟩
 replace hH := hH.call hF43
 refine Nl (hH.sb (slc (slk (slk (slk (slk sln)))))) fun hS9 => ?_
 obtain ⟨R44, hr45⟩ : ∃ R, doD Dj 3 (nameF q.k) [] ((q.whole : Nat) : Int) = R := ⟨_, rfl⟩
 replace hH : Hp w w42 _ _ ([_] ++ [_, _, _, _]) := hH
 refine gds 6 (Sc rfl rfl (by have h9 := CutAct_ct db mb ab Dj pej (nameF q.k) ((q.whole : Nat) : Int) M _ hH.mine hRj hAj hGj (by omega) (by have := nameF_short q.k (by omega); omega); rw [hr45] at h9; exact h9) ?_)
 rintro _ w48 ⟨pe46, rfl, hR47, hF49⟩
 replace hH := hH.turns hF49
 replace hH := hH.n5
 have hAR44 : ArOk R44.1.ar := by rw [← hr45]; exact arOk_do hAj _ _ _ _
 have hGR44 : Good R44.1.fs M := by rw [← hr45]; exact (good_doD hGj _ _ _ _).mono (by simp)
 refine Nl (hH.sb (slk (slk (slk (slk sln))))) fun hS9 => Gp1 1 [7] 6 (errV R44.2) hS9 <| gdn [(0, Pp db 0), (4, Pp b3 0), (6, errV R44.2), (12, Pp b35 0)] <| sw_next <| sw_seq <| sw_sr <| Go1 1 91 (errV R44.2) <| Gq rfl (rd_err_eq (by kernel_rfl) rfl) <| Dn <| If rfl (fun hc10 => ?_) (fun hc10 => ?_)
 have hy9 := hc10
 rw [hr45, if_neg (by simpa using hy9)] at hop2
 refine sw_region <| Go2 2 93 (Pp db 0) 94 (Pp b35 0) <| Gq rfl (Lk 3 hH rfl rfl rfl) <| gl_st (Sc rfl rfl (Name_ct q.k _ (by omega) (hT9.now hH)) ?_)
 rintro _ w50 ⟨rfl, hF51⟩
 replace hH := hH.call hF51
 obtain ⟨R52, hr53⟩ : ∃ R, doD R44.1 1 (nameF q.k) [] 0 = R := ⟨_, rfl⟩
 replace hH : Hp w w50 _ _ ([_] ++ [_, _, _, _]) := hH.fr5
 refine gl_st (Sc rfl rfl (by have h9 := Sync_ct db mb ab R44.1 pe46 (nameF q.k) M _ hH.mine hR47 hAR44 hGR44 (by omega) (by have := nameF_short q.k (by omega); omega); rw [hr53] at h9; exact h9) ?_)
 rintro _ w56 ⟨pe54, rfl, hR55, hF57⟩
 replace hH := hH.turns hF57
 replace hH := hH.n5
 have hAR52 : ArOk R52.1.ar := by rw [← hr53]; exact arOk_do hAR44 _ _ _ _
 have hGR52 : Good R52.1.fs M := by rw [← hr53]; exact (good_doD hGR44 _ _ _ _).mono (by simp)
 refine Go1 1 6 (errV R52.2) <| Dd <| sw_next <| sw_seq <| sw_sr <| Go1 1 98 (errV R52.2) <| Gq rfl (rd_err_ne (by kernel_rfl) rfl) <| Dn <| If rfl (fun hc11 => ?_) (fun hc11 => ?_)
 have hop2 := hop2.trans (openS_no hr53 (by simpa using hc11))
 refine sw_sr <| Go2 3 2 (.pointer none) 3 (errV R52.2) <| Dn <| Rt2 rfl rfl rfl ?_
 replace hH := hH.fr5
 replace hH := (hH.sb (slk sln)).n1
 exact open_no hop2 rfl hR55 (hH.turned)
 have hop2 := hop2.trans (openS_yes hr53 (by simpa using hc11))
 refine Sk <| sw_sr <| Go2 3 2 (Pp b3 0) 3 (.nilIface) <| Dn <| Rt2 rfl rfl rfl ?_
 replace hH := hH.fr5.fr4.fr4
 replace hH := (hH.sb (slk (slk (slk sln)))).n3
 exact open_yes hop2 hR55 hL2 rfl (hH.turned)
 have hz9 := hc10
 rw [hr45, if_pos (by simpa using hz9)] at hop2
 refine Sk <| sw_seq <| sw_sr <| Go1 1 98 (errV R44.2) <| Gq rfl (rd_err_ne (by kernel_rfl) rfl) <| Dn <| If rfl (fun hc12 => ?_) (fun hc12 => ?_)
 refine sw_sr <| Go2 3 2 (.pointer none) 3 (errV R44.2) <| Dn <| Rt2 rfl rfl rfl ?_
 replace hH := hH.fr5
 replace hH := (hH.sb (slk sln)).n1
 exact open_no hop2 rfl hR47 (hH.turned)
 exact absurd hc12 (by simpa using hz9)
 have hmore := hc9
 have hop2 := hop.trans (openT_no hlp hRA2 hmore)
 refine Sk <| sw_seq <| sw_sr <| Go1 1 91 (errV er) <| Gq rfl (rd_err_eq (by kernel_rfl) rfl) <| Dn <| If rfl (fun hc13 => ?_) (fun hc13 => ?_)
 refine sw_region <| Go2 2 93 (Pp db 0) 94 (Pp b35 0) <| Gq rfl (Lk 4 hH rfl rfl rfl) <| gl_st (Sc rfl rfl (Name_ct q.k _ (by omega) (hT9.now hH)) ?_)
 rintro _ w58 ⟨rfl, hF59⟩
 replace hH := hH.call hF59
 obtain ⟨R60, hr61⟩ : ∃ R, doD Dj 1 (nameF q.k) [] 0 = R := ⟨_, rfl⟩
 replace hH : Hp w w58 _ _ ([_] ++ [_, _, _, _]) := hH
 refine gl_st (Sc rfl rfl (by have h9 := Sync_ct db mb ab Dj pej (nameF q.k) M _ hH.mine hRj hAj hGj (by omega) (by have := nameF_short q.k (by omega); omega); rw [hr61] at h9; exact h9) ?_)
 rintro _ w64 ⟨pe62, rfl, hR63, hF65⟩
 replace hH := hH.turns hF65
 replace hH := hH.n5
 have hAR60 : ArOk R60.1.ar := by rw [← hr61]; exact arOk_do hAj _ _ _ _
 have hGR60 : Good R60.1.fs M := by rw [← hr61]; exact (good_doD hGj _ _ _ _).mono (by simp)
 refine Go1 1 6 (errV R60.2) <| Dd <| sw_next <| sw_seq <| sw_sr <| Go1 1 98 (errV R60.2) <| Gq rfl (rd_err_ne (by kernel_rfl) rfl) <| Dn <| If rfl (fun hc14 => ?_) (fun hc14 => ?_)
 have hop2 := hop2.trans (openS_no hr61 (by simpa using hc14))
 refine sw_sr <| Go2 3 2 (.pointer none) 3 (errV R60.2) <| Dn <| Rt2 rfl rfl rfl ?_
 replace hH := hH.fr5
 replace hH := (hH.sb (slk sln)).n1
 exact open_no hop2 rfl hR63 (hH.turned)
 have hop2 := hop2.trans (openS_yes hr61 (by simpa using hc14))
 refine Sk <| sw_sr <| Go2 3 2 (Pp b3 0) 3 (.nilIface) <| Dn <| Rt2 rfl rfl rfl ?_
 replace hH := hH.fr5.fr4.fr4
 replace hH := (hH.sb (slk (slk (slk sln)))).n3
 exact open_yes hop2 hR63 hL2 rfl (hH.turned)
 exact absurd he0 (by simpa using hc13)
 exact absurd hbf (by simpa using hc5)
 have hbt : bad = true := by simpa using hg2
 refine Go1 4 30 (.bool false) <| Dn <| Iz <| sw_skip <| sw_next <| sw_sr <| Go1 1 8 (.int .i64 0) <| Dn <| sw_seq <| sw_sr <| Go1 1 37 (ifW (!bad) 178 (.pointer (some ⟨fb, 0, none⟩))) <| Gq rfl (rd_if_eq (by kernel_rfl) rfl) <| Dn <| If rfl (fun hc16 => ?_) (fun hc16 => ?_)
 exact absurd hbt (by simpa using hc16)
 refine Sk <| sw_seq <| sw_sr <| Go1 1 45 (ifW (!bad) 178 (.pointer (some ⟨fb, 0, none⟩))) <| gl_cv 45 (.iface 178 (Pp fb 0)) (if_bad hbt _ _) rfl <| Go1 1 46 (.iface 38 (.int .i64 90)) <| gl_st (Sc rfl rfl (IsF_ct fb _ (fault_cell hbt hH 5 rfl)) ?_)
 rintro _ w66 ⟨rfl, hF67⟩
 replace hH := hH.call hF67
 refine Dn <| It <| sw_sr <| Go2 3 2 (.pointer none) 3 (.iface 38 (.int .i64 90)) <| Dn <| Rt2 rfl rfl rfl ?_
 replace hH := hH.fr3
 replace hH := (hH.sb (slk sln)).n1
 exact open_no (openL_bad hoff (hps.resolve_right (fun h => by rw [h.1] at hbt; cases hbt)).2.1) rfl hR (hH.turned)
end Go.Proofs.YtajapgjemefoiaaGreatDoor
/- Layer 19 (wal): the term, the vote, entries are saved: what it answers. -/
set_option maxRecDepth 100000
set_option maxHeartbeats 4000000
set_option linter.unusedVariables false
set_option linter.unusedSimpArgs false
namespace Go.Proofs.YtajapgjemefoiaaGreatDoor
open Go.RowKit Go.SW
def SavePost (g db mb ab : Nat) (l : Lg) (ve : Value) (pl : Pl) (D : Dsk) (pe : List PE) (R : Dsk × Lg × Nat) (w : World) (v : Value) (w' : World) : Prop :=
  ∃ pe' es2 ve2 pl2, v = errV R.2.2 ∧ (Rep pe' R.1.fs ∧ CnR pl2 R.2.1.c es2 ve2) ∧
    Turn w w' [lgO g db l.c ve ((l.file : Nat) : Int) ((l.long : Nat) : Int) (errV l.bad), plO pl, .grp (dskO db mb ab D pe)] [lgO g db R.2.1.c ve2 ((R.2.1.file : Nat) : Int) ((R.2.1.long : Nat) : Int) (errV R.2.1.bad), plO pl2, .grp (dskO db mb ab R.1 pe')]
theorem putsA_snoc : ∀ (es : List EA) (e : EA) (c : Cn), putsA c (es ++ [e]) = (putsA c es).bind fun c' => if e.tm < 0 ∨ e.kd < 0 ∨ e.ix ≤ c'.ix then none else putC c' e.en
  | [], e, c => by
    show (if e.tm < 0 ∨ e.kd < 0 ∨ e.ix ≤ c.ix then none else (putC c e.en).bind fun c' => some c') = (some c).bind _
    simp only [Option.bind_some]
    split
    · rfl
    · cases putC c e.en <;> rfl
  | a :: es, e, c => by
    rw [List.cons_append, putsA, putsA]
    split
    · rfl
    · cases putC c a.en with
      | none => rfl
      | some c1 =>
        simp only [Option.bind_some]
        exact putsA_snoc es e c1
theorem putsA_none {es : List EA} {i : Nat} {e : EA} (h : es[i]? = some e) {c c' : Cn} (hc : putsA c (es.take i) = some c') (hn : (if e.tm < 0 ∨ e.kd < 0 ∨ e.ix ≤ c'.ix then none else putC c' e.en) = none) : putsA c es = none := by
  have hi := (List.getElem?_eq_some_iff.1 h).1
  have he := (List.getElem?_eq_some_iff.1 h).2
  have key : ∀ (b a : List EA), putsA c a = none → putsA c (a ++ b) = none := by
    intro b
    induction b with
    | nil => intro a h; rwa [List.append_nil]
    | cons x b ih =>
      intro a h
      have := ih (a ++ [x]) (by rw [putsA_snoc, h]; rfl)
      rwa [List.append_assoc] at this
  have h1 : putsA c (es.take (i + 1)) = none := by
    rw [List.take_succ_eq_append_getElem hi, he, putsA_snoc, hc]; exact hn
  have := key (es.drop (i + 1)) (es.take (i + 1)) h1
  rwa [List.take_append_drop] at this
theorem putsA_next {es : List EA} {i : Nat} {e : EA} (h : es[i]? = some e) {c c' c2 : Cn} (hc : putsA c (es.take i) = some c') (h1 : ¬ (e.tm < 0 ∨ e.kd < 0 ∨ e.ix ≤ c'.ix)) (h2 : putC c' e.en = some c2) : putsA c (es.take (i + 1)) = some c2 := by
  have hi := (List.getElem?_eq_some_iff.1 h).1
  have he := (List.getElem?_eq_some_iff.1 h).2
  rw [List.take_succ_eq_append_getElem hi, he, putsA_snoc, hc]
  simp only [Option.bind_some]
  rw [if_neg h1, h2]
theorem putsA_len : ∀ {es : List EA} {c c' : Cn}, putsA c es = some c' → c'.ix = c.ix ∧ c'.ah = c.ah ∧ c'.es.length ≤ c.es.length + es.length
  | [], c, c', h => by cases h; simp
  | e :: es, c, c', h => by
    rw [putsA] at h
    split at h
    · cases h
    · obtain ⟨c1, h1, h2⟩ := Option.bind_eq_some_iff.1 h
      obtain ⟨a1, a2, a3⟩ := putsA_len h2
      obtain ⟨_, _, rfl⟩ := putC_some h1
      simp only [List.length_append, List.length_take, List.length_singleton] at a1 a2 a3
      refine ⟨a1, a2, ?_⟩
      rw [List.length_cons]; omega
theorem putC_hx {c c' : Cn} {e : En} (h : putC c e = some c') (he : e.ix < 9223372036854775808) : c'.ix + c'.es.length < 9223372036854775808 := by
  obtain ⟨h1, h2, rfl⟩ := putC_some h
  simp only [List.length_append, List.length_take, List.length_singleton]
  omega
section
variable {D : Dsk} {l : Lg} {t v : Int} {es : List EA}
theorem saveL_badL (h : l.bad ≠ 0) : saveL D l t v es = (D, l, l.bad) := by unfold saveL; rw [if_pos h]
theorem saveL_none (h : l.bad = 0) (hp : putsA l.c es = none) : saveL D l t v es = (D, l, 1) := by unfold saveL; rw [if_neg (fun x => x h), hp]
theorem saveL_neg (h : l.bad = 0) {c' : Cn} (hp : putsA l.c es = some c') (hn : t < 0 ∨ v < 0) : saveL D l t v es = (D, l, 1) := by unfold saveL; rw [if_neg (fun x => x h), hp]; simp only; rw [if_pos hn]
theorem saveL_long (h : l.bad = 0) {c' : Cn} (hp : putsA l.c es = some c') (hn : ¬ (t < 0 ∨ v < 0)) (hl : es.any (fun e => decide (65536 < e.d.length)) = true) : saveL D l t v es = (D, l, 2) := by unfold saveL; rw [if_neg (fun x => x h), hp]; simp only; rw [if_neg hn, if_pos hl]
theorem saveL_nil (h : l.bad = 0) {c' : Cn} (hp : putsA l.c es = some c') (hn : ¬ (t < 0 ∨ v < 0)) (hl : ¬ es.any (fun e => decide (65536 < e.d.length)) = true) (hb : saveB l.c t.toNat v.toNat (es.map EA.en) = []) : saveL D l t v es = (D, l, 0) := by
  unfold saveL; rw [if_neg (fun x => x h), hp]; simp only; rw [if_neg hn, if_neg hl, if_pos hb]
def saveW (D : Dsk) (l : Lg) (c' : Cn) (t v fi lo : Nat) (b : List UInt8) : Dsk × Lg × Nat :=
  if (doD D 0 (nameF fi) b 0).2 ≠ 0 then ((doD D 0 (nameF fi) b 0).1, ⟨l.c, fi, lo, (doD D 0 (nameF fi) b 0).2⟩, (doD D 0 (nameF fi) b 0).2) else
  if (doD (doD D 0 (nameF fi) b 0).1 1 (nameF fi) [] 0).2 ≠ 0 then ((doD (doD D 0 (nameF fi) b 0).1 1 (nameF fi) [] 0).1, ⟨l.c, fi, lo, (doD (doD D 0 (nameF fi) b 0).1 1 (nameF fi) [] 0).2⟩, (doD (doD D 0 (nameF fi) b 0).1 1 (nameF fi) [] 0).2)
  else ((doD (doD D 0 (nameF fi) b 0).1 1 (nameF fi) [] 0).1, ⟨{ c' with term := t, vote := v }, fi, lo, 0⟩, 0)
theorem saveL_w (h : l.bad = 0) {c' : Cn} (hp : putsA l.c es = some c') {T V : Nat} (hl : ¬ es.any (fun e => decide (65536 < e.d.length)) = true) {b : List UInt8} (hb : saveB l.c T V (es.map EA.en) = b) (hne : b ≠ []) {fi lo : Nat} (hfi : (if 1024 ≤ l.long then l.file + 1 else l.file) = fi) (hlo : (if 1024 ≤ l.long then 0 else l.long) + b.length = lo) :
    saveL D l ((T : Nat) : Int) ((V : Nat) : Int) es = saveW D l c' T V fi lo b := by
  unfold saveL
  rw [if_neg (fun x => x h), hp]
  simp only
  rw [if_neg (by omega), if_neg hl, Int.toNat_natCast, Int.toNat_natCast, hb, if_neg hne, hfi, hlo]
  rfl
theorem saveW_1 {c' : Cn} {t v fi lo : Nat} {b : List UInt8} {R : Dsk × Nat} (hr : doD D 0 (nameF fi) b 0 = R) (h : R.2 ≠ 0) : saveW D l c' t v fi lo b = (R.1, ⟨l.c, fi, lo, R.2⟩, R.2) := by unfold saveW; rw [hr, if_pos h]
theorem saveW_2 {c' : Cn} {t v fi lo : Nat} {b : List UInt8} {R S : Dsk × Nat} (hr : doD D 0 (nameF fi) b 0 = R) (h : R.2 = 0) (hs : doD R.1 1 (nameF fi) [] 0 = S) (h2 : S.2 ≠ 0) : saveW D l c' t v fi lo b = (S.1, ⟨l.c, fi, lo, S.2⟩, S.2) := by unfold saveW; rw [hr, if_neg (fun x => x h), hs, if_pos h2]
theorem saveW_3 {c' : Cn} {t v fi lo : Nat} {b : List UInt8} {R S : Dsk × Nat} (hr : doD D 0 (nameF fi) b 0 = R) (h : R.2 = 0) (hs : doD R.1 1 (nameF fi) [] 0 = S) (h2 : S.2 = 0) : saveW D l c' t v fi lo b = (S.1, ⟨{ c' with term := t, vote := v }, fi, lo, 0⟩, 0) := by unfold saveW; rw [hr, if_neg (fun x => x h), hs, if_neg (fun x => x h2)]
end
theorem save_fin {g db mb ab : Nat} {l : Lg} {ve ve2 : Value} {pl pl2 : Pl} {D : Dsk} {pe pe2 : List PE} {R S : Dsk × Lg × Nat} {w w' : World} {e : Nat} {es2 : EQ} (h : R = S) (he : S.2.2 = e) (hR : Rep pe2 S.1.fs) (hL : CnR pl2 S.2.1.c es2 ve2)
    (hT : Turn w w' [lgO g db l.c ve ((l.file : Nat) : Int) ((l.long : Nat) : Int) (errV l.bad), plO pl, .grp (dskO db mb ab D pe)] [lgO g db S.2.1.c ve2 ((S.2.1.file : Nat) : Int) ((S.2.1.long : Nat) : Int) (errV S.2.1.bad), plO pl2, .grp (dskO db mb ab S.1 pe2)]) :
    SavePost g db mb ab l ve pl D pe R w (errV e) w' := by
  subst h he
  exact ⟨pe2, es2, ve2, pl2, rfl, ⟨hR, hL⟩, hT⟩
abbrev enQ (qs : EI) : EQ := qs.map fun q => (q.1.en, q.2)
theorem frames_ei {c : Zone} {vx : Value} {qs : EI} (hE : Row c vx 4 qs.length (rowC eiC qs)) (hp : ∀ q ∈ qs, 0 ≤ q.1.tm ∧ 0 ≤ q.1.kd ∧ 0 ≤ q.1.ix) : Row c vx 4 (enQ qs).length (rowC enC (enQ qs)) := by
  rw [List.length_map]
  have : rowC enC (enQ qs) = rowC eiC qs := by
    unfold rowC
    rw [List.map_map]
    congr 1
    refine List.map_congr_left fun q hq => ?_
    obtain ⟨h1, h2, h3⟩ := hp q hq
    simp only [Function.comp_apply, enC, eiC, EA.en]
    rw [Int.toNat_of_nonneg h1, Int.toNat_of_nonneg h2, Int.toNat_of_nonneg h3]
  rw [this]; exact hE
theorem ei_ok {c : Zone} {qs : EI} (hD : ∀ q ∈ qs, RB c q.2 q.1.d) (hok : ∀ q ∈ qs, EAok q.1) : ∀ q ∈ (enQ qs), EnOk c q := by
  intro q hq
  obtain ⟨x, hx, rfl⟩ := List.mem_map.1 hq
  obtain ⟨h1, h2, h3⟩ := hok x hx
  refine ⟨hD x hx, ?_, ?_, ?_⟩ <;> simp only [EA.en] <;> omega
theorem ei_en (qs : EI) : enB (enQ qs) = recsB (((qs.map (·.1)).map EA.en).map enR) := by
  unfold enB
  rw [List.map_map, List.map_map, List.map_map]; rfl
theorem puts_at {qs : EI} {c c' : Cn} (h : putsA c (qs.map (·.1)) = some c') : ∀ q ∈ qs, 0 ≤ q.1.tm ∧ 0 ≤ q.1.kd ∧ 0 ≤ q.1.ix := fun q hq => puts_ok h q.1 (List.mem_map.2 ⟨q, hq, rfl⟩)

theorem put_args {ix tm kd : Int} {d : List UInt8} (h1 : 0 ≤ ix) (h2 : 0 ≤ tm) (h3 : 0 ≤ kd) {vd : Value} : (Value.agg #[.int .i64 (((EA.en ⟨ix, tm, kd, d⟩).ix : Nat) : Int), .int .i64 (((EA.en ⟨ix, tm, kd, d⟩).tm : Nat) : Int), .int .i64 (((EA.en ⟨ix, tm, kd, d⟩).kd : Nat) : Int), vd]) = .agg #[.int .i64 ix, .int .i64 tm, .int .i64 kd, vd] := by
  simp only [EA.en]
  rw [Int.toNat_of_nonneg h1, Int.toNat_of_nonneg h2, Int.toNat_of_nonneg h3]
theorem PutA_ct (g : Nat) (te vo : Int) (c : Cn) (ve vd : Value) (es : EQ) (e : EA) (pl : Pl) (w : World) (hM : Mine w [cnO g te vo c ve, plO pl]) (hL : CnR pl c es ve) (hd : RB (off w (blksOf [cnO g te vo c ve, plO pl])) vd e.d)
    (hl : es.length ≤ 1000000) (hcx : c.ix + es.length < 9223372036854775808) (ho : EAok e) (htm : 0 ≤ e.tm) (hkd : 0 ≤ e.kd) (hdl : e.d.length ≤ 1048576) :
    Fun Tryz.prog 48 [.pointer (some ⟨g, 0, none⟩), .agg #[.int .i64 e.ix, .int .i64 e.tm, .int .i64 e.kd, vd]] w fun v w' =>
      ∃ bb o2, v = .bool bb ∧ (((if e.tm < 0 ∨ e.kd < 0 ∨ e.ix ≤ c.ix then none else putC c e.en) = none ∧ bb = false ∧ o2 = [cnO g te vo c ve, plO pl]) ∨ (∃ c2 es2 ve2 pl2, putC c e.en = some c2 ∧ bb = true ∧ ¬ (e.tm < 0 ∨ e.kd < 0 ∨ e.ix ≤ c.ix) ∧ CnR pl2 c2 es2 ve2 ∧ (pz pl).le (pz pl2) ∧ o2 = [cnO g te vo c2 ve2, plO pl2])) ∧ Turn w w' [cnO g te vo c ve, plO pl] [.grp o2] := by
  obtain ⟨ix, tm, kd, d⟩ := e
  obtain ⟨h1, h2, h3⟩ := ho
  simp only at hd htm hkd hdl h1 h2 h3 ⊢
  by_cases hn : ix < 0
  · have hcell : w.cell? ⟨g, 2, none⟩ = some (.int .i64 ((c.ix : Nat) : Int)) := Hp.blk_cell (Hp.start_mine hM) 0 rfl rfl
    obtain ⟨A, cap, e, _, _⟩ := hd.row.form
    refine (PutNeg_ct g c.ix ix tm kd vd w hcell hn ⟨A, _, cap, e⟩).mono ?_
    rintro v w' ⟨rfl, hF⟩
    refine ⟨false, _, rfl, .inl ⟨by rw [if_pos (by omega)], rfl, rfl⟩, ?_⟩
    have h4 := (Hp.start_mine hM).call hF
    rw [List.append_nil] at h4
    exact Hp.close (r := []) (by rw [List.append_nil]; exact h4.turned)
  · have h9 := PutP0_ct g te vo c ve vd es (EA.en ⟨ix, tm, kd, d⟩) pl w hM hL hd hl hcx (by simp only [EA.en]; omega) (by simp only [EA.en]; omega) (by simp only [EA.en]; omega) hdl
    rw [put_args (by omega) htm hkd] at h9
    refine h9.mono ?_
    rintro v w' (⟨h4, rfl, h5⟩ | ⟨c2, es2, ve2, pl2, h4, rfl, h5, h6, h7⟩)
    · refine ⟨false, _, rfl, .inl ⟨by split <;> first | rfl | exact h4, rfl, rfl⟩, Hp.close (r := []) (by rw [List.append_nil]; exact h5)⟩
    · have e2 : cnO g te vo c ve2 = cnO g te vo c2 ve2 := by obtain ⟨_, _, rfl⟩ := putC_some h4; rfl
      have hgt := (putC_some h4).1
      simp only [EA.en] at hgt
      exact ⟨true, _, rfl, .inr ⟨c2, es2, ve2, pl2, h4, rfl, by omega, h5, h6, rfl⟩, Hp.close (r := []) (by rw [List.append_nil, ← e2]; exact h7)⟩
theorem do_back2 {w0 w : World} {z : Zone} {F : List Nat} {o : List Own} {r : List Own} {a b : Own} (e : o = [a, b]) (h : Hp w0 w z F (.grp o :: r)) : Hp w0 w z F (a :: b :: r) := by
  subst e
  exact h.open_

theorem en_mono {c c' : Zone} {q : En × Value} (h : EnOk c q) (hl : c.le c') : EnOk c' q := ⟨h.d.mono hl, h.ix, h.tm, h.kd⟩

theorem Save19_ct (g db mb ab : Nat) (l : Lg) (t v : Int) (ve vx : Value) (es : EQ) (qs : EI) (pl : Pl) (D : Dsk) (pe : List PE) (M : Nat) (w : World) (hM : Mine w [lgO g db l.c ve ((l.file : Nat) : Int) ((l.long : Nat) : Int) (errV l.bad), plO pl, .grp (dskO db mb ab D pe)]) (hL : CnR pl l.c es ve) (hE : Row (off w (blksOf [lgO g db l.c ve ((l.file : Nat) : Int) ((l.long : Nat) : Int) (errV l.bad), plO pl, .grp (dskO db mb ab D pe)])) vx 4 qs.length (rowC eiC qs)) (hD : ∀ q ∈ qs, RB (off w (blksOf [lgO g db l.c ve ((l.file : Nat) : Int) ((l.long : Nat) : Int) (errV l.bad), plO pl, .grp (dskO db mb ab D pe)])) q.2 q.1.d) (hok : ∀ q ∈ qs, EAok q.1) (hdl : ∀ q ∈ qs, q.1.d.length ≤ 1048576) (hcx : l.c.ix + l.c.es.length < 9223372036854775808) (hn : l.c.es.length + qs.length ≤ 1000000) (ht : t ≤ 9223372036854775807) (hv : v ≤ 9223372036854775807) (hbig : ∀ T V : Nat, T < 9223372036854775808 → V < 9223372036854775808 → (saveB l.c T V ((qs.map (·.1)).map EA.en)).length ≤ 1073741824)
    (hR : Rep pe D.fs) (hA : ArOk D.ar) (hG : Good D.fs M) (hMM : M ≤ 2147483648) (hfl : l.file < 4294967296) (hlg : l.long ≤ 4294967296) (hTf : ∀ k, k ≤ l.file + 1 → KOk w (blksOf [lgO g db l.c ve ((l.file : Nat) : Int) ((l.long : Nat) : Int) (errV l.bad), plO pl, .grp (dskO db mb ab D pe)]) k) :
    Fun Tryz.prog 15 [.pointer (some ⟨g, 0, none⟩), .int .i64 t, .int .i64 v, vx] w fun r w' => SavePost g db mb ab l ve pl D pe (saveL D l t v (qs.map (·.1))) w r w' := by
 obtain ⟨Ae, ce, rfl, he1, he2⟩ := hL.row.form
 obtain ⟨Ax, cxx, rfl, hx1, hx2⟩ := hE.form
 have hll := hL.len
 refine fun_of_sw Tryz.func15 rfl 157 rfl rfl ?_
 have hH := Hp.start_mine hM
 refine sw_sr <| Go0 1 <| Dn <| sw_seq <| sw_sr <| Go1 3 15 (Pp g 8) <| Gq rfl (Lk 0 hH rfl rfl rfl) <| Gq rfl (rd_err_ne (by kernel_rfl) rfl) <| Dn <| If rfl (fun hc1 => ?_) (fun hc1 => ?_)
 have hb0 : l.bad ≠ 0 := by simpa using hc1
 refine sw_sr <| Go1 3 20 (Pp g 8) <| Gq rfl (Lk 0 hH rfl rfl rfl) <| Go1 1 8 (errV l.bad) <| Dn <| Rt1 rfl rfl ?_
 replace hH := (hH.sb (slk (slk (slk sln)))).n3
 exact save_fin (saveL_badL hb0) rfl hR (hL) hH.turned
 have hb0 : l.bad = 0 := by simpa using hc1
 refine Sk <| sw_sr <| Go1 3 24 (Pp g 1) <| Gq rfl (La 0 [Ni l.c.term, Ni l.c.vote, Ni l.c.ix, Ni l.c.ah, .slice Ae es.length ce] hH rfl rfl) <| gl_st (Alc [.int .i64 0, .int .i64 0, .int .i64 0, .int .i64 0, .slice none 0 0] rfl hH ?_)
 clear hH; intro b1 w2 hH
 refine gl_st (Ka 3 [Ni l.c.term, Ni l.c.vote, Ni l.c.ix, Ni l.c.ah, .slice Ae es.length ce] [Ni l.c.term, Ni l.c.vote, Ni l.c.ix, Ni l.c.ah, .slice Ae es.length ce] rfl hH rfl rfl ?_)
 clear hH; intro w3 hH
 refine Dn <| sw_sr <| Go3 3 26 (.int .i64 t) 27 (.int .i64 v) 28 (Pp b1 0) <| gl_st (Ks 3 (.int .i64 t) rfl hH rfl rfl ?_)
 clear hH; intro w4 hH
 refine Go1 1 29 (Pp b1 1) <| gl_st (Ks 3 (.int .i64 v) rfl hH rfl rfl ?_)
 clear hH; intro w5 hH
 refine Dn <| sw_seq <| sw_sr <| Go1 1 30 (.slice Ax qs.length cxx) <| Gq rfl (Ln (e := 64) rfl) <| Go1 1 32 (.int .i64 0) <| Dn <| sw_block ?_
 replace hH := (hH.sb (slk (slk (slk (slk sln)))))
 replace hH := hH.fr3.fr3.fr3.fr4
 replace hH : Hp w w5 _ _ [.blk b1 94 [.int .i64 t, .int .i64 v, Ni l.c.ix, Ni l.c.ah, .slice Ae es.length ce], .blk g 96 [Pp db 0, Ni l.c.term, Ni l.c.vote, Ni l.c.ix, Ni l.c.ah, .slice Ae es.length ce, Ni l.file, Ni l.long, errV l.bad], plO pl, .grp (dskO db mb ab D pe)] := hH
 refine Lp (γ := Nat × Cn × EQ × Option Addr × Nat × Pl) hH (fun (i, cx, es2, A2, c2, p2) => [(0, Pp g 0), (1, .int .i64 t), (2, .int .i64 v), (3, .slice Ax qs.length cxx), (9, Pp b1 0), (30, .slice Ax qs.length cxx), (31, Ni qs.length), (32, Ni i)]) (fun (i, cx, es2, A2, c2, p2) w_ H_ => (i ≤ qs.length) ∧ (putsA l.c ((qs.map (·.1)).take i) = some cx) ∧ (CnR p2 cx es2 (.slice A2 es2.length c2)) ∧ ((pz pl).le (pz p2)) ∧ (cx.ix + cx.es.length < 9223372036854775808) ∧ H_ [.blk b1 94 [.int .i64 t, .int .i64 v, Ni cx.ix, Ni cx.ah, .slice A2 es2.length c2], .blk g 96 [Pp db 0, Ni l.c.term, Ni l.c.vote, Ni l.c.ix, Ni l.c.ah, .slice Ae es.length ce, Ni l.file, Ni l.long, errV l.bad], plO p2, .grp (dskO db mb ab D pe)]) (fun (i, cx, es2, A2, c2, p2) => qs.length - i) (0, l.c, es, Ae, ce, pl) ?_ ?_
 · exact ⟨by omega, rfl, hL, Zone.le.refl _, hcx, hH⟩
 clear hH
 rintro ⟨i, cx, es2, A2, c2, p2⟩ w6 ⟨hi, hpu, hL2, hle, hcx2, hH⟩
 refine swk [(0, Pp g 0), (1, .int .i64 t), (2, .int .i64 v), (3, .slice Ax qs.length cxx), (9, Pp b1 0), (30, .slice Ax qs.length cxx), (31, Ni qs.length), (32, Ni i)] <| sw_sr <| Go1 1 33 (.bool (decide ((i : Int) < ((qs.length : Nat) : Int)))) <| Dn <| sw_seq <| If rfl (fun hc2 => ?_) (fun hc2 => ?_)
 refine Sk <| sw_seq <| sw_block ?_
 obtain ⟨⟨⟨ix, tm, kd, dq⟩, vq⟩, hq⟩ : ∃ x, qs[i]? = some x := ⟨_, List.getElem?_eq_getElem (by omega)⟩
 have kq : RB (off w (blksOf [lgO g db l.c (.slice Ae es.length ce) ((l.file : Nat) : Int) ((l.long : Nat) : Int) (errV l.bad), plO pl, .grp (dskO db mb ab D pe)])) vq dq := hD _ (List.mem_of_getElem? hq)
 obtain ⟨Ad, cd, rfl, _, _⟩ := kq.row.form
 have hq1 : (qs.map (·.1))[i]? = some ⟨ix, tm, kd, dq⟩ := by rw [List.getElem?_map, hq]; rfl
 obtain ⟨ho1, ho2, ho3⟩ := hok _ (List.mem_of_getElem? hq)
 have hdq := hdl _ (List.mem_of_getElem? hq)
 simp only at ho1 ho2 ho3 hdq
 obtain ⟨hpx, hpa, hpn⟩ := putsA_len hpu
 rw [List.length_take, List.length_map] at hpn
 refine sw_sr ?_
 obtain ⟨p7, hi9, hp8⟩ := hE.idx i (by omega) (by decide)
 refine Gq rfl (Ix (e := 64) 4 rfl rfl hi9) <| Gq rfl (rd_loadZA (by kernel_rfl) hH hp8 rfl 0 rfl [.int .i64 ix, .int .i64 tm, .int .i64 kd, .slice Ad dq.length cd] (by kernel_rfl) (rowC_all eiC_len hq 0 _ rfl)) <| gl_st (Alc [.int .i64 0, .int .i64 0, .int .i64 0, .slice none 0 0] rfl hH ?_)
 clear hH; intro b10 w11 hH
 refine gl_st (Ka 4 [.int .i64 ix, .int .i64 tm, .int .i64 kd, .slice Ad dq.length cd] [.int .i64 ix, .int .i64 tm, .int .i64 kd, .slice Ad dq.length cd] rfl hH rfl rfl ?_)
 clear hH; intro w12 hH
 refine Dn <| sw_sr <| Go1 1 36 (Pp b10 1) <| Gq rfl (Lk 4 hH rfl rfl rfl) <| Go1 2 39 (.bool (decide ((tm : Int) < (0 : Int)))) <| Gi 39 rfl (fun hg3 => ?_) (fun hg3 => ?_)
 have hnone := putsA_none hq1 hpu (if_pos (.inl (by simp only; omega)))
 refine Go1 9 48 (.bool true) <| Dn <| It <| sw_sr <| Go1 2 8 (.iface 38 (.int .i64 1)) <| Dn <| Rt1 rfl rfl ?_
 replace hH := hH.fr4.fr4.fr4
 replace hH := (hH.sb (slk (slk (slk sln)))).n3
 exact save_fin (saveL_none hb0 hnone) rfl hR (hL.mono hle) hH.turned
 refine Go1 1 40 (Pp b10 2) <| Gq rfl (Lk 4 hH rfl rfl rfl) <| Go1 3 44 (.bool (decide ((kd : Int) < (0 : Int)))) <| Gi 44 rfl (fun hg5 => ?_) (fun hg5 => ?_)
 have hnone := putsA_none hq1 hpu (if_pos (.inr (.inl (by simp only; omega))))
 refine Go1 4 48 (.bool true) <| Dn <| It <| sw_sr <| Go1 2 8 (.iface 38 (.int .i64 1)) <| Dn <| Rt1 rfl rfl ?_
 replace hH := hH.fr4.fr4.fr4
 replace hH := (hH.sb (slk (slk (slk sln)))).n3
 exact save_fin (saveL_none hb0 hnone) rfl hR (hL.mono hle) hH.turned
 refine Gq rfl (La 4 [.int .i64 ix, .int .i64 tm, .int .i64 kd, .slice Ad dq.length cd] hH rfl rfl) ?_
 replace hH : Hp w w12 _ _ ([_, _] ++ [_, _, _]) := hH.fr3.fr2
 refine gl_st (Sc rfl rfl (PutA_ct b1 t v cx _ _ es2 ⟨ix, tm, kd, dq⟩ p2 _ hH.mine hL2 (kq.mono hH.zoff) (by have := hL2.len; omega) (by have := hL2.len; omega) ⟨ho1, ho2, ho3⟩ (by simp only; omega) (by simp only; omega) hdq) ?_)
 rintro _ w13 ⟨bb, o2, rfl, hor, hF14⟩
 replace hH := hH.turns hF14
 replace hH := hH.n4
 refine Go1 2 48 (.bool (!bb)) <| Dn <| If rfl (fun hc7 => ?_) (fun hc7 => ?_)
 have hbb : bb = false := by simpa using hc7
 obtain ⟨hp3, _, ho9⟩ := hor.resolve_right (fun h => by obtain ⟨_, _, _, _, _, h2, _⟩ := h; rw [h2] at hbb; cases hbb)
 replace hH := hH.fr4
 replace hH := do_back2 ho9 hH
 replace hH : Hp w w13 _ _ [.blk b1 94 [.int .i64 t, .int .i64 v, Ni cx.ix, Ni cx.ah, .slice A2 es2.length c2], plO p2, .blk g 96 [Pp db 0, Ni l.c.term, Ni l.c.vote, Ni l.c.ix, Ni l.c.ah, .slice Ae es.length ce, Ni l.file, Ni l.long, errV l.bad], .grp (dskO db mb ab D pe), .blk b10 64 [.int .i64 ix, .int .i64 tm, .int .i64 kd, .slice Ad dq.length cd]] := hH
 have hnone := putsA_none hq1 hpu hp3
 refine sw_sr <| Go1 2 8 (.iface 38 (.int .i64 1)) <| Dn <| Rt1 rfl rfl ?_
 replace hH := hH.fr4.fr3.fr4
 replace hH := (hH.sb (slk (slk (slk sln)))).n3
 exact save_fin (saveL_none hb0 hnone) rfl hR (hL.mono hle) hH.turned
 have hbb : bb = true := by simpa using hc7
 obtain ⟨c3, es3, ve3, pl3, hp3, _, hnp, hL3, hle3, ho9⟩ := hor.resolve_left (fun h => by rw [h.2.1] at hbb; cases hbb)
 replace hH := hH.fr4
 obtain ⟨A3, ce3, rfl, _, _⟩ := hL3.row.form
 replace hH := do_back2 ho9 hH
 replace hH : Hp w w13 _ _ [.blk b1 94 [.int .i64 t, .int .i64 v, Ni c3.ix, Ni c3.ah, .slice A3 es3.length ce3], plO pl3, .blk g 96 [Pp db 0, Ni l.c.term, Ni l.c.vote, Ni l.c.ix, Ni l.c.ah, .slice Ae es.length ce, Ni l.file, Ni l.long, errV l.bad], .grp (dskO db mb ab D pe), .blk b10 64 [.int .i64 ix, .int .i64 tm, .int .i64 kd, .slice Ad dq.length cd]] := hH
 refine sw_skip <| bkN <| sw_next <| sw_region <| Gw0 1 50 ((i : Int) + 1) ((i + 1 : Nat) : Int) <| Go1 1 32 (Ni (i + 1)) <| Dd <| rnd_end (g := (i, cx, es2, A2, c2, p2)) (i + 1, c3, es3, A3, ce3, pl3) (by kernel_rfl) ?_ ?_
 replace hH := hH.fr4.fr3.fr4.fr4
 replace hH := (hH.sb (slk (slk (slk (slk sln))))).n4
 · exact ⟨by omega, putsA_next hq1 hpu hnp hp3, hL3, hle.trans hle3, putC_hx hp3 (by simp only [EA.en]; omega), hH⟩
 · show qs.length - (i + 1) < qs.length - i; omega
 refine sw_exit <| thX <| thX <| bkH <| sw_next <| sw_seq ?_
 have hie : (qs.map (·.1)).length ≤ i := by rw [List.length_map]; omega
 rw [List.take_of_length_le hie] at hpu
 have hpall := hpu
 have hpos := puts_at hpall
 obtain ⟨hpx, hpa, hpn⟩ := putsA_len hpall
 rw [List.length_map] at hpn
 refine sw_sr <| Go1 3 53 (.bool (decide ((t : Int) < (0 : Int)))) <| Gi 53 rfl (fun hg8 => ?_) (fun hg8 => ?_)
 have hneg : t < 0 ∨ v < 0 := .inl (by omega)
 refine Go1 3 56 (.bool true) <| Dn <| It <| sw_sr <| Go1 2 8 (.iface 38 (.int .i64 1)) <| Dn <| Rt1 rfl rfl ?_
 replace hH := hH.fr4.fr4.fr4
 replace hH := (hH.sb (slk (slk (slk sln)))).n3
 exact save_fin (saveL_neg hb0 hpall hneg) rfl hR (hL.mono hle) hH.turned
 refine Go1 3 56 (.bool (decide ((v : Int) < (0 : Int)))) <| Dn <| If rfl (fun hc10 => ?_) (fun hc10 => ?_)
 have hneg : t < 0 ∨ v < 0 := by omega
 refine sw_sr <| Go1 2 8 (.iface 38 (.int .i64 1)) <| Dn <| Rt1 rfl rfl ?_
 replace hH := hH.fr4.fr4.fr4
 replace hH := (hH.sb (slk (slk (slk sln)))).n3
 exact save_fin (saveL_neg hb0 hpall hneg) rfl hR (hL.mono hle) hH.turned
 have hneg : ¬ (t < 0 ∨ v < 0) := by omega
 refine Sk <| sw_seq <| sw_sr <| Go1 1 58 (.slice Ax qs.length cxx) <| gl_st (Sc rfl rfl (Contains_ct _ qs _ (hE.mono hH.zin) (fun q hq => (hD q hq).mono hH.zin) (by omega)) ?_)
 rintro _ w15 ⟨rfl, hF16⟩
 replace hH := hH.call hF16
 refine Dn <| If rfl (fun hc11 => ?_) (fun hc11 => ?_)
 have hlong := hc11
 refine sw_sr <| Go1 2 8 (.iface 38 (.int .i64 2)) <| Dn <| Rt1 rfl rfl ?_
 replace hH := hH.fr4.fr4.fr4
 replace hH := (hH.sb (slk (slk (slk sln)))).n3
 exact save_fin (saveL_long hb0 hpall hneg hlong) rfl hR (hL.mono hle) hH.turned
 have hlong : ¬ (qs.map (·.1)).any (fun e => decide (65536 < e.d.length)) = true := by rw [hc11]; simp
 refine Sk <| sw_sr <| Go1 1 12 (.slice none 0 0) <| Dn ?_
 obtain ⟨T, rfl⟩ : ∃ T : Nat, t = T := ⟨t.toNat, by omega⟩
 obtain ⟨V, rfl⟩ : ∃ V : Nat, v = V := ⟨v.toNat, by omega⟩
 replace hH := hH.nilRow 5 1
 have hfe := frames_ei hE hpos
 have hfo := ei_ok hD hok
 refine Cu (γ := List UInt8 × Option Addr × Nat) hH (fun (b0, A0, c0) => [(0, Pp g 0), (3, .slice Ax qs.length cxx), (9, Pp b1 0), (12, .slice A0 b0.length c0)]) (fun (b0, A0, c0) w_ H_ => (b0 ++ enB (enQ qs) = (saveB l.c T V ((qs.map (·.1)).map EA.en))) ∧ H_ [.row (.slice A0 b0.length c0) 5 1 b0.length (bv b0), .blk b1 94 [Ni T, Ni V, Ni cx.ix, Ni cx.ah, .slice A2 es2.length c2], .blk g 96 [Pp db 0, Ni l.c.term, Ni l.c.vote, Ni l.c.ix, Ni l.c.ah, .slice Ae es.length ce, Ni l.file, Ni l.long, errV l.bad], plO p2, .grp (dskO db mb ab D pe)]) ?_ ?_
 ·
  refine Cu (γ := Bool) hH (fun ch => [(0, Pp g 0), (1, Ni T), (2, Ni V), (3, .slice Ax qs.length cxx), (9, Pp b1 0), (12, .slice none 0 0), (76, .bool ch)]) (fun ch w_ H_ => (ch = true ↔ (T ≠ l.c.term ∨ V ≠ l.c.vote)) ∧ H_ [.blk b1 94 [Ni T, Ni V, Ni cx.ix, Ni cx.ah, .slice A2 es2.length c2], .blk g 96 [Pp db 0, Ni l.c.term, Ni l.c.vote, Ni l.c.ix, Ni l.c.ah, .slice Ae es.length ce, Ni l.file, Ni l.long, errV l.bad], plO p2, .grp (dskO db mb ab D pe), .row (.slice none 0 0) 5 1 0 []]) ?_ ?_
  ·
   refine sw_region <| Go4 5 1 (Ni T) 2 (Ni V) 61 (Ni T) 65 (Pp g 1) <| Gq rfl (Lk 1 hH rfl rfl rfl) <| Go1 2 68 (.bool ((T : Int) != ((l.c.term : Nat) : Int))) <| Gi 68 rfl (fun hg12 => ?_) (fun hg12 => ?_)
   refine Go1 8 76 (.bool true) <| Dd <| Ce (true) ?_
   exact ⟨by first | exact ⟨fun _ => .inl (by omega), fun _ => rfl⟩ | (rw [bne_iff_ne]; omega), (hH.sb (slk (slk (slk (slk (slk sln))))))⟩
   refine Go2 5 69 (Ni V) 73 (Pp g 2) <| Gq rfl (Lk 1 hH rfl rfl rfl) <| Go1 2 76 (.bool ((V : Int) != ((l.c.vote : Nat) : Int))) <| Dd <| Ce ((V : Int) != ((l.c.vote : Nat) : Int)) ?_
   exact ⟨by first | exact ⟨fun _ => .inl (by omega), fun _ => rfl⟩ | (rw [bne_iff_ne]; omega), (hH.sb (slk (slk (slk (slk (slk sln))))))⟩
  clear hH
  rintro ch w17 ⟨hch0, hH⟩
  refine swk [(0, Pp g 0), (1, Ni T), (2, Ni V), (3, .slice Ax qs.length cxx), (9, Pp b1 0), (12, .slice none 0 0), (76, .bool ch)] <| If rfl (fun hc13 => ?_) (fun hc13 => ?_)
  have hch := hc13
  refine sw_region <| Go1 3 79 (.agg #[.int .i64 1, Ni T, Ni V, .int .i64 0, .slice none 0 0]) <| gl_st (Sc rfl rfl (RecFrame_ct 1 T V 0 _ [] _ (RB.nil _) (by omega) (by omega) (by omega) (by omega)) ?_)
  rintro _ w20 ⟨v18, rfl, hF21⟩
  replace hH := hH.call hF21
  obtain ⟨A22, c23, rfl, hl24, hm25⟩ := hH.row_form 5 rfl
  refine Go1 1 12 (.slice A22 ((recB ⟨1, T, V, 0, []⟩).length) c23) <| Dd <| Ce (recB ⟨1, T, V, 0, []⟩, A22, c23) ?_
  replace hH := hH.fr4.fr4.fr4.fr4.fr6
  replace hH := (hH.sb (slk (slk (slk (slk (slk sln)))))).n5
  exact ⟨by rw [ei_en]; unfold saveB; rw [if_pos (hch0.1 hch)] <;> rfl, hH⟩
  have hch := hc13
  refine sw_skip <| Ce ([], none, 0) ?_
  replace hH := hH.fr4.fr4.fr4.fr4.fr5
  replace hH := (hH.sb (slk (slk (slk (slk (slk sln)))))).n5
  exact ⟨by rw [ei_en]; unfold saveB; rw [if_neg (fun h => by have := hch0.2 h; rw [hch] at this; cases this)] <;> rfl, hH.cast rfl⟩
 clear hH
 rintro ⟨b0, A0, c0⟩ w26 ⟨hsb, hH⟩
 refine swk [(0, Pp g 0), (3, .slice Ax qs.length cxx), (9, Pp b1 0), (12, .slice A0 b0.length c0)] <| sw_seq <| sw_sr ?_
 have hbl : (b0 ++ enB (enQ qs)).length ≤ 1073741824 := by rw [hsb]; exact hbig _ _ (by omega) (by omega)
 rw [List.length_append] at hbl
 refine Go2 2 81 (.slice A0 b0.length c0) 82 (.slice Ax qs.length cxx) ?_
 replace hH : Hp w w26 _ _ ([_] ++ [_, _, _, _]) := hH
 refine gl_st (Sc rfl rfl (Frames_ct _ _ b0 (enQ qs) _ hH.mine (hfe.mono hH.zoff) (fun q hq => en_mono (hfo q hq) hH.zoff) (by omega) (by rw [List.length_map]; omega)) ?_)
 rintro _ w27 ⟨vb, rfl, hF28⟩
 replace hH := hH.turns hF28
 replace hH := hH.n5
 rw [hsb] at hH
 obtain ⟨A29, c30, rfl, hl31, hm32⟩ := hH.row_form 4 rfl
 refine Go1 1 12 (.slice A29 ((saveB l.c T V ((qs.map (·.1)).map EA.en)).length) c30) <| Dn <| sw_sr <| Go1 1 84 (.slice A29 ((saveB l.c T V ((qs.map (·.1)).map EA.en)).length) c30) <| Gq rfl (Ln (e := 5) rfl) <| Go1 1 86 (.bool ((((saveB l.c T V ((qs.map (·.1)).map EA.en)).length : Nat) : Int) == (0 : Int))) <| Dn <| If rfl (fun hc14 => ?_) (fun hc14 => ?_)
 have hbn : saveB l.c (T : Int).toNat (V : Int).toNat ((qs.map (·.1)).map EA.en) = [] := List.eq_nil_of_length_eq_zero (by rw [Int.toNat_natCast, Int.toNat_natCast]; omega)
 refine sw_sr <| Go1 1 8 (.nilIface) <| Dn <| Rt1 rfl rfl ?_
 replace hH := hH.fr4.fr4.fr4
 replace hH := (hH.sb (slk (slk (slk sln)))).n3
 exact save_fin (saveL_nil hb0 hpall hneg hlong hbn) rfl hR (hL.mono hle) hH.turned
 have hbn : (saveB l.c T V ((qs.map (·.1)).map EA.en)) ≠ [] := fun h => by have := congrArg List.length h; simp only [List.length_nil] at this; omega
 have hbz := hbig T V (by omega) (by omega)
 refine Sk ?_
 replace hH := hH.fr5.fr5.fr5.fr4.fr5
 refine Cu (γ := Nat × Nat) hH (fun (fi, lo) => [(0, Pp g 0), (9, Pp b1 0), (12, .slice A29 ((saveB l.c T V ((qs.map (·.1)).map EA.en)).length) c30)]) (fun (fi, lo) w_ H_ => ((if 1024 ≤ l.long then l.file + 1 else l.file) = fi) ∧ ((if 1024 ≤ l.long then 0 else l.long) = lo) ∧ H_ [.blk g 96 [Pp db 0, Ni l.c.term, Ni l.c.vote, Ni l.c.ix, Ni l.c.ah, .slice Ae es.length ce, Ni fi, Ni lo, errV l.bad], .blk b1 94 [Ni T, Ni V, Ni cx.ix, Ni cx.ah, .slice A2 es2.length c2], plO p2, .grp (dskO db mb ab D pe), .row (.slice A29 ((saveB l.c T V ((qs.map (·.1)).map EA.en)).length) c30) 5 1 ((saveB l.c T V ((qs.map (·.1)).map EA.en)).length) (bv (saveB l.c T V ((qs.map (·.1)).map EA.en)))]) ?_ ?_
 ·
  refine sw_sr <| Go1 3 89 (Pp g 7) <| Gq rfl (Lk 0 hH rfl rfl rfl) <| Go1 1 91 (.bool (decide (((l.long : Nat) : Int) ≥ (1024 : Int)))) <| Dn <| If rfl (fun hc15 => ?_) (fun hc15 => ?_)
  refine sw_region <| Go3 5 92 (Pp g 0) 93 (Pp g 0) 96 (Pp g 6) <| Gq rfl (Lk 0 hH rfl rfl rfl) <| Gw0 1 98 (((l.file : Nat) : Int) + 1) ((l.file + 1 : Nat) : Int) <| Go1 2 100 (Pp g 6) <| gl_st (Ks 0 (Ni (l.file + 1)) rfl hH rfl rfl ?_)
  clear hH; intro w33 hH
  refine Go1 2 102 (Pp g 7) <| gl_st (Ks 0 (.int .i64 0) rfl hH rfl rfl ?_)
  clear hH; intro w34 hH
  refine Dd <| Ce (l.file + 1, 0) ?_
  exact ⟨if_pos (by omega), if_pos (by omega), hH⟩
  refine sw_skip <| Ce (l.file, l.long) ?_
  exact ⟨if_neg (by omega), if_neg (by omega), hH⟩
 clear hH
 rintro ⟨fi, lo⟩ w35 ⟨hfi, hlo0, hH⟩
 have hfi2 : fi ≤ l.file + 1 := by rw [← hfi]; split <;> omega
 have hlo2 : lo ≤ l.long := by rw [← hlo0]; split <;> omega
 refine swk [(0, Pp g 0), (9, Pp b1 0), (12, .slice A29 ((saveB l.c T V ((qs.map (·.1)).map EA.en)).length) c30)] <| sw_sr <| Go2 3 103 (Pp g 0) 105 (Pp g 7) <| Gq rfl (Lk 0 hH rfl rfl rfl) <| Go1 1 107 (.slice A29 ((saveB l.c T V ((qs.map (·.1)).map EA.en)).length) c30) <| Gq rfl (Ln (e := 5) rfl) <| Gw0 1 109 ((lo : Int) + (((saveB l.c T V ((qs.map (·.1)).map EA.en)).length : Nat) : Int)) ((lo + ((saveB l.c T V ((qs.map (·.1)).map EA.en)).length) : Nat) : Int) <| Go1 2 111 (Pp g 7) <| gl_st (Ks 0 (Ni (lo + ((saveB l.c T V ((qs.map (·.1)).map EA.en)).length))) rfl hH rfl rfl ?_)
 clear hH; intro w36 hH
 refine Dn <| sw_seq <| sw_seq ?_
 have hsv := saveL_w (D := D) hb0 hpall hlong (T := T) (V := V) rfl hbn hfi (lo := lo + (saveB l.c T V ((qs.map (·.1)).map EA.en)).length) (by rw [hlo0])
 have hT9 := hTf fi hfi2
 refine Dr hH (slc (slk (slk (slc (slk sln))))) ?_
 clear hH; intro w37 hH hS9
 refine Gp4 8 [0,1,2,3,5,6,7,10] 112 (Pp g 0) 115 (Pp g 0) 119 (Pp g 6) 122 (.slice A29 ((saveB l.c T V ((qs.map (·.1)).map EA.en)).length) c30) hS9 <| gd_st2 4 8 (by kernel_rfl) ?_ ?_
 refine st_q rfl rfl rfl (Lk 0 hH rfl rfl rfl) <| Nl hS9 fun hS9 => gdk [(0, Pp g 0), (9, Pp b1 0), (112, Pp g 0), (116, Pp db 0), (119, Pp g 6), (122, .slice A29 ((saveB l.c T V ((qs.map (·.1)).map EA.en)).length) c30)] <| gds 8 (st_q rfl rfl rfl (Lk 0 hH rfl rfl rfl) ?_)
 refine Nl hS9 fun hS9 => gds 9 (Sc rfl rfl (Name_ct fi _ (by omega) (hT9.now hH)) ?_)
 rintro _ w38 ⟨rfl, hF39⟩
 replace hH := hH.call hF39
 refine Nl (hH.sb (slc (slk (slk (slc (slk sln)))))) fun hS9 => ?_
 obtain ⟨R40, hr41⟩ : ∃ R, doD D 0 (nameF fi) (saveB l.c T V ((qs.map (·.1)).map EA.en)) 0 = R := ⟨_, rfl⟩
 replace hH : Hp w w38 _ _ ([_] ++ [_, _, _, _]) := hH.fr4
 refine gds 11 (Sc rfl rfl (by have h9 := Append_ct db mb ab D pe (nameF fi) _ (saveB l.c T V ((qs.map (·.1)).map EA.en)) M _ hH.mine hR hA hG (by omega) (by have := nameF_short fi (by omega); omega) (zoff_row (mine := [.grp (dskO db mb ab D pe)]) hH 3 rfl) (by omega) (by omega); rw [hr41] at h9; exact h9) ?_)
 rintro _ w44 ⟨pe42, rfl, hR43, hF45⟩
 replace hH := hH.turns hF45
 replace hH := hH.n5
 have hAR40 : ArOk R40.1.ar := by rw [← hr41]; exact arOk_do hA _ _ _ _
 have hGR40 : Good R40.1.fs (M + (saveB l.c T V ((qs.map (·.1)).map EA.en)).length) := by rw [← hr41]; exact good_doD hG _ _ _ _
 refine Nl (hH.sb (slc (slk (slk (slk sln))))) fun hS9 => Gp1 2 [12,13] 125 (Pp g 8) hS9 <| gds 14 (Ks 0 (errV R40.2) rfl hH rfl rfl (hv := (errW_one _ _)) ?_)
 clear hH; intro w46 hH
 refine Nl (hH.sb (slc (slk (slk (slk sln))))) fun hS9 => gdn [(0, Pp g 0), (9, Pp b1 0)] <| sw_next <| sw_sr <| Go1 3 128 (Pp g 8) <| Gq rfl (Lk 0 hH rfl rfl rfl) <| Gq rfl (rd_err_eq (by kernel_rfl) rfl) <| Dn <| If rfl (fun hc16 => ?_) (fun hc16 => ?_)
 have hz1 := hc16
 refine Dr hH (slc (slk (slk (slk sln)))) ?_
 clear hH; intro w47 hH hS9
 refine Gp3 7 [0,1,2,3,5,6,7] 131 (Pp g 0) 134 (Pp g 0) 138 (Pp g 6) hS9 <| gd_st2 4 8 (by kernel_rfl) ?_ ?_
 refine st_q rfl rfl rfl (Lk 0 hH rfl rfl rfl) <| Nl hS9 fun hS9 => gdk [(0, Pp g 0), (9, Pp b1 0), (131, Pp g 0), (135, Pp db 0), (138, Pp g 6)] <| gds 8 (st_q rfl rfl rfl (Lk 0 hH rfl rfl rfl) ?_)
 refine Nl hS9 fun hS9 => gds 9 (Sc rfl rfl (Name_ct fi _ (by omega) (hT9.now hH)) ?_)
 rintro _ w48 ⟨rfl, hF49⟩
 replace hH := hH.call hF49
 refine Nl (hH.sb (slc (slk (slk (slk sln))))) fun hS9 => ?_
 obtain ⟨R50, hr51⟩ : ∃ R, doD R40.1 1 (nameF fi) [] 0 = R := ⟨_, rfl⟩
 replace hH : Hp w w48 _ _ ([_] ++ [_, _, _, _]) := hH.fr5
 refine gds 10 (Sc rfl rfl (by have h9 := Sync_ct db mb ab R40.1 pe42 (nameF fi) (M + (saveB l.c T V ((qs.map (·.1)).map EA.en)).length) _ hH.mine hR43 hAR40 hGR40 (by omega) (by have := nameF_short fi (by omega); omega); rw [hr51] at h9; exact h9) ?_)
 rintro _ w54 ⟨pe52, rfl, hR53, hF55⟩
 replace hH := hH.turns hF55
 replace hH := hH.n5
 have hAR50 : ArOk R50.1.ar := by rw [← hr51]; exact arOk_do hAR40 _ _ _ _
 refine Nl (hH.sb (slc (slk (slk (slk sln))))) fun hS9 => Gp1 2 [11,12] 143 (Pp g 8) hS9 <| gds 13 (Ks 0 (errV R50.2) rfl hH rfl rfl (hv := (errW_one _ _)) ?_)
 clear hH; intro w56 hH
 refine Nl (hH.sb (slc (slk (slk (slk sln))))) fun hS9 => gdn [(0, Pp g 0), (9, Pp b1 0)] <| sw_next <| sw_seq <| sw_sr <| Go1 3 146 (Pp g 8) <| Gq rfl (Lk 0 hH rfl rfl rfl) <| Gq rfl (rd_err_eq (by kernel_rfl) rfl) <| Dn <| If rfl (fun hc17 => ?_) (fun hc17 => ?_)
 have hz2 := hc17
 refine sw_region <| Go1 1 149 (Pp g 0) <| Gq rfl (La 1 [Ni T, Ni V, Ni cx.ix, Ni cx.ah, .slice A2 es2.length c2] hH rfl rfl) <| Go1 2 152 (Pp g 1) <| gl_st (Ka 0 [Ni T, Ni V, Ni cx.ix, Ni cx.ah, .slice A2 es2.length c2] [Pp db 0, Ni T, Ni V, Ni cx.ix, Ni cx.ah, .slice A2 es2.length c2, Ni fi, Ni (lo + ((saveB l.c T V ((qs.map (·.1)).map EA.en)).length)), errV R50.2] rfl hH rfl rfl ?_)
 clear hH; intro w57 hH
 refine Dd <| sw_next <| sw_sr <| Go1 3 155 (Pp g 8) <| Gq rfl (Lk 0 hH rfl rfl rfl) <| Go1 1 8 (errV R50.2) <| Dn <| Rt1 rfl rfl ?_
 replace hH := hH.fr5.fr4.fr3
 replace hH := (hH.sb (slk (slk (slk sln)))).n3
 rw [hz2] at hH ⊢
 exact save_fin (hsv.trans (saveW_3 hr41 hz1 hr51 hz2)) rfl hR53 ⟨hL2.fst, hL2.row, hL2.ok⟩ hH.turned
 have hz2 := hc17
 refine Sk <| sw_sr <| Go1 3 155 (Pp g 8) <| Gq rfl (Lk 0 hH rfl rfl rfl) <| Go1 1 8 (errV R50.2) <| Dn <| Rt1 rfl rfl ?_
 replace hH := hH.fr5.fr4.fr3
 replace hH := (hH.sb (slk (slk (slk sln)))).n3
 exact save_fin (hsv.trans (saveW_2 hr41 hz1 hr51 hz2)) rfl hR53 (hL.mono hle) hH.turned
 refine st_q rfl rfl rfl (Lk 0 hH rfl rfl rfl) <| Nl hS9 fun hS9 => gdk [(0, Pp g 0), (9, Pp b1 0), (131, Pp g 0), (134, Pp g 0), (139, Ni fi)] <| gd_st2 4 9 (by kernel_rfl) ?_ ?_
 refine st_q rfl rfl rfl (Lk 0 hH rfl rfl rfl) <| Nl hS9 fun hS9 => gdk [(0, Pp g 0), (9, Pp b1 0), (131, Pp g 0), (135, Pp db 0), (139, Ni fi)] <| gds 9 (Sc rfl rfl (Name_ct fi _ (by omega) (hT9.now hH)) ?_)
 rintro _ w58 ⟨rfl, hF59⟩
 replace hH := hH.call hF59
 refine Nl (hH.sb (slc (slk (slk (slk sln))))) fun hS9 => ?_
 obtain ⟨R60, hr61⟩ : ∃ R, doD R40.1 1 (nameF fi) [] 0 = R := ⟨_, rfl⟩
 replace hH : Hp w w58 _ _ ([_] ++ [_, _, _, _]) := hH.fr5
 refine gds 10 (Sc rfl rfl (by have h9 := Sync_ct db mb ab R40.1 pe42 (nameF fi) (M + (saveB l.c T V ((qs.map (·.1)).map EA.en)).length) _ hH.mine hR43 hAR40 hGR40 (by omega) (by have := nameF_short fi (by omega); omega); rw [hr61] at h9; exact h9) ?_)
 rintro _ w64 ⟨pe62, rfl, hR63, hF65⟩
 replace hH := hH.turns hF65
 replace hH := hH.n5
 have hAR60 : ArOk R60.1.ar := by rw [← hr61]; exact arOk_do hAR40 _ _ _ _
 refine Nl (hH.sb (slc (slk (slk (slk sln))))) fun hS9 => Gp1 2 [11,12] 143 (Pp g 8) hS9 <| gds 13 (Ks 0 (errV R60.2) rfl hH rfl rfl (hv := (errW_one _ _)) ?_)
 clear hH; intro w66 hH
 refine Nl (hH.sb (slc (slk (slk (slk sln))))) fun hS9 => gdn [(0, Pp g 0), (9, Pp b1 0)] <| sw_next <| sw_seq <| sw_sr <| Go1 3 146 (Pp g 8) <| Gq rfl (Lk 0 hH rfl rfl rfl) <| Gq rfl (rd_err_eq (by kernel_rfl) rfl) <| Dn <| If rfl (fun hc18 => ?_) (fun hc18 => ?_)
 have hz2 := hc18
 refine sw_region <| Go1 1 149 (Pp g 0) <| Gq rfl (La 1 [Ni T, Ni V, Ni cx.ix, Ni cx.ah, .slice A2 es2.length c2] hH rfl rfl) <| Go1 2 152 (Pp g 1) <| gl_st (Ka 0 [Ni T, Ni V, Ni cx.ix, Ni cx.ah, .slice A2 es2.length c2] [Pp db 0, Ni T, Ni V, Ni cx.ix, Ni cx.ah, .slice A2 es2.length c2, Ni fi, Ni (lo + ((saveB l.c T V ((qs.map (·.1)).map EA.en)).length)), errV R60.2] rfl hH rfl rfl ?_)
 clear hH; intro w67 hH
 refine Dd <| sw_next <| sw_sr <| Go1 3 155 (Pp g 8) <| Gq rfl (Lk 0 hH rfl rfl rfl) <| Go1 1 8 (errV R60.2) <| Dn <| Rt1 rfl rfl ?_
 replace hH := hH.fr5.fr4.fr3
 replace hH := (hH.sb (slk (slk (slk sln)))).n3
 rw [hz2] at hH ⊢
 exact save_fin (hsv.trans (saveW_3 hr41 hz1 hr61 hz2)) rfl hR63 ⟨hL2.fst, hL2.row, hL2.ok⟩ hH.turned
 have hz2 := hc18
 refine Sk <| sw_sr <| Go1 3 155 (Pp g 8) <| Gq rfl (Lk 0 hH rfl rfl rfl) <| Go1 1 8 (errV R60.2) <| Dn <| Rt1 rfl rfl ?_
 replace hH := hH.fr5.fr4.fr3
 replace hH := (hH.sb (slk (slk (slk sln)))).n3
 exact save_fin (hsv.trans (saveW_2 hr41 hz1 hr61 hz2)) rfl hR63 (hL.mono hle) hH.turned
 refine Sc rfl rfl (Name_ct fi _ (by omega) (hT9.now hH)) ?_
 rintro _ w68 ⟨rfl, hF69⟩
 replace hH := hH.call hF69
 refine Nl (hH.sb (slc (slk (slk (slk sln))))) fun hS9 => gdk [(0, Pp g 0), (9, Pp b1 0), (131, Pp g 0), (134, Pp g 0), (140, .string (bs (nameF fi)))] <| gds 4 (st_q rfl rfl rfl (Lk 0 hH rfl rfl rfl) ?_)
 refine Nl hS9 fun hS9 => ?_
 obtain ⟨R70, hr71⟩ : ∃ R, doD R40.1 1 (nameF fi) [] 0 = R := ⟨_, rfl⟩
 replace hH : Hp w w68 _ _ ([_] ++ [_, _, _, _]) := hH.fr5
 refine gds 10 (Sc rfl rfl (by have h9 := Sync_ct db mb ab R40.1 pe42 (nameF fi) (M + (saveB l.c T V ((qs.map (·.1)).map EA.en)).length) _ hH.mine hR43 hAR40 hGR40 (by omega) (by have := nameF_short fi (by omega); omega); rw [hr71] at h9; exact h9) ?_)
 rintro _ w74 ⟨pe72, rfl, hR73, hF75⟩
 replace hH := hH.turns hF75
 replace hH := hH.n5
 have hAR70 : ArOk R70.1.ar := by rw [← hr71]; exact arOk_do hAR40 _ _ _ _
 refine Nl (hH.sb (slc (slk (slk (slk sln))))) fun hS9 => Gp1 2 [11,12] 143 (Pp g 8) hS9 <| gds 13 (Ks 0 (errV R70.2) rfl hH rfl rfl (hv := (errW_one _ _)) ?_)
 clear hH; intro w76 hH
 refine Nl (hH.sb (slc (slk (slk (slk sln))))) fun hS9 => gdn [(0, Pp g 0), (9, Pp b1 0)] <| sw_next <| sw_seq <| sw_sr <| Go1 3 146 (Pp g 8) <| Gq rfl (Lk 0 hH rfl rfl rfl) <| Gq rfl (rd_err_eq (by kernel_rfl) rfl) <| Dn <| If rfl (fun hc19 => ?_) (fun hc19 => ?_)
 have hz2 := hc19
 refine sw_region <| Go1 1 149 (Pp g 0) <| Gq rfl (La 1 [Ni T, Ni V, Ni cx.ix, Ni cx.ah, .slice A2 es2.length c2] hH rfl rfl) <| Go1 2 152 (Pp g 1) <| gl_st (Ka 0 [Ni T, Ni V, Ni cx.ix, Ni cx.ah, .slice A2 es2.length c2] [Pp db 0, Ni T, Ni V, Ni cx.ix, Ni cx.ah, .slice A2 es2.length c2, Ni fi, Ni (lo + ((saveB l.c T V ((qs.map (·.1)).map EA.en)).length)), errV R70.2] rfl hH rfl rfl ?_)
 clear hH; intro w77 hH
 refine Dd <| sw_next <| sw_sr <| Go1 3 155 (Pp g 8) <| Gq rfl (Lk 0 hH rfl rfl rfl) <| Go1 1 8 (errV R70.2) <| Dn <| Rt1 rfl rfl ?_
 replace hH := hH.fr5.fr4.fr3
 replace hH := (hH.sb (slk (slk (slk sln)))).n3
 rw [hz2] at hH ⊢
 exact save_fin (hsv.trans (saveW_3 hr41 hz1 hr71 hz2)) rfl hR73 ⟨hL2.fst, hL2.row, hL2.ok⟩ hH.turned
 have hz2 := hc19
 refine Sk <| sw_sr <| Go1 3 155 (Pp g 8) <| Gq rfl (Lk 0 hH rfl rfl rfl) <| Go1 1 8 (errV R70.2) <| Dn <| Rt1 rfl rfl ?_
 replace hH := hH.fr5.fr4.fr3
 replace hH := (hH.sb (slk (slk (slk sln)))).n3
 exact save_fin (hsv.trans (saveW_2 hr41 hz1 hr71 hz2)) rfl hR73 (hL.mono hle) hH.turned
 have hz1 := hc16
 refine Sk <| sw_seq <| sw_sr <| Go1 3 146 (Pp g 8) <| Gq rfl (Lk 0 hH rfl rfl rfl) <| Gq rfl (rd_err_eq (by kernel_rfl) rfl) <| Dn <| If rfl (fun hc20 => ?_) (fun hc20 => ?_)
 exact absurd hc20 hz1
 refine Sk <| sw_sr <| Go1 3 155 (Pp g 8) <| Gq rfl (Lk 0 hH rfl rfl rfl) <| Go1 1 8 (errV R40.2) <| Dn <| Rt1 rfl rfl ?_
 replace hH := hH.fr5.fr4.fr3
 replace hH := (hH.sb (slk (slk (slk sln)))).n3
 exact save_fin (hsv.trans (saveW_1 hr41 hz1)) rfl hR43 (hL.mono hle) hH.turned
 refine st_q rfl rfl rfl (Lk 0 hH rfl rfl rfl) <| Nl hS9 fun hS9 => gdk [(0, Pp g 0), (9, Pp b1 0), (112, Pp g 0), (115, Pp g 0), (120, Ni fi), (122, .slice A29 ((saveB l.c T V ((qs.map (·.1)).map EA.en)).length) c30)] <| gd_st2 4 9 (by kernel_rfl) ?_ ?_
 refine st_q rfl rfl rfl (Lk 0 hH rfl rfl rfl) <| Nl hS9 fun hS9 => gdk [(0, Pp g 0), (9, Pp b1 0), (112, Pp g 0), (116, Pp db 0), (120, Ni fi), (122, .slice A29 ((saveB l.c T V ((qs.map (·.1)).map EA.en)).length) c30)] <| gds 9 (Sc rfl rfl (Name_ct fi _ (by omega) (hT9.now hH)) ?_)
 rintro _ w78 ⟨rfl, hF79⟩
 replace hH := hH.call hF79
 refine Nl (hH.sb (slc (slk (slk (slc (slk sln)))))) fun hS9 => ?_
 obtain ⟨R80, hr81⟩ : ∃ R, doD D 0 (nameF fi) (saveB l.c T V ((qs.map (·.1)).map EA.en)) 0 = R := ⟨_, rfl⟩
 replace hH : Hp w w78 _ _ ([_] ++ [_, _, _, _]) := hH.fr4
 refine gds 11 (Sc rfl rfl (by have h9 := Append_ct db mb ab D pe (nameF fi) _ (saveB l.c T V ((qs.map (·.1)).map EA.en)) M _ hH.mine hR hA hG (by omega) (by have := nameF_short fi (by omega); omega) (zoff_row (mine := [.grp (dskO db mb ab D pe)]) hH 3 rfl) (by omega) (by omega); rw [hr81] at h9; exact h9) ?_)
 rintro _ w84 ⟨pe82, rfl, hR83, hF85⟩
 replace hH := hH.turns hF85
 replace hH := hH.n5
 have hAR80 : ArOk R80.1.ar := by rw [← hr81]; exact arOk_do hA _ _ _ _
 have hGR80 : Good R80.1.fs (M + (saveB l.c T V ((qs.map (·.1)).map EA.en)).length) := by rw [← hr81]; exact good_doD hG _ _ _ _
 refine Nl (hH.sb (slc (slk (slk (slk sln))))) fun hS9 => Gp1 2 [12,13] 125 (Pp g 8) hS9 <| gds 14 (Ks 0 (errV R80.2) rfl hH rfl rfl (hv := (errW_one _ _)) ?_)
 clear hH; intro w86 hH
 refine Nl (hH.sb (slc (slk (slk (slk sln))))) fun hS9 => gdn [(0, Pp g 0), (9, Pp b1 0)] <| sw_next <| sw_sr <| Go1 3 128 (Pp g 8) <| Gq rfl (Lk 0 hH rfl rfl rfl) <| Gq rfl (rd_err_eq (by kernel_rfl) rfl) <| Dn <| If rfl (fun hc21 => ?_) (fun hc21 => ?_)
 have hz1 := hc21
 refine Dr hH (slc (slk (slk (slk sln)))) ?_
 clear hH; intro w87 hH hS9
 refine Gp3 7 [0,1,2,3,5,6,7] 131 (Pp g 0) 134 (Pp g 0) 138 (Pp g 6) hS9 <| gd_st2 4 8 (by kernel_rfl) ?_ ?_
 refine st_q rfl rfl rfl (Lk 0 hH rfl rfl rfl) <| Nl hS9 fun hS9 => gdk [(0, Pp g 0), (9, Pp b1 0), (131, Pp g 0), (135, Pp db 0), (138, Pp g 6)] <| gds 8 (st_q rfl rfl rfl (Lk 0 hH rfl rfl rfl) ?_)
 refine Nl hS9 fun hS9 => gds 9 (Sc rfl rfl (Name_ct fi _ (by omega) (hT9.now hH)) ?_)
 rintro _ w88 ⟨rfl, hF89⟩
 replace hH := hH.call hF89
 refine Nl (hH.sb (slc (slk (slk (slk sln))))) fun hS9 => ?_
 obtain ⟨R90, hr91⟩ : ∃ R, doD R80.1 1 (nameF fi) [] 0 = R := ⟨_, rfl⟩
 replace hH : Hp w w88 _ _ ([_] ++ [_, _, _, _]) := hH.fr5
 refine gds 10 (Sc rfl rfl (by have h9 := Sync_ct db mb ab R80.1 pe82 (nameF fi) (M + (saveB l.c T V ((qs.map (·.1)).map EA.en)).length) _ hH.mine hR83 hAR80 hGR80 (by omega) (by have := nameF_short fi (by omega); omega); rw [hr91] at h9; exact h9) ?_)
 rintro _ w94 ⟨pe92, rfl, hR93, hF95⟩
 replace hH := hH.turns hF95
 replace hH := hH.n5
 have hAR90 : ArOk R90.1.ar := by rw [← hr91]; exact arOk_do hAR80 _ _ _ _
 refine Nl (hH.sb (slc (slk (slk (slk sln))))) fun hS9 => Gp1 2 [11,12] 143 (Pp g 8) hS9 <| gds 13 (Ks 0 (errV R90.2) rfl hH rfl rfl (hv := (errW_one _ _)) ?_)
 clear hH; intro w96 hH
 refine Nl (hH.sb (slc (slk (slk (slk sln))))) fun hS9 => gdn [(0, Pp g 0), (9, Pp b1 0)] <| sw_next <| sw_seq <| sw_sr <| Go1 3 146 (Pp g 8) <| Gq rfl (Lk 0 hH rfl rfl rfl) <| Gq rfl (rd_err_eq (by kernel_rfl) rfl) <| Dn <| If rfl (fun hc22 => ?_) (fun hc22 => ?_)
 have hz2 := hc22
 refine sw_region <| Go1 1 149 (Pp g 0) <| Gq rfl (La 1 [Ni T, Ni V, Ni cx.ix, Ni cx.ah, .slice A2 es2.length c2] hH rfl rfl) <| Go1 2 152 (Pp g 1) <| gl_st (Ka 0 [Ni T, Ni V, Ni cx.ix, Ni cx.ah, .slice A2 es2.length c2] [Pp db 0, Ni T, Ni V, Ni cx.ix, Ni cx.ah, .slice A2 es2.length c2, Ni fi, Ni (lo + ((saveB l.c T V ((qs.map (·.1)).map EA.en)).length)), errV R90.2] rfl hH rfl rfl ?_)
 clear hH; intro w97 hH
 refine Dd <| sw_next <| sw_sr <| Go1 3 155 (Pp g 8) <| Gq rfl (Lk 0 hH rfl rfl rfl) <| Go1 1 8 (errV R90.2) <| Dn <| Rt1 rfl rfl ?_
 replace hH := hH.fr5.fr4.fr3
 replace hH := (hH.sb (slk (slk (slk sln)))).n3
 rw [hz2] at hH ⊢
 exact save_fin (hsv.trans (saveW_3 hr81 hz1 hr91 hz2)) rfl hR93 ⟨hL2.fst, hL2.row, hL2.ok⟩ hH.turned
 have hz2 := hc22
 refine Sk <| sw_sr <| Go1 3 155 (Pp g 8) <| Gq rfl (Lk 0 hH rfl rfl rfl) <| Go1 1 8 (errV R90.2) <| Dn <| Rt1 rfl rfl ?_
 replace hH := hH.fr5.fr4.fr3
 replace hH := (hH.sb (slk (slk (slk sln)))).n3
 exact save_fin (hsv.trans (saveW_2 hr81 hz1 hr91 hz2)) rfl hR93 (hL.mono hle) hH.turned
 refine st_q rfl rfl rfl (Lk 0 hH rfl rfl rfl) <| Nl hS9 fun hS9 => gdk [(0, Pp g 0), (9, Pp b1 0), (131, Pp g 0), (134, Pp g 0), (139, Ni fi)] <| gd_st2 4 9 (by kernel_rfl) ?_ ?_
 refine st_q rfl rfl rfl (Lk 0 hH rfl rfl rfl) <| Nl hS9 fun hS9 => gdk [(0, Pp g 0), (9, Pp b1 0), (131, Pp g 0), (135, Pp db 0), (139, Ni fi)] <| gds 9 (Sc rfl rfl (Name_ct fi _ (by omega) (hT9.now hH)) ?_)
 rintro _ w98 ⟨rfl, hF99⟩
 replace hH := hH.call hF99
 refine Nl (hH.sb (slc (slk (slk (slk sln))))) fun hS9 => ?_
 obtain ⟨R100, hr101⟩ : ∃ R, doD R80.1 1 (nameF fi) [] 0 = R := ⟨_, rfl⟩
 replace hH : Hp w w98 _ _ ([_] ++ [_, _, _, _]) := hH.fr5
 refine gds 10 (Sc rfl rfl (by have h9 := Sync_ct db mb ab R80.1 pe82 (nameF fi) (M + (saveB l.c T V ((qs.map (·.1)).map EA.en)).length) _ hH.mine hR83 hAR80 hGR80 (by omega) (by have := nameF_short fi (by omega); omega); rw [hr101] at h9; exact h9) ?_)
 rintro _ w104 ⟨pe102, rfl, hR103, hF105⟩
 replace hH := hH.turns hF105
 replace hH := hH.n5
 have hAR100 : ArOk R100.1.ar := by rw [← hr101]; exact arOk_do hAR80 _ _ _ _
 refine Nl (hH.sb (slc (slk (slk (slk sln))))) fun hS9 => Gp1 2 [11,12] 143 (Pp g 8) hS9 <| gds 13 (Ks 0 (errV R100.2) rfl hH rfl rfl (hv := (errW_one _ _)) ?_)
 clear hH; intro w106 hH
 refine Nl (hH.sb (slc (slk (slk (slk sln))))) fun hS9 => gdn [(0, Pp g 0), (9, Pp b1 0)] <| sw_next <| sw_seq <| sw_sr <| Go1 3 146 (Pp g 8) <| Gq rfl (Lk 0 hH rfl rfl rfl) <| Gq rfl (rd_err_eq (by kernel_rfl) rfl) <| Dn <| If rfl (fun hc23 => ?_) (fun hc23 => ?_)
 have hz2 := hc23
 refine sw_region <| Go1 1 149 (Pp g 0) <| Gq rfl (La 1 [Ni T, Ni V, Ni cx.ix, Ni cx.ah, .slice A2 es2.length c2] hH rfl rfl) <| Go1 2 152 (Pp g 1) <| gl_st (Ka 0 [Ni T, Ni V, Ni cx.ix, Ni cx.ah, .slice A2 es2.length c2] [Pp db 0, Ni T, Ni V, Ni cx.ix, Ni cx.ah, .slice A2 es2.length c2, Ni fi, Ni (lo + ((saveB l.c T V ((qs.map (·.1)).map EA.en)).length)), errV R100.2] rfl hH rfl rfl ?_)
 clear hH; intro w107 hH
 refine Dd <| sw_next <| sw_sr <| Go1 3 155 (Pp g 8) <| Gq rfl (Lk 0 hH rfl rfl rfl) <| Go1 1 8 (errV R100.2) <| Dn <| Rt1 rfl rfl ?_
 replace hH := hH.fr5.fr4.fr3
 replace hH := (hH.sb (slk (slk (slk sln)))).n3
 rw [hz2] at hH ⊢
 exact save_fin (hsv.trans (saveW_3 hr81 hz1 hr101 hz2)) rfl hR103 ⟨hL2.fst, hL2.row, hL2.ok⟩ hH.turned
 have hz2 := hc23
 refine Sk <| sw_sr <| Go1 3 155 (Pp g 8) <| Gq rfl (Lk 0 hH rfl rfl rfl) <| Go1 1 8 (errV R100.2) <| Dn <| Rt1 rfl rfl ?_
 replace hH := hH.fr5.fr4.fr3
 replace hH := (hH.sb (slk (slk (slk sln)))).n3
 exact save_fin (hsv.trans (saveW_2 hr81 hz1 hr101 hz2)) rfl hR103 (hL.mono hle) hH.turned
 refine Sc rfl rfl (Name_ct fi _ (by omega) (hT9.now hH)) ?_
 rintro _ w108 ⟨rfl, hF109⟩
 replace hH := hH.call hF109
 refine Nl (hH.sb (slc (slk (slk (slk sln))))) fun hS9 => gdk [(0, Pp g 0), (9, Pp b1 0), (131, Pp g 0), (134, Pp g 0), (140, .string (bs (nameF fi)))] <| gds 4 (st_q rfl rfl rfl (Lk 0 hH rfl rfl rfl) ?_)
 refine Nl hS9 fun hS9 => ?_
 obtain ⟨R110, hr111⟩ : ∃ R, doD R80.1 1 (nameF fi) [] 0 = R := ⟨_, rfl⟩
 replace hH : Hp w w108 _ _ ([_] ++ [_, _, _, _]) := hH.fr5
 refine gds 10 (Sc rfl rfl (by have h9 := Sync_ct db mb ab R80.1 pe82 (nameF fi) (M + (saveB l.c T V ((qs.map (·.1)).map EA.en)).length) _ hH.mine hR83 hAR80 hGR80 (by omega) (by have := nameF_short fi (by omega); omega); rw [hr111] at h9; exact h9) ?_)
 rintro _ w114 ⟨pe112, rfl, hR113, hF115⟩
 replace hH := hH.turns hF115
 replace hH := hH.n5
 have hAR110 : ArOk R110.1.ar := by rw [← hr111]; exact arOk_do hAR80 _ _ _ _
 refine Nl (hH.sb (slc (slk (slk (slk sln))))) fun hS9 => Gp1 2 [11,12] 143 (Pp g 8) hS9 <| gds 13 (Ks 0 (errV R110.2) rfl hH rfl rfl (hv := (errW_one _ _)) ?_)
 clear hH; intro w116 hH
 refine Nl (hH.sb (slc (slk (slk (slk sln))))) fun hS9 => gdn [(0, Pp g 0), (9, Pp b1 0)] <| sw_next <| sw_seq <| sw_sr <| Go1 3 146 (Pp g 8) <| Gq rfl (Lk 0 hH rfl rfl rfl) <| Gq rfl (rd_err_eq (by kernel_rfl) rfl) <| Dn <| If rfl (fun hc24 => ?_) (fun hc24 => ?_)
 have hz2 := hc24
 refine sw_region <| Go1 1 149 (Pp g 0) <| Gq rfl (La 1 [Ni T, Ni V, Ni cx.ix, Ni cx.ah, .slice A2 es2.length c2] hH rfl rfl) <| Go1 2 152 (Pp g 1) <| gl_st (Ka 0 [Ni T, Ni V, Ni cx.ix, Ni cx.ah, .slice A2 es2.length c2] [Pp db 0, Ni T, Ni V, Ni cx.ix, Ni cx.ah, .slice A2 es2.length c2, Ni fi, Ni (lo + ((saveB l.c T V ((qs.map (·.1)).map EA.en)).length)), errV R110.2] rfl hH rfl rfl ?_)
 clear hH; intro w117 hH
 refine Dd <| sw_next <| sw_sr <| Go1 3 155 (Pp g 8) <| Gq rfl (Lk 0 hH rfl rfl rfl) <| Go1 1 8 (errV R110.2) <| Dn <| Rt1 rfl rfl ?_
 replace hH := hH.fr5.fr4.fr3
 replace hH := (hH.sb (slk (slk (slk sln)))).n3
 rw [hz2] at hH ⊢
 exact save_fin (hsv.trans (saveW_3 hr81 hz1 hr111 hz2)) rfl hR113 ⟨hL2.fst, hL2.row, hL2.ok⟩ hH.turned
 have hz2 := hc24
 refine Sk <| sw_sr <| Go1 3 155 (Pp g 8) <| Gq rfl (Lk 0 hH rfl rfl rfl) <| Go1 1 8 (errV R110.2) <| Dn <| Rt1 rfl rfl ?_
 replace hH := hH.fr5.fr4.fr3
 replace hH := (hH.sb (slk (slk (slk sln)))).n3
 exact save_fin (hsv.trans (saveW_2 hr81 hz1 hr111 hz2)) rfl hR113 (hL.mono hle) hH.turned
 have hz1 := hc21
 refine Sk <| sw_seq <| sw_sr <| Go1 3 146 (Pp g 8) <| Gq rfl (Lk 0 hH rfl rfl rfl) <| Gq rfl (rd_err_eq (by kernel_rfl) rfl) <| Dn <| If rfl (fun hc25 => ?_) (fun hc25 => ?_)
 exact absurd hc25 hz1
 refine Sk <| sw_sr <| Go1 3 155 (Pp g 8) <| Gq rfl (Lk 0 hH rfl rfl rfl) <| Go1 1 8 (errV R80.2) <| Dn <| Rt1 rfl rfl ?_
 replace hH := hH.fr5.fr4.fr3
 replace hH := (hH.sb (slk (slk (slk sln)))).n3
 exact save_fin (hsv.trans (saveW_1 hr81 hz1)) rfl hR83 (hL.mono hle) hH.turned
 refine Sc rfl rfl (Name_ct fi _ (by omega) (hT9.now hH)) ?_
 rintro _ w118 ⟨rfl, hF119⟩
 replace hH := hH.call hF119
 refine Nl (hH.sb (slc (slk (slk (slc (slk sln)))))) fun hS9 => gdk [(0, Pp g 0), (9, Pp b1 0), (112, Pp g 0), (115, Pp g 0), (121, .string (bs (nameF fi))), (122, .slice A29 ((saveB l.c T V ((qs.map (·.1)).map EA.en)).length) c30)] <| gds 4 (st_q rfl rfl rfl (Lk 0 hH rfl rfl rfl) ?_)
 refine Nl hS9 fun hS9 => ?_
 obtain ⟨R120, hr121⟩ : ∃ R, doD D 0 (nameF fi) (saveB l.c T V ((qs.map (·.1)).map EA.en)) 0 = R := ⟨_, rfl⟩
 replace hH : Hp w w118 _ _ ([_] ++ [_, _, _, _]) := hH.fr4
 refine gds 11 (Sc rfl rfl (by have h9 := Append_ct db mb ab D pe (nameF fi) _ (saveB l.c T V ((qs.map (·.1)).map EA.en)) M _ hH.mine hR hA hG (by omega) (by have := nameF_short fi (by omega); omega) (zoff_row (mine := [.grp (dskO db mb ab D pe)]) hH 3 rfl) (by omega) (by omega); rw [hr121] at h9; exact h9) ?_)
 rintro _ w124 ⟨pe122, rfl, hR123, hF125⟩
 replace hH := hH.turns hF125
 replace hH := hH.n5
 have hAR120 : ArOk R120.1.ar := by rw [← hr121]; exact arOk_do hA _ _ _ _
 have hGR120 : Good R120.1.fs (M + (saveB l.c T V ((qs.map (·.1)).map EA.en)).length) := by rw [← hr121]; exact good_doD hG _ _ _ _
 refine Nl (hH.sb (slc (slk (slk (slk sln))))) fun hS9 => Gp1 2 [12,13] 125 (Pp g 8) hS9 <| gds 14 (Ks 0 (errV R120.2) rfl hH rfl rfl (hv := (errW_one _ _)) ?_)
 clear hH; intro w126 hH
 refine Nl (hH.sb (slc (slk (slk (slk sln))))) fun hS9 => gdn [(0, Pp g 0), (9, Pp b1 0)] <| sw_next <| sw_sr <| Go1 3 128 (Pp g 8) <| Gq rfl (Lk 0 hH rfl rfl rfl) <| Gq rfl (rd_err_eq (by kernel_rfl) rfl) <| Dn <| If rfl (fun hc26 => ?_) (fun hc26 => ?_)
 have hz1 := hc26
 refine Dr hH (slc (slk (slk (slk sln)))) ?_
 clear hH; intro w127 hH hS9
 refine Gp3 7 [0,1,2,3,5,6,7] 131 (Pp g 0) 134 (Pp g 0) 138 (Pp g 6) hS9 <| gd_st2 4 8 (by kernel_rfl) ?_ ?_
 refine st_q rfl rfl rfl (Lk 0 hH rfl rfl rfl) <| Nl hS9 fun hS9 => gdk [(0, Pp g 0), (9, Pp b1 0), (131, Pp g 0), (135, Pp db 0), (138, Pp g 6)] <| gds 8 (st_q rfl rfl rfl (Lk 0 hH rfl rfl rfl) ?_)
 refine Nl hS9 fun hS9 => gds 9 (Sc rfl rfl (Name_ct fi _ (by omega) (hT9.now hH)) ?_)
 rintro _ w128 ⟨rfl, hF129⟩
 replace hH := hH.call hF129
 refine Nl (hH.sb (slc (slk (slk (slk sln))))) fun hS9 => ?_
 obtain ⟨R130, hr131⟩ : ∃ R, doD R120.1 1 (nameF fi) [] 0 = R := ⟨_, rfl⟩
 replace hH : Hp w w128 _ _ ([_] ++ [_, _, _, _]) := hH.fr5
 refine gds 10 (Sc rfl rfl (by have h9 := Sync_ct db mb ab R120.1 pe122 (nameF fi) (M + (saveB l.c T V ((qs.map (·.1)).map EA.en)).length) _ hH.mine hR123 hAR120 hGR120 (by omega) (by have := nameF_short fi (by omega); omega); rw [hr131] at h9; exact h9) ?_)
 rintro _ w134 ⟨pe132, rfl, hR133, hF135⟩
 replace hH := hH.turns hF135
 replace hH := hH.n5
 have hAR130 : ArOk R130.1.ar := by rw [← hr131]; exact arOk_do hAR120 _ _ _ _
 refine Nl (hH.sb (slc (slk (slk (slk sln))))) fun hS9 => Gp1 2 [11,12] 143 (Pp g 8) hS9 <| gds 13 (Ks 0 (errV R130.2) rfl hH rfl rfl (hv := (errW_one _ _)) ?_)
 clear hH; intro w136 hH
 refine Nl (hH.sb (slc (slk (slk (slk sln))))) fun hS9 => gdn [(0, Pp g 0), (9, Pp b1 0)] <| sw_next <| sw_seq <| sw_sr <| Go1 3 146 (Pp g 8) <| Gq rfl (Lk 0 hH rfl rfl rfl) <| Gq rfl (rd_err_eq (by kernel_rfl) rfl) <| Dn <| If rfl (fun hc27 => ?_) (fun hc27 => ?_)
 have hz2 := hc27
 refine sw_region <| Go1 1 149 (Pp g 0) <| Gq rfl (La 1 [Ni T, Ni V, Ni cx.ix, Ni cx.ah, .slice A2 es2.length c2] hH rfl rfl) <| Go1 2 152 (Pp g 1) <| gl_st (Ka 0 [Ni T, Ni V, Ni cx.ix, Ni cx.ah, .slice A2 es2.length c2] [Pp db 0, Ni T, Ni V, Ni cx.ix, Ni cx.ah, .slice A2 es2.length c2, Ni fi, Ni (lo + ((saveB l.c T V ((qs.map (·.1)).map EA.en)).length)), errV R130.2] rfl hH rfl rfl ?_)
 clear hH; intro w137 hH
 refine Dd <| sw_next <| sw_sr <| Go1 3 155 (Pp g 8) <| Gq rfl (Lk 0 hH rfl rfl rfl) <| Go1 1 8 (errV R130.2) <| Dn <| Rt1 rfl rfl ?_
 replace hH := hH.fr5.fr4.fr3
 replace hH := (hH.sb (slk (slk (slk sln)))).n3
 rw [hz2] at hH ⊢
 exact save_fin (hsv.trans (saveW_3 hr121 hz1 hr131 hz2)) rfl hR133 ⟨hL2.fst, hL2.row, hL2.ok⟩ hH.turned
 have hz2 := hc27
 refine Sk <| sw_sr <| Go1 3 155 (Pp g 8) <| Gq rfl (Lk 0 hH rfl rfl rfl) <| Go1 1 8 (errV R130.2) <| Dn <| Rt1 rfl rfl ?_
 replace hH := hH.fr5.fr4.fr3
 replace hH := (hH.sb (slk (slk (slk sln)))).n3
 exact save_fin (hsv.trans (saveW_2 hr121 hz1 hr131 hz2)) rfl hR133 (hL.mono hle) hH.turned
 refine st_q rfl rfl rfl (Lk 0 hH rfl rfl rfl) <| Nl hS9 fun hS9 => gdk [(0, Pp g 0), (9, Pp b1 0), (131, Pp g 0), (134, Pp g 0), (139, Ni fi)] <| gd_st2 4 9 (by kernel_rfl) ?_ ?_
 refine st_q rfl rfl rfl (Lk 0 hH rfl rfl rfl) <| Nl hS9 fun hS9 => gdk [(0, Pp g 0), (9, Pp b1 0), (131, Pp g 0), (135, Pp db 0), (139, Ni fi)] <| gds 9 (Sc rfl rfl (Name_ct fi _ (by omega) (hT9.now hH)) ?_)
 rintro _ w138 ⟨rfl, hF139⟩
 replace hH := hH.call hF139
 refine Nl (hH.sb (slc (slk (slk (slk sln))))) fun hS9 => ?_
 obtain ⟨R140, hr141⟩ : ∃ R, doD R120.1 1 (nameF fi) [] 0 = R := ⟨_, rfl⟩
 replace hH : Hp w w138 _ _ ([_] ++ [_, _, _, _]) := hH.fr5
 refine gds 10 (Sc rfl rfl (by have h9 := Sync_ct db mb ab R120.1 pe122 (nameF fi) (M + (saveB l.c T V ((qs.map (·.1)).map EA.en)).length) _ hH.mine hR123 hAR120 hGR120 (by omega) (by have := nameF_short fi (by omega); omega); rw [hr141] at h9; exact h9) ?_)
 rintro _ w144 ⟨pe142, rfl, hR143, hF145⟩
 replace hH := hH.turns hF145
 replace hH := hH.n5
 have hAR140 : ArOk R140.1.ar := by rw [← hr141]; exact arOk_do hAR120 _ _ _ _
 refine Nl (hH.sb (slc (slk (slk (slk sln))))) fun hS9 => Gp1 2 [11,12] 143 (Pp g 8) hS9 <| gds 13 (Ks 0 (errV R140.2) rfl hH rfl rfl (hv := (errW_one _ _)) ?_)
 clear hH; intro w146 hH
 refine Nl (hH.sb (slc (slk (slk (slk sln))))) fun hS9 => gdn [(0, Pp g 0), (9, Pp b1 0)] <| sw_next <| sw_seq <| sw_sr <| Go1 3 146 (Pp g 8) <| Gq rfl (Lk 0 hH rfl rfl rfl) <| Gq rfl (rd_err_eq (by kernel_rfl) rfl) <| Dn <| If rfl (fun hc28 => ?_) (fun hc28 => ?_)
 have hz2 := hc28
 refine sw_region <| Go1 1 149 (Pp g 0) <| Gq rfl (La 1 [Ni T, Ni V, Ni cx.ix, Ni cx.ah, .slice A2 es2.length c2] hH rfl rfl) <| Go1 2 152 (Pp g 1) <| gl_st (Ka 0 [Ni T, Ni V, Ni cx.ix, Ni cx.ah, .slice A2 es2.length c2] [Pp db 0, Ni T, Ni V, Ni cx.ix, Ni cx.ah, .slice A2 es2.length c2, Ni fi, Ni (lo + ((saveB l.c T V ((qs.map (·.1)).map EA.en)).length)), errV R140.2] rfl hH rfl rfl ?_)
 clear hH; intro w147 hH
 refine Dd <| sw_next <| sw_sr <| Go1 3 155 (Pp g 8) <| Gq rfl (Lk 0 hH rfl rfl rfl) <| Go1 1 8 (errV R140.2) <| Dn <| Rt1 rfl rfl ?_
 replace hH := hH.fr5.fr4.fr3
 replace hH := (hH.sb (slk (slk (slk sln)))).n3
 rw [hz2] at hH ⊢
 exact save_fin (hsv.trans (saveW_3 hr121 hz1 hr141 hz2)) rfl hR143 ⟨hL2.fst, hL2.row, hL2.ok⟩ hH.turned
 have hz2 := hc28
 refine Sk <| sw_sr <| Go1 3 155 (Pp g 8) <| Gq rfl (Lk 0 hH rfl rfl rfl) <| Go1 1 8 (errV R140.2) <| Dn <| Rt1 rfl rfl ?_
 replace hH := hH.fr5.fr4.fr3
 replace hH := (hH.sb (slk (slk (slk sln)))).n3
 exact save_fin (hsv.trans (saveW_2 hr121 hz1 hr141 hz2)) rfl hR143 (hL.mono hle) hH.turned
 refine Sc rfl rfl (Name_ct fi _ (by omega) (hT9.now hH)) ?_
 rintro _ w148 ⟨rfl, hF149⟩
 replace hH := hH.call hF149
 refine Nl (hH.sb (slc (slk (slk (slk sln))))) fun hS9 => gdk [(0, Pp g 0), (9, Pp b1 0), (131, Pp g 0), (134, Pp g 0), (140, .string (bs (nameF fi)))] <| gds 4 (st_q rfl rfl rfl (Lk 0 hH rfl rfl rfl) ?_)
 refine Nl hS9 fun hS9 => ?_
 obtain ⟨R150, hr151⟩ : ∃ R, doD R120.1 1 (nameF fi) [] 0 = R := ⟨_, rfl⟩
 replace hH : Hp w w148 _ _ ([_] ++ [_, _, _, _]) := hH.fr5
 refine gds 10 (Sc rfl rfl (by have h9 := Sync_ct db mb ab R120.1 pe122 (nameF fi) (M + (saveB l.c T V ((qs.map (·.1)).map EA.en)).length) _ hH.mine hR123 hAR120 hGR120 (by omega) (by have := nameF_short fi (by omega); omega); rw [hr151] at h9; exact h9) ?_)
 rintro _ w154 ⟨pe152, rfl, hR153, hF155⟩
 replace hH := hH.turns hF155
 replace hH := hH.n5
 have hAR150 : ArOk R150.1.ar := by rw [← hr151]; exact arOk_do hAR120 _ _ _ _
 refine Nl (hH.sb (slc (slk (slk (slk sln))))) fun hS9 => Gp1 2 [11,12] 143 (Pp g 8) hS9 <| gds 13 (Ks 0 (errV R150.2) rfl hH rfl rfl (hv := (errW_one _ _)) ?_)
 clear hH; intro w156 hH
 refine Nl (hH.sb (slc (slk (slk (slk sln))))) fun hS9 => gdn [(0, Pp g 0), (9, Pp b1 0)] <| sw_next <| sw_seq <| sw_sr <| Go1 3 146 (Pp g 8) <| Gq rfl (Lk 0 hH rfl rfl rfl) <| Gq rfl (rd_err_eq (by kernel_rfl) rfl) <| Dn <| If rfl (fun hc29 => ?_) (fun hc29 => ?_)
 have hz2 := hc29
 refine sw_region <| Go1 1 149 (Pp g 0) <| Gq rfl (La 1 [Ni T, Ni V, Ni cx.ix, Ni cx.ah, .slice A2 es2.length c2] hH rfl rfl) <| Go1 2 152 (Pp g 1) <| gl_st (Ka 0 [Ni T, Ni V, Ni cx.ix, Ni cx.ah, .slice A2 es2.length c2] [Pp db 0, Ni T, Ni V, Ni cx.ix, Ni cx.ah, .slice A2 es2.length c2, Ni fi, Ni (lo + ((saveB l.c T V ((qs.map (·.1)).map EA.en)).length)), errV R150.2] rfl hH rfl rfl ?_)
 clear hH; intro w157 hH
 refine Dd <| sw_next <| sw_sr <| Go1 3 155 (Pp g 8) <| Gq rfl (Lk 0 hH rfl rfl rfl) <| Go1 1 8 (errV R150.2) <| Dn <| Rt1 rfl rfl ?_
 replace hH := hH.fr5.fr4.fr3
 replace hH := (hH.sb (slk (slk (slk sln)))).n3
 rw [hz2] at hH ⊢
 exact save_fin (hsv.trans (saveW_3 hr121 hz1 hr151 hz2)) rfl hR153 ⟨hL2.fst, hL2.row, hL2.ok⟩ hH.turned
 have hz2 := hc29
 refine Sk <| sw_sr <| Go1 3 155 (Pp g 8) <| Gq rfl (Lk 0 hH rfl rfl rfl) <| Go1 1 8 (errV R150.2) <| Dn <| Rt1 rfl rfl ?_
 replace hH := hH.fr5.fr4.fr3
 replace hH := (hH.sb (slk (slk (slk sln)))).n3
 exact save_fin (hsv.trans (saveW_2 hr121 hz1 hr151 hz2)) rfl hR153 (hL.mono hle) hH.turned
 have hz1 := hc26
 refine Sk <| sw_seq <| sw_sr <| Go1 3 146 (Pp g 8) <| Gq rfl (Lk 0 hH rfl rfl rfl) <| Gq rfl (rd_err_eq (by kernel_rfl) rfl) <| Dn <| If rfl (fun hc30 => ?_) (fun hc30 => ?_)
 exact absurd hc30 hz1
 refine Sk <| sw_sr <| Go1 3 155 (Pp g 8) <| Gq rfl (Lk 0 hH rfl rfl rfl) <| Go1 1 8 (errV R120.2) <| Dn <| Rt1 rfl rfl ?_
 replace hH := hH.fr5.fr4.fr3
 replace hH := (hH.sb (slk (slk (slk sln)))).n3
 exact save_fin (hsv.trans (saveW_1 hr121 hz1)) rfl hR123 (hL.mono hle) hH.turned
end Go.Proofs.YtajapgjemefoiaaGreatDoor
/- Layer 19 (wal): entries are let go: what it answers. -/
set_option maxRecDepth 100000
set_option maxHeartbeats 4000000
set_option linter.unusedVariables false
set_option linter.unusedSimpArgs false
namespace Go.Proofs.YtajapgjemefoiaaGreatDoor
open Go.RowKit Go.SW
def remC (D : Dsk) (e : Nat) (ks : List Nat) : Dsk × Nat := if e = 0 then remAll D ks else (D, e)
theorem remC_next (D : Dsk) (k : Nat) (r : List Nat) : remC D 0 (k :: r) = remC (doD D 4 (nameF k) [] 0).1 (doD D 4 (nameF k) [] 0).2 r := by
  unfold remC
  rw [if_pos rfl, remAll_cons]
  by_cases h : (doD D 4 (nameF k) [] 0).2 = 0
  · rw [if_neg (fun x => x h), if_pos h]
  · rw [if_pos h, if_neg h]
theorem remC_stop {D : Dsk} {e : Nat} (h : e ≠ 0) (a b : List Nat) : remC D e a = remC D e b := by unfold remC; rw [if_neg h, if_neg h]
theorem remC_end (D : Dsk) (e : Nat) : remC D e [] = (D, e) := by
  unfold remC
  split
  · rename_i h; rw [h]; rfl
  · rfl
def ksOf (F : List Fil) : List Nat := ((partsF F).map fun ps => (sortP ps).map (·.k)).getD []
theorem compactL_bad {D : Dsk} {l : Lg} {i t : Int} (h : l.bad ≠ 0) : compactL D l i t = (D, l, l.bad) := by unfold compactL; rw [if_pos h]
theorem compactL_neg {D : Dsk} {l : Lg} {i t : Int} (h : l.bad = 0) (hn : i < 0 ∨ t < 0) : compactL D l i t = (D, l, 1) := by unfold compactL; rw [if_neg (fun x => x h), if_pos hn]
theorem compactL_is {D : Dsk} {l : Lg} {I T : Nat} (h : l.bad = 0) {c' : Cn} (hc : keepC l.c I T = c') {R RA : Dsk × Nat} (hR : doD D 2 (nameF (l.file + 1)) (recsB (allR c')) 0 = R) (hA : remC R.1 R.2 (ksOf D.fs) = RA) :
    compactL D l ((I : Nat) : Int) ((T : Nat) : Int) = (RA.1, ⟨if RA.2 = 0 then c' else l.c, l.file + 1, (recsB (allR c')).length, RA.2⟩, RA.2) := by
  unfold compactL
  rw [if_neg (fun x => x h), if_neg (by omega), Int.toNat_natCast, Int.toNat_natCast, hc]
  simp only [hR]
  unfold remC ksOf at hA
  by_cases h2 : R.2 = 0
  · rw [if_neg (fun x => x h2)]
    rw [if_pos h2] at hA
    rw [hA]
  · rw [if_pos h2]
    rw [if_neg h2] at hA
    subst hA
    simp only [if_neg h2]
theorem ks_of {D : Dsk} {bad : Bool} {ds : List PV} (h : (bad = true ∧ partsF D.fs = none ∧ ds = []) ∨ (bad = false ∧ (partsF D.fs).map sortP = some (ds.map PV.pt))) : ksOf D.fs = ds.map (·.k) := by
  unfold ksOf
  rcases h with ⟨_, h1, rfl⟩ | ⟨_, h1⟩
  · rw [h1]; rfl
  · obtain ⟨p0, h2, h3⟩ := Option.map_eq_some_iff.1 h1
    rw [h2, Option.map_some, Option.getD_some, h3, List.map_map]; rfl
theorem cnOk_keep {c : Cn} (h : CnOk c) {i t : Nat} (hi : i < 9223372036854775808) (ht : t < 9223372036854775808) : CnOk (keepC c i t) := by
  unfold keepC
  refine ⟨fun j e he => ?_, fun e he => ?_, h.term, h.vote, hi, ht⟩
  · simp only at he ⊢
    split at he
    · rename_i h1; rw [h1.1]; exact h.seq j e he
    split at he
    · rename_i h1
      rw [List.getElem?_drop] at he
      have := h.seq _ e he
      omega
    · cases he
  · simp only at he
    split at he
    · exact h.es e he
    split at he
    · exact h.es e (List.mem_of_mem_drop he)
    · cases he
theorem keep_len (c : Cn) (i t : Nat) : (keepC c i t).es.length ≤ c.es.length := by
  unfold keepC
  simp only
  split
  · omega
  split
  · rw [List.length_drop]; omega
  · simp
theorem en_drop {c : Zone} {v : Value} {es : EQ} {f : Nat} (hf : f ≤ es.length) (h : Row c v 4 (es.length - f) (((rowC enC es).drop (f * 4)).take ((es.length - f) * 4))) : Row c v 4 (es.drop f).length (rowC enC (es.drop f)) := by
  rw [rowC_drop enC_len, List.take_of_length_le (by rw [rowC_len enC_len, List.length_drop]; omega)] at h
  rw [List.length_drop]; exact h
theorem keep_none {pl : Pl} {c : Cn} {es : EQ} {ve : Value} (h : CnR pl c es ve) {i t : Nat} (h1 : ¬ (i = c.ix ∧ t = c.ah)) (h2 : ¬ (c.ix < i ∧ i - c.ix ≤ c.es.length ∧ (c.es[i - c.ix - 1]?).map (·.tm) = some t)) : CnR pl (keepC c i t) [] (.slice none 0 0) := by
  refine CnR.nil pl _ ?_
  unfold keepC
  simp only
  rw [if_neg h1, if_neg h2]
theorem keep_all {pl : Pl} {c : Cn} {es : EQ} {ve v2 : Value} (h : CnR pl c es ve) {i t k : Nat} (hk : (i = c.ix ∧ t = c.ah ∧ k = 0) ∨ (¬ (i = c.ix ∧ t = c.ah) ∧ (c.ix < i ∧ i - c.ix ≤ c.es.length ∧ (c.es[i - c.ix - 1]?).map (·.tm) = some t) ∧ k = i - c.ix)) (hr : Row (pz pl) v2 4 (es.drop k).length (rowC enC (es.drop k))) : CnR pl (keepC c i t) (es.drop k) v2 := by
  refine ⟨?_, hr, fun q hq => h.ok q (List.mem_of_mem_drop hq)⟩
  rw [List.map_drop, h.fst]
  unfold keepC
  simp only
  rcases hk with ⟨h1, h2, rfl⟩ | ⟨h1, h2, rfl⟩
  · rw [if_pos ⟨h1, h2⟩, List.drop_zero]
  · rw [if_neg h1, if_pos h2]
theorem en_tm {c : Cn} {es : EQ} (h : es.map (·.1) = c.es) {j : Nat} {q : En × Value} (hq : es[j]? = some q) : (c.es[j]?).map (·.tm) = some q.1.tm := by rw [← h, List.getElem?_map, hq]; rfl

theorem rd_loadP {P : Program} {fr : Fr} {w w0 : World} {z : Zone} {F : List Nat} {os : List Own} {d : Option Tmp} {ty : TypeId} {pos : String} {aft : Array Edge} {gd : Option (Nat × Bool)} {t : TypeId} {x : Operand} (k : Nat) (ht : scalarT P t = true) (hH : Hp w0 w z F os) {a : Addr} (hx : ev fr x = .pointer (some a)) {pl : Pl} (hk : os[k]? = some (plO pl)) {v : Value} (hv : pz pl a = some v) :
    Runs P fr ⟨d, .load t x, ty, pos, aft, gd⟩ v w := rd_load ht hx (pz_le hH k hk a v hv)

theorem drop_k {ds : List PV} {j : Nat} {q : PV} (h : ds[j]? = some q) : (ds.drop j).map (·.k) = q.k :: (ds.drop (j + 1)).map (·.k) := by
  have hl := (List.getElem?_eq_some_iff.1 h).1
  have he := (List.getElem?_eq_some_iff.1 h).2
  rw [List.drop_eq_getElem_cons hl, he]; rfl
theorem KOk.sub3 {w0 w : World} {z : Zone} {F : List Nat} {a b c : Own} {os : List Own} {k : Nat} (h : KOk w0 F k) (hH : Hp w0 w z F (a :: b :: c :: os)) : KOk w (blksOf [a, b, c]) k := KOk.sub (mine := [a, b, c]) h hH

theorem Compact_ct (g db mb ab : Nat) (l : Lg) (i t : Int) (ve : Value) (es : EQ) (pl : Pl) (D : Dsk) (pe : List PE) (M : Nat) (w : World) (hM : Mine w [lgO g db l.c ve ((l.file : Nat) : Int) ((l.long : Nat) : Int) (errV l.bad), plO pl, .grp (dskO db mb ab D pe)]) (hL : CnR pl l.c es ve) (hc : CnOk l.c) (hn : l.c.es.length ≤ 1000000) (hi : i ≤ 9223372036854775807) (ht : t ≤ 9223372036854775807) (hbig0 : ∀ I T : Nat, I < 9223372036854775808 → T < 9223372036854775808 → (recsB (allR (keepC l.c I T))).length ≤ 1073741824)
    (hR : Rep pe D.fs) (hA : ArOk D.ar) (hG : Good D.fs M) (hMM : M ≤ 2147483648) (hN : D.fs.length ≤ 1000) (hfl : l.file < 4294967296) (hTn : KOk w (blksOf [lgO g db l.c ve ((l.file : Nat) : Int) ((l.long : Nat) : Int) (errV l.bad), plO pl, .grp (dskO db mb ab D pe)]) (l.file + 1)) (hks : ∀ k ∈ ksOf D.fs, KOk w (blksOf [lgO g db l.c ve ((l.file : Nat) : Int) ((l.long : Nat) : Int) (errV l.bad), plO pl, .grp (dskO db mb ab D pe)]) k) :
    Fun Tryz.prog 16 [.pointer (some ⟨g, 0, none⟩), .int .i64 i, .int .i64 t] w fun r w' => SavePost g db mb ab l ve pl D pe (compactL D l i t) w r w' := by
 obtain ⟨Ae, ce, rfl, he1, he2⟩ := hL.row.form
 have hc1 := hc.ix
 have hll := hL.len
 refine fun_of_sw Tryz.func16 rfl 143 rfl rfl ?_
 have hH := Hp.start_mine hM
 refine sw_sr <| Go0 1 <| Dn <| sw_seq <| sw_sr <| Go1 3 15 (Pp g 8) <| Gq rfl (Lk 0 hH rfl rfl rfl) <| Gq rfl (rd_err_ne (by kernel_rfl) rfl) <| Dn <| If rfl (fun hc1 => ?_) (fun hc1 => ?_)
 have hb0 : l.bad ≠ 0 := by simpa using hc1
 refine sw_sr <| Go1 3 20 (Pp g 8) <| Gq rfl (Lk 0 hH rfl rfl rfl) <| Go1 1 6 (errV l.bad) <| Dn <| Rt1 rfl rfl ?_
 replace hH := (hH.sb (slk (slk (slk sln)))).n3
 exact save_fin (compactL_bad hb0) rfl hR hL hH.turned
 have hb0 : l.bad = 0 := by simpa using hc1
 refine Sk <| sw_seq <| sw_sr <| Go1 3 24 (.bool (decide ((i : Int) < (0 : Int)))) <| Gi 24 rfl (fun hg2 => ?_) (fun hg2 => ?_)
 have hneg : i < 0 ∨ t < 0 := .inl (by omega)
 refine Go1 3 27 (.bool true) <| Dn <| It <| sw_sr <| Go1 2 6 (.iface 38 (.int .i64 1)) <| Dn <| Rt1 rfl rfl ?_
 replace hH := (hH.sb (slk (slk (slk sln)))).n3
 exact save_fin (compactL_neg hb0 hneg) rfl hR hL hH.turned
 refine Go1 3 27 (.bool (decide ((t : Int) < (0 : Int)))) <| Dn <| If rfl (fun hc4 => ?_) (fun hc4 => ?_)
 have hneg : i < 0 ∨ t < 0 := by omega
 refine sw_sr <| Go1 2 6 (.iface 38 (.int .i64 1)) <| Dn <| Rt1 rfl rfl ?_
 replace hH := (hH.sb (slk (slk (slk sln)))).n3
 exact save_fin (compactL_neg hb0 hneg) rfl hR hL hH.turned
 refine Sk ?_
 obtain ⟨I, rfl⟩ : ∃ I : Nat, i = I := ⟨i.toNat, by omega⟩
 obtain ⟨T, rfl⟩ : ∃ T : Nat, t = T := ⟨t.toNat, by omega⟩
 refine sw_sr <| Go3 3 1 (Ni I) 2 (Ni T) 31 (Pp g 1) <| Gq rfl (La 0 [Ni l.c.term, Ni l.c.vote, Ni l.c.ix, Ni l.c.ah, .slice Ae es.length ce] hH rfl rfl) <| gl_st (Alc [.int .i64 0, .int .i64 0, .int .i64 0, .int .i64 0, .slice none 0 0] rfl hH ?_)
 clear hH; intro b1 w2 hH
 refine gl_st (Ka 3 [Ni l.c.term, Ni l.c.vote, Ni l.c.ix, Ni l.c.ah, .slice Ae es.length ce] [Ni l.c.term, Ni l.c.vote, Ni l.c.ix, Ni l.c.ah, .slice Ae es.length ce] rfl hH rfl rfl ?_)
 clear hH; intro w3 hH
 refine Dn <| sw_sr <| glo 8 [(0, Pp g 0), (1, Ni I), (2, Ni T), (7, Pp b1 0), (34, Pp g 0), (35, Pp g 0), (36, Ni I), (37, Ni T), (40, Pp g 3)] <| gl_st (Ks 0 (Ni I) rfl hH rfl rfl ?_)
 clear hH; intro w4 hH
 refine Go1 3 43 (Pp g 4) <| gl_st (Ks 0 (Ni T) rfl hH rfl rfl ?_)
 clear hH; intro w5 hH
 refine Go1 3 46 (Pp g 5) <| gl_st (Ks 0 (.slice none 0 0) rfl hH rfl rfl ?_)
 clear hH; intro w6 hH
 refine Dn <| sw_sr <| Go2 2 47 (Ni I) 48 (Pp b1 2) <| Gq rfl (Lk 3 hH rfl rfl rfl) <| Gw0 1 50 ((I : Int) - ((l.c.ix : Nat) : Int)) (((I : Nat) : Int) - ((l.c.ix : Nat) : Int)) <| Go1 1 8 (.int .i64 (((I : Nat) : Int) - ((l.c.ix : Nat) : Int))) <| Dn <| Cu (γ := EQ × Option Addr × Nat) hH (fun (es2, A2, c2) => [(0, Pp g 0), (7, Pp b1 0)]) (fun (es2, A2, c2) w_ H_ => (CnR pl (keepC l.c I T) es2 (.slice A2 es2.length c2)) ∧ H_ [.blk g 96 [Pp db 0, Ni l.c.term, Ni l.c.vote, Ni I, Ni T, .slice A2 es2.length c2, Ni l.file, Ni l.long, errV l.bad], plO pl, .grp (dskO db mb ab D pe), .blk b1 94 [Ni l.c.term, Ni l.c.vote, Ni l.c.ix, Ni l.c.ah, .slice Ae es.length ce]]) ?_ ?_
 ·
  refine sw_sr <| Go1 3 53 (.bool ((((I : Nat) : Int) - ((l.c.ix : Nat) : Int)) == (0 : Int))) <| Gi 53 rfl (fun hg5 => ?_) (fun hg5 => ?_)
  have hk0 : I = l.c.ix := by omega
  refine Go2 2 54 (Ni T) 55 (Pp b1 3) <| Gq rfl (Lk 3 hH rfl rfl rfl) <| Go1 3 59 (.bool ((T : Int) == ((l.c.ah : Nat) : Int))) <| Gi 59 rfl (fun hg6 => ?_) (fun hg6 => ?_)
  have hta : T = l.c.ah := by omega
  have hkz : ((I : Nat) : Int) - ((l.c.ix : Nat) : Int) = ((0 : Nat) : Int) := by omega
  refine Go1 21 80 (.bool true) <| Dn <| It <| sw_region <| Go2 2 81 (Pp g 0) 82 (Pp b1 4) <| Gq rfl (Lk 3 hH rfl rfl rfl) <| Go1 1 84 (.int .i64 (((I : Nat) : Int) - ((l.c.ix : Nat) : Int))) <| gl_cv 84 (.int .i64 0) (by rw [hkz] <;> rfl) rfl ?_
  obtain ⟨A9, hc9, hv9⟩ := hL.row.cut (by decide) 0 es.length (by omega) (by omega)
  have hR9 := en_drop (by omega) hv9
  refine Gq rfl (rd_cut (e := 64) (m := 4) (by kernel_rfl) (by kernel_rfl) rfl (.inr ⟨_, _, rfl, rfl⟩) (.inl ⟨rfl, rfl⟩) hc9) ?_
  rw [show es.length - 0 = (es.drop 0).length from (List.length_drop ..).symm] at hR9
  refine gl_cv 85 (.slice A9 ((es.drop 0).length) (ce - 0)) (by rw [List.length_drop]) rfl <| Go1 3 88 (Pp g 5) <| gl_st (Ks 0 (.slice A9 ((es.drop 0).length) (ce - 0)) rfl hH rfl rfl ?_)
  clear hH; intro w7 hH
  refine Dd <| Ce (es.drop 0, A9, ce - 0) ?_
  replace hH := (hH.sb (slk (slk (slk (slk sln))))).n4
  exact ⟨keep_all hL (.inl ⟨hk0, hta, rfl⟩) hR9, hH⟩
  have hta : ¬ T = l.c.ah := by omega
  refine Go1 3 62 (.bool (decide ((((I : Nat) : Int) - ((l.c.ix : Nat) : Int)) > (0 : Int)))) <| Gi 62 rfl (fun hg8 => ?_) (fun hg8 => ?_)
  exfalso; omega
  have hgt : ¬ l.c.ix < I := by omega
  refine Go1 18 80 (.bool false) <| Dn <| Iz <| sw_skip <| Ce ([], none, 0) ?_
  replace hH := (hH.sb (slk (slk (slk (slk sln))))).n4
  exact ⟨keep_none hL (fun h => hta h.2) (fun h => hgt h.1), hH⟩
  have hk0 : ¬ I = l.c.ix := by omega
  refine Go2 9 59 (.bool false) 62 (.bool (decide ((((I : Nat) : Int) - ((l.c.ix : Nat) : Int)) > (0 : Int)))) <| Gi 62 rfl (fun hg10 => ?_) (fun hg10 => ?_)
  have hgt : l.c.ix < I := by omega
  refine Go2 2 63 (.int .i64 (((I : Nat) : Int) - ((l.c.ix : Nat) : Int))) 64 (Pp b1 4) <| Gq rfl (Lk 3 hH rfl rfl rfl) <| Gq rfl (Ln (e := 64) rfl) <| Go1 3 69 (.bool (decide ((((I : Nat) : Int) - ((l.c.ix : Nat) : Int)) ≤ ((es.length : Nat) : Int)))) <| Gi 69 rfl (fun hg11 => ?_) (fun hg11 => ?_)
  have hle : I - l.c.ix ≤ l.c.es.length := by have := hL.len; omega
  refine Go1 1 70 (Pp b1 4) <| Gq rfl (Lk 3 hH rfl rfl rfl) <| Gw0 2 73 ((((I : Nat) : Int) - ((l.c.ix : Nat) : Int)) - 1) ((I - l.c.ix - 1 : Nat) : Int) ?_
  obtain ⟨q, hq⟩ : ∃ q, es[I - l.c.ix - 1]? = some q := ⟨_, List.getElem?_eq_getElem (by omega)⟩
  obtain ⟨p9, hi9, hp9⟩ := hL.row.idx (I - l.c.ix - 1) (by omega) (by decide)
  have htm := en_tm hL.fst hq
  refine Gq rfl (rd_idx (e := 64) (m := 4) (by kernel_rfl) (by kernel_rfl) rfl rfl hi9) <| glo 1 [(0, Pp g 0), (2, Ni T), (7, Pp b1 0), (8, .int .i64 (((I : Nat) : Int) - ((l.c.ix : Nat) : Int))), (59, .bool false), (69, .bool true), (75, .pointer (some (p9.add 1)))] <| Gq rfl (rd_loadP 1 (by kernel_rfl) hH rfl rfl (hp9 1 _ (by decide) (rowC_at enC_len hq 1 (by decide) rfl))) <| Go1 4 80 (.bool (((q.1.tm : Nat) : Int) == (T : Int))) <| Dn <| If rfl (fun hc12 => ?_) (fun hc12 => ?_)
  have hteq : q.1.tm = T := by omega
  have hkz : ((I : Nat) : Int) - ((l.c.ix : Nat) : Int) = ((I - l.c.ix : Nat) : Int) := by omega
  refine sw_region <| Go2 2 81 (Pp g 0) 82 (Pp b1 4) <| Gq rfl (Lk 3 hH rfl rfl rfl) <| Go1 1 84 (.int .i64 (((I : Nat) : Int) - ((l.c.ix : Nat) : Int))) <| gl_cv 84 (Ni (I - l.c.ix)) (by rw [hkz] <;> rfl) rfl ?_
  obtain ⟨A9, hc9, hv9⟩ := hL.row.cut (by decide) (I - l.c.ix) es.length (by omega) (by omega)
  have hR9 := en_drop (by omega) hv9
  refine Gq rfl (rd_cut (e := 64) (m := 4) (by kernel_rfl) (by kernel_rfl) rfl (.inr ⟨_, _, rfl, rfl⟩) (.inl ⟨rfl, rfl⟩) hc9) ?_
  rw [show es.length - (I - l.c.ix) = (es.drop (I - l.c.ix)).length from (List.length_drop ..).symm] at hR9
  refine gl_cv 85 (.slice A9 ((es.drop (I - l.c.ix)).length) (ce - (I - l.c.ix))) (by rw [List.length_drop]) rfl <| Go1 3 88 (Pp g 5) <| gl_st (Ks 0 (.slice A9 ((es.drop (I - l.c.ix)).length) (ce - (I - l.c.ix))) rfl hH rfl rfl ?_)
  clear hH; intro w8 hH
  refine Dd <| Ce (es.drop (I - l.c.ix), A9, ce - (I - l.c.ix)) ?_
  replace hH := (hH.sb (slk (slk (slk (slk sln))))).n4
  exact ⟨keep_all hL (.inr ⟨fun h => hk0 h.1, ⟨hgt, hle, by rw [htm, hteq]⟩, rfl⟩) hR9, hH⟩
  have hteq : ¬ q.1.tm = T := by omega
  refine sw_skip <| Ce ([], none, 0) ?_
  replace hH := (hH.sb (slk (slk (slk (slk sln))))).n4
  exact ⟨keep_none hL (fun h => hk0 h.1) (fun h => hteq (by have := h.2.2; rw [htm] at this; exact Option.some.inj this)), hH⟩
  have hle : ¬ I - l.c.ix ≤ l.c.es.length := by have := hL.len; omega
  refine Go1 11 80 (.bool false) <| Dn <| Iz <| sw_skip <| Ce ([], none, 0) ?_
  replace hH := (hH.sb (slk (slk (slk (slk sln))))).n4
  exact ⟨keep_none hL (fun h => hk0 h.1) (fun h => hle h.2.1), hH⟩
  have hgt : ¬ l.c.ix < I := by omega
  refine Go1 18 80 (.bool false) <| Dn <| Iz <| sw_skip <| Ce ([], none, 0) ?_
  replace hH := (hH.sb (slk (slk (slk (slk sln))))).n4
  exact ⟨keep_none hL (fun h => hk0 h.1) (fun h => hgt h.1), hH⟩
 clear hH
 rintro ⟨es2, A2, c2⟩ w9 ⟨hL2, hH⟩
 refine swk [(0, Pp g 0), (7, Pp b1 0)] <| sw_sr <| Go1 3 92 (Pp g 0) <| Gq rfl (Lk 0 hH rfl rfl rfl) ?_
 have hc9 := hMM
 replace hH : Hp w w9 _ _ ([_] ++ [_, _, _]) := hH.fr3
 refine gl_st (Sc rfl rfl (PartsP_ct db mb ab D pe M _ hH.mine hR hG (by omega) hN) ?_)
 rintro _ w10 ⟨bad, fb, vf, ds, pf, rfl, hps, hpv, hF11⟩
 replace hH := hH.turns hF11
 replace hH := hH.n7
 have hdl : ds.length ≤ D.fs.length := parts_few hps
 obtain ⟨A12, c13, rfl, hl14, hm15⟩ := hH.row_form 4 rfl
 refine Go1 5 9 (.slice A12 ds.length c13) <| Dn <| sw_sr <| Go3 5 97 (Pp g 0) 98 (Pp g 0) 101 (Pp g 6) <| Gq rfl (Lk 0 hH rfl rfl rfl) <| Gw0 1 103 (((l.file : Nat) : Int) + 1) ((l.file + 1 : Nat) : Int) ?_
 obtain ⟨R, hr⟩ : ∃ R, doD D 2 (nameF (l.file + 1)) (recsB (allR (keepC l.c I T))) 0 = R := ⟨_, rfl⟩
 have hcok := cnOk_keep hc (i := I) (t := T) (by omega) (by omega)
 have hl2 := hL2.len
 have hbig := hbig0 I T (by omega) (by omega)
 have hkl := keep_len l.c I T
 replace hH : Hp w w10 _ _ ([_, _, _] ++ [_, _, _, _]) := hH.fr4.fr3.fr3
 refine gl_st (Sc rfl rfl (by have h9 := Begin_ct g db mb ab (l.file + 1) (keepC l.c I T) ((l.file : Nat) : Int) ((l.long : Nat) : Int) (errV l.bad) _ es2 pl D pe M _ hH.mine hL2 hR hA hG (by omega) hcok hbig (by omega) (by omega) (hTn.sub3 hH); unfold BeginPost at h9; rw [hr] at h9; exact h9) ?_)
 rintro _ w16 ⟨pe2, rfl, hR2, hF17⟩
 replace hH := hH.turns hF17
 replace hH := hH.n7
 have hA2 : ArOk R.1.ar := by rw [← hr]; exact arOk_do hA _ _ _ _
 have hG2 : Good R.1.fs (M + (recsB (allR (keepC l.c I T))).length) := by rw [← hr]; exact good_doD hG _ _ _ _
 obtain ⟨RA, hRA⟩ : ∃ RA, remC R.1 R.2 (ds.map (·.k)) = RA := ⟨_, rfl⟩
 have hcl := compactL_is (RA := RA) hb0 rfl hr (by rw [ks_of hps]; exact hRA)
 refine Go1 2 106 (Pp g 8) <| gl_st (Ks 4 (errV R.2) rfl hH rfl rfl (hv := (errW_one _ _)) ?_)
 clear hH; intro w18 hH
 refine Dn <| sw_seq <| sw_sr <| Go1 1 107 (.slice A12 ds.length c13) <| Gq rfl (Ln (e := 106) rfl) <| Go1 1 109 (.int .i64 0) <| Dn <| sw_block ?_
 replace hH := hH.fr2.fr7.fr7.fr7
 replace hH := (hH.sb (slk (slk (slk (slk (slk sln)))))).n5
 refine Lp (γ := Nat × Dsk × Nat × List PE) hH (fun (j, Dj, ej, pej) => [(0, Pp g 0), (7, Pp b1 0), (107, .slice A12 ds.length c13), (108, Ni ds.length), (109, Ni j)]) (fun (j, Dj, ej, pej) w_ H_ => (j ≤ ds.length) ∧ (Rep pej Dj.fs) ∧ (ArOk Dj.ar) ∧ (Good Dj.fs (M + (recsB (allR (keepC l.c I T))).length)) ∧ (remC Dj ej ((ds.drop j).map (·.k)) = RA) ∧ H_ [.blk g 96 [Pp db 0, Ni l.c.term, Ni l.c.vote, Ni I, Ni T, .slice A2 es2.length c2, Ni (l.file + 1), Ni ((recsB (allR (keepC l.c I T))).length), errV ej], plO pl, .grp (dskO db mb ab Dj pej), .row (.slice A12 ds.length c13) 106 4 ds.length (rowC pvC ds), .blk b1 94 [Ni l.c.term, Ni l.c.vote, Ni l.c.ix, Ni l.c.ah, .slice Ae es.length ce]]) (fun (j, Dj, ej, pej) => ds.length - j) (0, R.1, R.2, pe2) ?_ ?_
 · exact ⟨by omega, hR2, hA2, hG2, by rw [List.drop_zero]; exact hRA, hH⟩
 clear hH
 rintro ⟨j, Dj, ej, pej⟩ w19 ⟨hj, hRj, hAj, hGj, hrem, hH⟩
 refine swk [(0, Pp g 0), (7, Pp b1 0), (107, .slice A12 ds.length c13), (108, Ni ds.length), (109, Ni j)] <| sw_sr <| Go1 1 110 (.bool (decide ((j : Int) < ((ds.length : Nat) : Int)))) <| Dn <| sw_seq <| If rfl (fun hc15 => ?_) (fun hc15 => ?_)
 refine Sk <| sw_seq <| sw_block ?_
 obtain ⟨q, hq⟩ : ∃ q, ds[j]? = some q := ⟨_, List.getElem?_eq_getElem (by omega)⟩
 have hqk := (hpv q (List.mem_of_getElem? hq)).k
 have hT9 := hks q.k (by rw [ks_of hps]; exact List.mem_map.2 ⟨q, List.mem_of_getElem? hq, rfl⟩)
 refine sw_sr ?_
 obtain ⟨b21, hb20, hi22⟩ := hH.row_idx 3 rfl j (by omega)
 refine Gq rfl (Ix (e := 106) 4 rfl rfl hi22) <| Gq rfl (rd_loadOA (q := 4) 3 (by kernel_rfl) hH rfl rfl hb20 (by kernel_rfl) [Ni q.k, Ni q.whole, .bool q.more, .slice q.A q.rs.length q.cap] rfl (rowC_allO pvC_len hq _ rfl)) <| gl_st (Alc [.int .i64 0, .int .i64 0, .bool false, .slice none 0 0] rfl hH ?_)
 clear hH; intro b23 w24 hH
 refine gl_st (Ka 5 [Ni q.k, Ni q.whole, .bool q.more, .slice q.A q.rs.length q.cap] [Ni q.k, Ni q.whole, .bool q.more, .slice q.A q.rs.length q.cap] rfl hH rfl rfl ?_)
 clear hH; intro w25 hH
 refine Dn <| sw_sr <| Go1 3 115 (Pp g 8) <| Gq rfl (Lk 0 hH rfl rfl rfl) <| Gq rfl (rd_err_eq (by kernel_rfl) rfl) <| Dn <| If rfl (fun hc16 => ?_) (fun hc16 => ?_)
 have hz9 : ej = 0 := by omega
 refine Dr hH (slc (slk (slc (slk (slk (slk sln)))))) ?_
 clear hH; intro w26 hH hS9
 refine Gp3 5 [0,1,2,3,5] 118 (Pp g 0) 121 (Pp g 0) 123 (Pp b23 0) hS9 <| Dq 6 rfl (fun _ hS => (Lk 3 hS rfl rfl rfl)) hS9 <| gd_st2 4 7 (by kernel_rfl) ?_ ?_
 refine st_q rfl rfl rfl (Lk 0 hH rfl rfl rfl) <| Nl hS9 fun hS9 => gdk [(0, Pp g 0), (7, Pp b1 0), (107, .slice A12 ds.length c13), (108, Ni ds.length), (109, Ni j), (118, Pp g 0), (122, Pp db 0), (124, Ni q.k)] <| gds 7 (Sc rfl rfl (Name_ct q.k _ (by omega) (hT9.now hH)) ?_)
 rintro _ w27 ⟨rfl, hF28⟩
 replace hH := hH.call hF28
 refine Nl (hH.sb (slc (slk (slc (slk (slk (slk sln))))))) fun hS9 => ?_
 obtain ⟨S, hs⟩ : ∃ S, doD Dj 4 (nameF q.k) [] 0 = S := ⟨_, rfl⟩
 replace hH : Hp w w27 _ _ ([_] ++ [_, _, _, _, _]) := hH.fr3
 refine gds 8 (Sc rfl rfl (by have h9 := Remove_ct db mb ab Dj pej (nameF q.k) (M + (recsB (allR (keepC l.c I T))).length) _ hH.mine hRj hAj hGj (by omega) (by have := nameF_short q.k (by omega); omega); rw [hs] at h9; exact h9) ?_)
 rintro _ w29 ⟨pe3, rfl, hR3, hF30⟩
 replace hH := hH.turns hF30
 replace hH := hH.n6
 have hA3 : ArOk S.1.ar := by rw [← hs]; exact arOk_do hAj _ _ _ _
 have hG3 : Good S.1.fs (M + (recsB (allR (keepC l.c I T))).length) := by rw [← hs]; exact (good_doD hGj _ _ _ _).mono (by simp)
 refine Nl (hH.sb (slc (slk (slk (slk (slk sln)))))) fun hS9 => Gp1 2 [9,10] 128 (Pp g 8) hS9 <| gds 11 (Ks 0 (errV S.2) rfl hH rfl rfl (hv := (errW_one _ _)) ?_)
 clear hH; intro w31 hH
 refine Nl (hH.sb (slc (slk (slk (slk (slk sln)))))) fun hS9 => gdn [(0, Pp g 0), (7, Pp b1 0), (107, .slice A12 ds.length c13), (108, Ni ds.length), (109, Ni j)] <| bkN <| sw_next <| sw_region <| Gw0 1 129 ((j : Int) + 1) ((j + 1 : Nat) : Int) <| Go1 1 109 (Ni (j + 1)) <| Dd <| rnd_end (g := (j, Dj, ej, pej)) (j + 1, S.1, S.2, pe3) (by kernel_rfl) ?_ ?_
 replace hH := hH.fr4.fr4.fr6.fr5.fr5
 replace hH := (hH.sb (slk (slk (slk (slk (slk sln)))))).n5
 · exact ⟨by omega, hR3, hA3, hG3, by rw [drop_k hq, hz9, remC_next, hs] at hrem; exact hrem, hH⟩
 · show ds.length - (j + 1) < ds.length - j; omega
 refine Sc rfl rfl (Name_ct q.k _ (by omega) (hT9.now hH)) ?_
 rintro _ w32 ⟨rfl, hF33⟩
 replace hH := hH.call hF33
 refine Nl (hH.sb (slc (slk (slc (slk (slk (slk sln))))))) fun hS9 => gdk [(0, Pp g 0), (7, Pp b1 0), (107, .slice A12 ds.length c13), (108, Ni ds.length), (109, Ni j), (118, Pp g 0), (121, Pp g 0), (125, .string (bs (nameF q.k)))] <| gds 4 (st_q rfl rfl rfl (Lk 0 hH rfl rfl rfl) ?_)
 refine Nl hS9 fun hS9 => ?_
 obtain ⟨S, hs⟩ : ∃ S, doD Dj 4 (nameF q.k) [] 0 = S := ⟨_, rfl⟩
 replace hH : Hp w w32 _ _ ([_] ++ [_, _, _, _, _]) := hH.fr3
 refine gds 8 (Sc rfl rfl (by have h9 := Remove_ct db mb ab Dj pej (nameF q.k) (M + (recsB (allR (keepC l.c I T))).length) _ hH.mine hRj hAj hGj (by omega) (by have := nameF_short q.k (by omega); omega); rw [hs] at h9; exact h9) ?_)
 rintro _ w34 ⟨pe3, rfl, hR3, hF35⟩
 replace hH := hH.turns hF35
 replace hH := hH.n6
 have hA3 : ArOk S.1.ar := by rw [← hs]; exact arOk_do hAj _ _ _ _
 have hG3 : Good S.1.fs (M + (recsB (allR (keepC l.c I T))).length) := by rw [← hs]; exact (good_doD hGj _ _ _ _).mono (by simp)
 refine Nl (hH.sb (slc (slk (slk (slk (slk sln)))))) fun hS9 => Gp1 2 [9,10] 128 (Pp g 8) hS9 <| gds 11 (Ks 0 (errV S.2) rfl hH rfl rfl (hv := (errW_one _ _)) ?_)
 clear hH; intro w36 hH
 refine Nl (hH.sb (slc (slk (slk (slk (slk sln)))))) fun hS9 => gdn [(0, Pp g 0), (7, Pp b1 0), (107, .slice A12 ds.length c13), (108, Ni ds.length), (109, Ni j)] <| bkN <| sw_next <| sw_region <| Gw0 1 129 ((j : Int) + 1) ((j + 1 : Nat) : Int) <| Go1 1 109 (Ni (j + 1)) <| Dd <| rnd_end (g := (j, Dj, ej, pej)) (j + 1, S.1, S.2, pe3) (by kernel_rfl) ?_ ?_
 replace hH := hH.fr4.fr4.fr6.fr5.fr5
 replace hH := (hH.sb (slk (slk (slk (slk (slk sln)))))).n5
 · exact ⟨by omega, hR3, hA3, hG3, by rw [drop_k hq, hz9, remC_next, hs] at hrem; exact hrem, hH⟩
 · show ds.length - (j + 1) < ds.length - j; omega
 have hz9 : ej ≠ 0 := by omega
 refine sw_skip <| bkN <| sw_next <| sw_region <| Gw0 1 129 ((j : Int) + 1) ((j + 1 : Nat) : Int) <| Go1 1 109 (Ni (j + 1)) <| Dd <| rnd_end (g := (j, Dj, ej, pej)) (j + 1, Dj, ej, pej) (by kernel_rfl) ?_ ?_
 replace hH := (hH.sb (slk (slk (slk (slk (slk sln)))))).n5
 · exact ⟨by omega, hRj, hAj, hGj, by rw [drop_k hq] at hrem; rw [← hrem]; exact remC_stop hz9 _ _, hH⟩
 · show ds.length - (j + 1) < ds.length - j; omega
 refine sw_exit <| thX <| thX <| bkH <| sw_next <| sw_seq ?_
 have hje : j = ds.length := by omega
 subst hje
 rw [List.drop_length, show ([] : List PV).map (·.k) = [] from rfl, remC_end] at hrem
 subst hrem
 refine sw_sr <| Go1 3 132 (Pp g 8) <| Gq rfl (Lk 0 hH rfl rfl rfl) <| Gq rfl (rd_err_ne (by kernel_rfl) rfl) <| Dn <| If rfl (fun hc17 => ?_) (fun hc17 => ?_)
 have hz9 : ej ≠ 0 := by omega
 refine sw_region <| Go1 1 135 (Pp g 0) <| Gq rfl (La 4 [Ni l.c.term, Ni l.c.vote, Ni l.c.ix, Ni l.c.ah, .slice Ae es.length ce] hH rfl rfl) <| Go1 2 138 (Pp g 1) <| gl_st (Ka 0 [Ni l.c.term, Ni l.c.vote, Ni l.c.ix, Ni l.c.ah, .slice Ae es.length ce] [Pp db 0, Ni l.c.term, Ni l.c.vote, Ni l.c.ix, Ni l.c.ah, .slice Ae es.length ce, Ni (l.file + 1), Ni ((recsB (allR (keepC l.c I T))).length), errV ej] rfl hH rfl rfl ?_)
 clear hH; intro w37 hH
 refine Dd <| sw_next <| sw_sr <| Go1 3 141 (Pp g 8) <| Gq rfl (Lk 0 hH rfl rfl rfl) <| Go1 1 6 (errV ej) <| Dn <| Rt1 rfl rfl ?_
 replace hH := (hH.sb (slk (slk (slk sln)))).n3
 rw [if_neg hz9] at hcl
 exact save_fin hcl rfl hRj hL hH.turned
 have hz9 : ej = 0 := by omega
 refine Sk <| sw_sr <| Go1 3 141 (Pp g 8) <| Gq rfl (Lk 0 hH rfl rfl rfl) <| Go1 1 6 (errV ej) <| Dn <| Rt1 rfl rfl ?_
 replace hH := (hH.sb (slk (slk (slk sln)))).n3
 rw [if_pos hz9] at hcl
 exact save_fin hcl rfl hRj hL2 hH.turned
end Go.Proofs.YtajapgjemefoiaaGreatDoor
/- Laws 19: all that a log says; are two of these alike? What they answer. -/
set_option maxRecDepth 100000
set_option maxHeartbeats 4000000
set_option linter.unusedVariables false
set_option linter.unusedSimpArgs false
namespace Go.Proofs.YtajapgjemefoiaaGreatDoor
open Go.RowKit Go.SW
def enRow (q : En × Value) : Own := .row q.2 5 1 q.1.d.length (bv q.1.d)
def enRows (rs : EQ) : Own := .grp (rs.map enRow)
theorem en_setd {rs es : EQ} {i : Nat} {q : En × Value} (hl : rs.length = i) (hq : es[i]? = some q) (v : Value) : (rowC enC (rs ++ es.drop i)).set (i * 4 + 3) v = rowC enC ((rs ++ [(q.1, v)]) ++ es.drop (i + 1)) := by
  have hi := (List.getElem?_eq_some_iff.1 hq).1
  have he := (List.getElem?_eq_some_iff.1 hq).2
  have e1 : rowC enC (rs ++ es.drop i) = rowC enC rs ++ (enC q ++ rowC enC (es.drop (i + 1))) := by
    rw [← rowC_app, List.drop_eq_getElem_cons hi, he]; rfl
  have e2 : rowC enC ((rs ++ [(q.1, v)]) ++ es.drop (i + 1)) = rowC enC rs ++ (enC (q.1, v) ++ rowC enC (es.drop (i + 1))) := by
    rw [← rowC_app, ← rowC_app, List.append_assoc]; rfl
  have hlen : (rowC enC rs).length = i * 4 := by rw [rowC_len enC_len, hl]
  rw [e1, e2, List.set_append_right _ _ (by omega), hlen, Nat.add_sub_cancel_left]; rfl
theorem enV_of {c : Zone} {es : EQ} (h : ∀ q ∈ es, RB c q.2 q.1.d) : EnV es := fun q hq => by
  obtain ⟨A, cap, e, _⟩ := (h q hq).row.form
  exact ⟨A, _, cap, e⟩
theorem en_get {rs es : EQ} {i : Nat} {q : En × Value} (hl : rs.length = i) (hq : es[i]? = some q) : (rs ++ es.drop i)[i]? = some q := by
  rw [List.getElem?_append_right (by omega), hl, Nat.sub_self, List.getElem?_drop]; exact hq
theorem enRows_rb {w0 w : World} {z : Zone} {F : List Nat} {os : List Own} (hH : Hp w0 w z F os) (k : Nat) {rs : EQ} (hk : os[k]? = some (enRows rs)) : ∀ q ∈ rs, RB w.cell? q.2 q.1.d := by
  intro q hq
  have h : ∀ o ∈ rs.map enRow, o.at w := hH.own _ (List.mem_of_getElem? hk)
  exact Row.of_own (h (enRow q) (List.mem_map.2 ⟨q, hq, rfl⟩))
def eaN (e : En) : EA := ⟨e.ix, e.tm, e.kd, e.d⟩
def eiN (rs : EQ) : EI := rs.map fun q => (eaN q.1, q.2)
theorem row_eiN (rs : EQ) : rowC enC rs = rowC eiC (eiN rs) := by
  unfold rowC eiN
  rw [List.map_map]; rfl
theorem eiN_fst (rs : EQ) : (eiN rs).map (·.1) = (rs.map (·.1)).map eaN := by
  unfold eiN
  rw [List.map_map, List.map_map]; rfl
theorem eiN_len (rs : EQ) : (eiN rs).length = rs.length := by simp [eiN]
theorem eiN_rb {c : Zone} {rs : EQ} (h : ∀ q ∈ rs, RB c q.2 q.1.d) : ∀ q ∈ eiN rs, RB c q.2 q.1.d := by
  intro q hq
  obtain ⟨x, hx, rfl⟩ := List.mem_map.1 hq
  exact h x hx

theorem tk_next {es : EQ} {i : Nat} {e : En} {v : Value} (h : es[i]? = some (e, v)) : (es.map (·.1)).take (i + 1) = (es.map (·.1)).take i ++ [e] := by
  have hi := (List.getElem?_eq_some_iff.1 h).1
  have he := (List.getElem?_eq_some_iff.1 h).2
  rw [List.take_succ_eq_append_getElem (by rw [List.length_map]; exact hi), List.getElem_map, he]

theorem Entries_ct (g : Nat) (ve : Value) (es : EQ) (w : World) (h5 : w.cell? ⟨g, 5, none⟩ = some ve) (hE : Row w.cell? ve 4 es.length (rowC enC es)) (hD : ∀ q ∈ es, RB w.cell? q.2 q.1.d) (hdl : ∀ q ∈ es, q.1.d.length ≤ 1048576) (hl : es.length ≤ 1048576) :
    Fun Tryz.prog 25 [.pointer (some ⟨g, 0, none⟩)] w fun v w' => ∃ v1 rs, v = v1 ∧ rs.map (·.1) = es.map (·.1) ∧ Fresh w w' [.row v1 64 4 rs.length (rowC enC rs), enRows rs] := by
 obtain ⟨Ae, ce, rfl, he1, he2⟩ := hE.form
 refine fun_of_sw Tryz.func25 rfl 28 rfl rfl ?_
 have hH := Hp.start w
 refine sw_sr <| Go0 1 <| Dn <| sw_sr <| Go1 4 8 (.pointer (some ⟨g, 5, none⟩)) <| Gq rfl (rd_load (by kernel_rfl) rfl (hH.zin _ _ h5)) <| gl_st (Sc rfl rfl (EClone_ct _ es _ (hE.mono hH.zin) (enV_of hD) (by omega)) ?_)
 rintro _ w2 ⟨v1, rfl, hF3⟩
 replace hH := hH.call hF3
 obtain ⟨A4, c5, rfl, hl6, hm7⟩ := hH.row_form 0 rfl
 refine Go1 1 3 (.slice A4 es.length c5) <| Dn <| sw_seq <| sw_sr <| Go1 1 11 (.slice A4 es.length c5) <| Gq rfl (Ln (e := 64) rfl) <| Go1 1 13 (.int .i64 0) <| Dn <| sw_block ?_
 replace hH := hH.nogrp
 replace hH : Hp w w2 _ _ [.row (.slice A4 es.length c5) 64 4 es.length (rowC enC es), enRows []] := hH
 replace hH := (hH.sb (slk (slk sln))).n2
 refine Lp (γ := Nat × EQ) hH (fun (i, rs) => [(3, .slice A4 es.length c5), (12, Ni es.length), (13, Ni i)]) (fun (i, rs) w_ H_ => (i ≤ es.length) ∧ (rs.length = i) ∧ (rs.map (·.1) = (es.map (·.1)).take i) ∧ H_ [.row (.slice A4 es.length c5) 64 4 es.length (rowC enC (rs ++ es.drop i)), enRows rs]) (fun (i, rs) => es.length - i) (0, []) ?_ ?_
 · exact ⟨by omega, rfl, rfl, hH⟩
 clear hH
 rintro ⟨i, rs⟩ w8 ⟨hi, hrl, hrf, hH⟩
 refine swk [(3, .slice A4 es.length c5), (12, Ni es.length), (13, Ni i)] <| sw_sr <| Go1 1 14 (.bool (decide ((i : Int) < ((es.length : Nat) : Int)))) <| Dn <| sw_seq <| If rfl (fun hc1 => ?_) (fun hc1 => ?_)
 refine Sk <| sw_seq <| sw_block <| sw_sr <| Go1 2 4 (Ni i) <| Dn ?_
 obtain ⟨⟨ex, vx⟩, hq⟩ : ∃ q, es[i]? = some q := ⟨_, List.getElem?_eq_getElem (by omega)⟩
 have kq : RB w.cell? vx ex.d := hD _ (List.mem_of_getElem? hq)
 obtain ⟨Ad, cd, rfl, _, _⟩ := kq.row.form
 have hdl2 := hdl _ (List.mem_of_getElem? hq)
 simp only at hdl2
 refine sw_region ?_
 obtain ⟨b10, hb9, hi11⟩ := hH.row_idx 0 rfl i (by omega)
 refine Go4 4 16 (.slice A4 es.length c5) 17 (Ni i) 18 (.slice A4 es.length c5) 19 (Ni i) <| Gq rfl (Ix (e := 64) 4 rfl rfl hi11) <| Go1 1 21 (Pp b10 (i * 4 + 3)) <| Gq rfl (Lo 0 hH rfl rfl hb9 (rowC_at enC_len (en_get hrl hq) 3 (by decide) rfl)) <| gl_st (Sc rfl rfl (SClone_ct _ ex.d _ (kq.mono hH.zin) (by omega)) ?_)
 rintro _ w14 ⟨v12, rfl, hF15⟩
 replace hH := hH.call hF15
 obtain ⟨A16, c17, rfl, hl18, hm19⟩ := hH.row_form 2 rfl
 obtain ⟨b21, hb20, hi22⟩ := hH.row_idx 0 rfl i (by omega)
 refine Gq rfl (Ix (e := 64) 4 rfl rfl hi22) <| Go1 1 25 (Pp b21 (i * 4 + 3)) <| gl_st (So 0 (.slice A16 ex.d.length c17) rfl hH rfl rfl hb20 (by rw [rowC_len enC_len, List.length_append, List.length_drop]; omega) ?_)
 clear hH; intro w23 hH
 replace hH := hH.row_eq 0 (l' := es.length) (xs' := rowC enC ((rs ++ [(ex, Value.slice A16 ex.d.length c17)]) ++ es.drop (i + 1))) rfl (rfl) (en_setd hrl hq _)
 replace hH := hH.fr3.fr3
 replace hH := hH.merge
 replace hH := hH.cast (os' := [enRows (rs ++ [(ex, Value.slice A16 ex.d.length c17)]), .row (.slice A4 es.length c5) 64 4 es.length (rowC enC ((rs ++ [(ex, Value.slice A16 ex.d.length c17)]) ++ es.drop (i + 1)))]) (by simp [enRows, enRow])
 refine Dd <| bkN <| sw_next <| sw_region <| Gw0 1 26 ((i : Int) + 1) ((i + 1 : Nat) : Int) <| Go1 1 13 (Ni (i + 1)) <| Dd <| rnd_end (g := (i, rs)) (i + 1, rs ++ [(ex, Value.slice A16 ex.d.length c17)]) (by kernel_rfl) ?_ ?_
 replace hH := hH.fr2
 replace hH := (hH.sb (slk (slk sln))).n2
 · exact ⟨by omega, by rw [List.length_append, hrl]; rfl, by rw [List.map_append, hrf, List.map_singleton]; exact (tk_next hq).symm, hH⟩
 · show es.length - (i + 1) < es.length - i; omega
 refine sw_exit <| thX <| thX <| bkH <| sw_next <| sw_sr <| Go1 2 2 (.slice A4 es.length c5) <| Dn <| Rt1 rfl rfl ?_
 replace hH := (hH.sb (slk (slk sln))).n2
 have hie : i = es.length := by omega
 have hrl2 : rs.length = es.length := by omega
 rw [hie, List.drop_length, List.append_nil] at hH
 rw [hie, List.take_of_length_le (by simp)] at hrf
 exact ⟨_, rs, rfl, hrf, (hH.cast (by rw [hrl2])).fresh⟩
end Go.Proofs.YtajapgjemefoiaaGreatDoor
/- Layer 19 (wal): what holds of a disk with a log, act by act: sizes, numbers; letting entries go; starting and opening. Plain mathematics. -/
set_option linter.unusedVariables false
namespace Go.Proofs.YtajapgjemefoiaaGreatDoor
open Go.SW Go.RowKit
theorem recB_le (r : Rc) : (recB r).length ≤ 53 + r.d.length := by
  have h1 := numB_le r.k
  have h2 := numB_le r.a
  have h3 := numB_le r.b
  have h4 := numB_le r.c
  have h5 := numB_le r.d.length
  have h6 : (recP r).length ≤ 45 + r.d.length := by
    unfold recP blobB
    simp only [List.length_append]
    split
    · split
      · simp only [List.length_append, List.length_nil]; omega
      · simp only [List.length_append]; omega
    · simp only [List.length_nil]; omega
  unfold recB frameO
  split
  · simp
  · rw [frameB_length]; omega
def wE (es : List En) : Nat := (recsB (es.map enR)).length
theorem wE_app (a b : List En) : wE (a ++ b) = wE a + wE b := by unfold wE; rw [List.map_append, recsB_app, List.length_append]
theorem wE_take (es : List En) (k : Nat) : wE (es.take k) ≤ wE es := by
  have := wE_app (es.take k) (es.drop k)
  rw [List.take_append_drop] at this
  omega
theorem wE_drop (es : List En) (k : Nat) : wE (es.drop k) ≤ wE es := by
  have := wE_app (es.take k) (es.drop k)
  rw [List.take_append_drop] at this
  omega
theorem wE_one (e : En) : wE [e] ≤ 53 + e.d.length := by
  unfold wE
  have : recsB ([e].map enR) = recB (enR e) := by simp [recsB]
  rw [this]
  exact recB_le (enR e)
def wtA (es : List EA) : Nat := (es.map fun e => 5 + e.d.length).sum
theorem wtA_cons (e : EA) (es : List EA) : wtA (e :: es) = 5 + e.d.length + wtA es := by simp [wtA]
theorem putsA_w : ∀ {es : List EA} {c c' : Cn}, putsA c es = some c' → wE c'.es ≤ wE c.es + 11 * wtA es ∧ 5 * c'.es.length ≤ 5 * c.es.length + wtA es
  | [], c, c', h => by cases h; simp [wtA]
  | e :: es, c, c', h => by
    rw [putsA] at h
    split at h
    · cases h
    · obtain ⟨c1, h1, h2⟩ := Option.bind_eq_some_iff.1 h
      obtain ⟨a1, a2⟩ := putsA_w h2
      obtain ⟨_, _, rfl⟩ := putC_some h1
      simp only at a1 a2
      have h3 := wE_take c.es (e.en.ix - c.ix - 1)
      have h4 := wE_one e.en
      have h5 : e.en.d.length = e.d.length := rfl
      rw [wE_app] at a1
      rw [List.length_append, List.length_take, List.length_singleton] at a2
      rw [wtA_cons]
      constructor <;> omega
theorem wE_en : ∀ (es : List EA), wE (es.map EA.en) ≤ 11 * wtA es
  | [] => by simp [wE, recsB, wtA]
  | e :: es => by
    have h1 := wE_en es
    have h2 := wE_one e.en
    have h3 : e.en.d.length = e.d.length := rfl
    have h4 := wE_app [e.en] (es.map EA.en)
    rw [List.map_cons, wtA_cons]
    rw [List.singleton_append] at h4
    omega
theorem saveB_le (c : Cn) (T V : Nat) (es : List EA) : (saveB c T V (es.map EA.en)).length ≤ 53 + 11 * wtA es := by
  have h1 := wE_en es
  unfold saveB
  rw [List.length_append]
  have h2 : (if T ≠ c.term ∨ V ≠ c.vote then recB (stR T V) else []).length ≤ 53 := by
    split
    · exact recB_le (stR T V)
    · simp
  unfold wE at h1
  omega
theorem saveR_len (c : Cn) (T V : Nat) (es : List EA) : 5 * (saveR c T V (es.map EA.en)).length ≤ 5 + wtA es := by
  unfold saveR
  rw [List.length_append, List.length_map, List.length_map]
  have h1 : (if T ≠ c.term ∨ V ≠ c.vote then [stR T V] else []).length ≤ 1 := by split <;> simp
  have h2 : 5 * es.length ≤ wtA es := by
    induction es with
    | nil => simp
    | cons e es ih => rw [List.length_cons, wtA_cons]; omega
  omega
theorem keep_w (c : Cn) (i t : Nat) : wE (keepC c i t).es ≤ wE c.es := by
  unfold keepC
  simp only
  split
  · omega
  split
  · exact wE_drop _ _
  · simp [wE, recsB]
theorem allR_le (c : Cn) : (recsB (allR c)).length ≤ 106 + wE c.es := by
  have e : recsB (allR c) = recB (baR c.ix c.ah) ++ (recB (stR c.term c.vote) ++ recsB (c.es.map enR)) := rfl
  have h1 := recB_le (baR c.ix c.ah)
  have h2 := recB_le (stR c.term c.vote)
  rw [e, List.length_append, List.length_append]
  unfold wE
  simp only [baR, stR, List.length_nil] at h1 h2
  simp only [baR, stR]
  omega
theorem rem_segs : ∀ (segs : List (List Rc)) (lo : Nat) (D : Dsk) (G : List Fil), D.off = false → D.ar = none → Srt D.fs → D.fs.Perm (segFs lo segs ++ G) → (∀ g ∈ G, ∀ k, lo ≤ k → k < lo + segs.length → g.name ≠ nameF k) → lo + segs.length ≤ 1000000000 →
    ∃ F', remAll D ((segPs lo segs).map (·.k)) = ({ D with fs := F' }, 0) ∧ Srt F' ∧ F'.Perm G
  | [], lo, D, G, h1, h2, hS, hp, _, _ => ⟨D.fs, rfl, hS, by simpa [segFs] using hp⟩
  | rs :: ss, lo, D, G, h1, h2, hS, hp, hG, hf => by
    rw [List.length_cons] at hf
    have hm : (⟨nameF lo, recsB rs, (recsB rs).length⟩ : Fil) ∈ segFs lo (rs :: ss) ++ G := List.mem_append_left _ List.mem_cons_self
    have hg := getF_perm hS hp hm
    have r1 := doD_quiet (D := D) h2 (kind := 4) (nm := nameF lo) (p := []) (n := 0) (may_log_at h1 (by omega) hg) (fun h => absurd h.1 (by decide))
    have e1 : doF D.fs 4 (nameF lo) [] (0 : Int).toNat = delF D.fs (nameF lo) := rfl
    rw [e1] at r1
    have hd : (delF D.fs (nameF lo)).Perm (segFs (lo + 1) ss ++ G) := by
      refine (delF_perm hp _).trans ?_
      have e2 : delF (segFs lo (rs :: ss) ++ G) (nameF lo) = segFs (lo + 1) ss ++ G := by
        show delF (([⟨nameF lo, recsB rs, (recsB rs).length⟩] ++ segFs (lo + 1) ss) ++ G) (nameF lo) = _
        rw [delF_app, delF_app]
        have d1 : delF [(⟨nameF lo, recsB rs, (recsB rs).length⟩ : Fil)] (nameF lo) = [] := delF_self _
        have d2 : delF (segFs (lo + 1) ss) (nameF lo) = segFs (lo + 1) ss := delF_off fun f hf2 e => by
          obtain ⟨j, h3, h4⟩ := segFs_name ss (lo + 1) f hf2
          have := nameF_inj (h4.symm.trans e)
          omega
        have d3 : delF G (nameF lo) = G := delF_off fun g hg2 => hG g hg2 lo (Nat.le_refl _) (by simp)
        rw [d1, d2, d3, List.nil_append]
      rw [e2]
    obtain ⟨F', h5, h6, h7⟩ := rem_segs ss (lo + 1) { D with fs := delF D.fs (nameF lo) } G h1 h2 (srt_del hS _) hd (fun g hg2 k hk1 hk2 => hG g hg2 k (by omega) (by rw [List.length_cons]; omega)) (by omega)
    refine ⟨F', ?_, h6, h7⟩
    show remAll D (lo :: (segPs (lo + 1) ss).map (·.k)) = _
    rw [remAll_cons, r1, if_neg (fun h => h rfl)]
    exact h5
theorem ks_on {D : Dsk} {l : Lg} {lo : Nat} {segs : List (List Rc)} (h : LogOn D l lo segs) : ksOf D.fs = (segPs lo segs).map (·.k) := by
  obtain ⟨ps, h1, h2⟩ := parts_on h
  unfold ksOf
  rw [h1, Option.map_some, Option.getD_some, h2]
theorem segPs_k : ∀ (segs : List (List Rc)) (lo : Nat), ∀ p ∈ segPs lo segs, lo ≤ p.k ∧ p.k < lo + segs.length
  | [], _ => fun p h => by cases h
  | rs :: ss, lo => fun p h => by
    rw [List.length_cons]
    rcases List.mem_cons.1 h with rfl | h
    · simp only; omega
    · have := segPs_k ss (lo + 1) p h; omega
theorem allR_ok {c : Cn} (h : CnOk c) : ∀ r ∈ allR c, RcOk r := by
  intro r hr
  unfold allR at hr
  rcases List.mem_cons.1 hr with rfl | hr
  · exact baR_ok h.ix h.ah
  rcases List.mem_cons.1 hr with rfl | hr
  · exact stR_ok h.term h.vote
  · obtain ⟨e, he, rfl⟩ := List.mem_map.1 hr
    exact h.es e he
theorem ens_do : ∀ (es : List En) (c : Cn), (∀ (j : Nat) (e : En), es[j]? = some e → e.ix = c.ix + 1 + c.es.length + j) → doAll c (es.map enR) false = some { c with es := c.es ++ es }
  | [], c, _ => by
    show some c = _
    rw [List.append_nil]
  | e :: es, c, h => by
    have h0 := h 0 e rfl
    have hp : putC c e = some { c with es := c.es ++ [e] } := by
      unfold putC
      rw [if_neg (by omega), List.take_of_length_le (by omega)]
    have h1 : doC c (enR e) false = some { c with es := c.es ++ [e] } := by
      unfold doC
      rw [if_neg (by simp [enR]), if_pos (show (enR e).k = 2 from rfl)]
      exact hp
    have ih := ens_do es { c with es := c.es ++ [e] } (fun j x hx => by
      have := h (j + 1) x (by rw [List.getElem?_cons_succ]; exact hx)
      simp only [List.length_append, List.length_singleton]; omega)
    show (doC c (enR e) false).bind (fun c' => doAll c' (es.map enR) false) = _
    rw [h1]
    simp only [Option.bind_some]
    rw [ih]
    simp
theorem allR_do {c : Cn} (h : CnOk c) : doAll Cn.zero (allR c) true = some c := by
  unfold allR
  show (doC Cn.zero (baR c.ix c.ah) true).bind (fun c' => (doC c' (stR c.term c.vote) false).bind fun c' => doAll c' (c.es.map enR) false) = _
  have e1 : doC Cn.zero (baR c.ix c.ah) true = some ⟨0, 0, c.ix, c.ah, []⟩ := rfl
  have e2 : doC ⟨0, 0, c.ix, c.ah, []⟩ (stR c.term c.vote) false = some ⟨c.term, c.vote, c.ix, c.ah, []⟩ := rfl
  rw [e1]
  simp only [Option.bind_some]
  rw [e2]
  simp only [Option.bind_some]
  rw [ens_do c.es ⟨c.term, c.vote, c.ix, c.ah, []⟩ (fun j e he => by have := h.seq j e he; simp only [List.length_nil]; omega)]
  rfl
theorem one_on {D : Dsk} {c : Cn} {k : Nat} (h1 : D.off = false) (h2 : D.ar = none) (hS : Srt D.fs) (hp : D.fs.Perm [⟨nameF k, recsB (allR c), (recsB (allR c)).length⟩]) (hc : CnOk c) (hk : 0 < k) (hf : k ≤ 100000) : LogOn D ⟨c, k, (recsB (allR c)).length, 0⟩ k [allR c] := by
  refine ⟨h1, h2, hS, hp, fun rs hrs r hr => ?_, ⟨baR c.ix c.ah, _, [], rfl, rfl, fun s hs => by cases hs⟩, ?_, hk, rfl, hf, rfl, rfl⟩
  · rw [List.mem_singleton.1 hrs] at hr
    exact allR_ok hc r hr
  · rw [List.flatten_singleton]; exact allR_do hc
theorem compactL_quiet {D : Dsk} {l : Lg} {lo : Nat} {segs : List (List Rc)} (h : LogOn D l lo segs) (hfew : l.file < 100000) {i t : Int} (hi : i ≤ 9223372036854775807) (ht : t ≤ 9223372036854775807) :
    (∃ e, compactL D l i t = (D, l, e) ∧ (i < 0 ∨ t < 0)) ∨ ∃ D', compactL D l i t = (D', ⟨keepC l.c i.toNat t.toNat, l.file + 1, (recsB (allR (keepC l.c i.toNat t.toNat))).length, 0⟩, 0) ∧ LogOn D' ⟨keepC l.c i.toNat t.toNat, l.file + 1, (recsB (allR (keepC l.c i.toNat t.toNat))).length, 0⟩ (l.file + 1) [allR (keepC l.c i.toNat t.toNat)] := by
  by_cases hn : i < 0 ∨ t < 0
  · exact .inl ⟨1, compactL_neg h.bad hn, hn⟩
  refine .inr ?_
  obtain ⟨I, rfl⟩ : ∃ I : Nat, i = I := ⟨i.toNat, by omega⟩
  obtain ⟨T, rfl⟩ : ∃ T : Nat, t = T := ⟨t.toNat, by omega⟩
  rw [Int.toNat_natCast, Int.toNat_natCast]
  have hco := cnOk_keep h.cn (i := I) (t := T) (by omega) (by omega)
  generalize hc' : keepC l.c I T = c' at hco ⊢
  have hfile := h.file
  have hlo := h.lo0
  have r1 := doD_quiet (D := D) h.ar (kind := 2) (nm := nameF (l.file + 1)) (p := recsB (allR c')) (n := 0) (may_log h.off (by omega)) (fun h => absurd h.1 (by decide))
  rw [doF2] at r1
  have hp : (setF D.fs ⟨nameF (l.file + 1), recsB (allR c'), (recsB (allR c')).length⟩).Perm (segFs lo segs ++ [⟨nameF (l.file + 1), recsB (allR c'), (recsB (allR c')).length⟩]) :=
    set_last (o := []) h.srt (by rw [List.append_nil]; exact h.perm) (by simp) (by simp only; rw [hfile])
  obtain ⟨F', h5, h6, h7⟩ := rem_segs segs lo { D with fs := setF D.fs ⟨nameF (l.file + 1), recsB (allR c'), (recsB (allR c')).length⟩ } [⟨nameF (l.file + 1), recsB (allR c'), (recsB (allR c')).length⟩] h.off h.ar (srt_set h.srt _) hp (fun g hg k hk1 hk2 e => by
    rw [List.mem_singleton.1 hg] at e
    have := nameF_inj e
    omega) (by omega)
  refine ⟨{ D with fs := F' }, ?_, one_on h.off h.ar h6 h7 hco (by omega) (by omega)⟩
  have hRA : remC ({ D with fs := setF D.fs ⟨nameF (l.file + 1), recsB (allR c'), (recsB (allR c')).length⟩ } : Dsk) 0 (ksOf D.fs) = ({ D with fs := F' }, 0) := by
    unfold remC
    rw [if_pos rfl, ks_on h]; exact h5
  rw [compactL_is h.bad hc' r1 hRA]
  rfl
theorem start_on {D : Dsk} {l : Lg} {lo : Nat} {segs : List (List Rc)} (h : LogOn D l lo segs) (ks : List Int) : startD D ks = D := by
  have hs := start_sure (sure_perm h.perm (sure_segs segs lo)) ks
  obtain ⟨fs, off, ar⟩ := D
  have h1 := h.off
  have h2 := h.ar
  simp only at h1 h2 hs
  subst h1 h2
  unfold startD
  rw [hs]
structure LogI (D : Dsk) (l : Lg) (i N : Nat) : Prop where
  on : ∃ lo segs, LogOn D l lo segs ∧ (∀ rs ∈ segs, (recsB rs).length ≤ 200 * (i + 1) + 11 * N) ∧ 5 * segs.flatten.length ≤ N + 10 * (i + 1)
  file : l.file ≤ i + 1
  w : wE l.c.es ≤ 11 * N
  cnt : 5 * l.c.es.length ≤ N
section
variable {D : Dsk} {l : Lg} {i N : Nat}
theorem LogI.mono (h : LogI D l i N) {j M : Nat} (hj : i ≤ j) (hM : N ≤ M) : LogI D l j M := by
  obtain ⟨lo, segs, h1, h2, h3⟩ := h.on
  have a := h.file
  have b := h.w
  have c := h.cnt
  exact ⟨⟨lo, segs, h1, fun rs hrs => by have := h2 rs hrs; omega, by omega⟩, by omega, by omega, by omega⟩
theorem LogI.bad (h : LogI D l i N) : l.bad = 0 := by obtain ⟨_, _, h1, _⟩ := h.on; exact h1.bad
theorem LogI.off (h : LogI D l i N) : D.off = false := by obtain ⟨_, _, h1, _⟩ := h.on; exact h1.off
theorem LogI.ar (h : LogI D l i N) : D.ar = none := by obtain ⟨_, _, h1, _⟩ := h.on; exact h1.ar
theorem LogI.arOk (h : LogI D l i N) : ArOk D.ar := by rw [h.ar]; intro a p e; cases e
theorem LogI.cn (h : LogI D l i N) : CnOk l.c := by obtain ⟨_, _, h1, _⟩ := h.on; exact h1.cn
theorem LogI.start (h : LogI D l i N) (ks : List Int) : startD D ks = D := by obtain ⟨_, _, h1, _⟩ := h.on; exact start_on h1 ks
theorem segFs_len : ∀ (segs : List (List Rc)) (lo : Nat), (segFs lo segs).length = segs.length
  | [], _ => rfl
  | rs :: ss, lo => by show (segFs (lo + 1) ss).length + 1 = _; rw [segFs_len ss (lo + 1), List.length_cons]
theorem segFs_mem : ∀ (segs : List (List Rc)) (lo : Nat), ∀ f ∈ segFs lo segs, ∃ rs ∈ segs, f.b = recsB rs ∧ f.sure = f.b.length
  | [], _ => fun f h => by cases h
  | rs :: ss, lo => fun f h => by
    rcases List.mem_cons.1 h with rfl | h
    · exact ⟨rs, List.mem_cons_self, rfl, rfl⟩
    · obtain ⟨x, hx, h2⟩ := segFs_mem ss (lo + 1) f h
      exact ⟨x, List.mem_cons_of_mem _ hx, h2⟩
theorem LogI.few (h : LogI D l i N) : D.fs.length ≤ i + 1 := by
  obtain ⟨lo, segs, h1, _⟩ := h.on
  have h2 := h1.perm.length_eq
  rw [segFs_len] at h2
  have := h1.file
  have := h1.lo0
  have := h.file
  omega
theorem LogI.good (h : LogI D l i N) : Good D.fs (200 * (i + 1) + 11 * N) := by
  obtain ⟨lo, segs, h1, h2, _⟩ := h.on
  have hf := h1.file
  have hw := h1.few
  refine ⟨h1.srt, fun f hf2 => ?_, fun f hf2 => ?_, fun f hf2 => ?_⟩
  · obtain ⟨rs, _, _, h3⟩ := segFs_mem segs lo f (h1.perm.mem_iff.1 hf2)
    omega
  · obtain ⟨rs, hrs, h3, _⟩ := segFs_mem segs lo f (h1.perm.mem_iff.1 hf2)
    rw [h3]; exact h2 rs hrs
  · obtain ⟨j, hj, h3⟩ := segFs_name segs lo f (h1.perm.mem_iff.1 hf2)
    rw [h3]
    have := nameF_short (lo + j) (by omega)
    omega
theorem LogI.long (h : LogI D l i N) : l.long ≤ 200 * (i + 1) + 11 * N := by
  obtain ⟨lo, segs, h1, h2, _⟩ := h.on
  obtain ⟨rs, hl1, hl2⟩ := Option.map_eq_some_iff.1 h1.long
  rw [← hl2]
  exact h2 rs (List.mem_of_getLast? hl1)
theorem LogI.ks (h : LogI D l i N) : ∀ k ∈ ksOf D.fs, k ≤ i + 1 := by
  obtain ⟨lo, segs, h1, _⟩ := h.on
  intro k hk
  rw [ks_on h1] at hk
  obtain ⟨p, hp, rfl⟩ := List.mem_map.1 hk
  have h2 := segPs_k segs lo p hp
  have := h1.file
  have := h.file
  omega
theorem LogI.parts (h : LogI D l i N) (hN : N ≤ 1048576) (hi : i ≤ 1000) : ∀ ps, (partsF D.fs).map sortP = some ps → (ps.map (·.rs)).flatten.length ≤ 1000000 ∧ ∀ p ∈ ps, p.k ≤ i + 1 := by
  obtain ⟨lo, segs, h1, _, h3⟩ := h.on
  intro ps hps
  obtain ⟨p0, h4, h5⟩ := parts_on h1
  rw [h4, Option.map_some, h5] at hps
  cases hps
  refine ⟨?_, fun p hp => ?_⟩
  · rw [segPs_rs]; omega
  · have h2 := segPs_k segs lo p hp
    have := h1.file
    have := h.file
    omega
theorem LogI.save (h : LogI D l i N) (hi : i ≤ 1000) {t v : Int} {es : List EA} (ht : t ≤ 9223372036854775807) (hv : v ≤ 9223372036854775807) (he : ∀ e ∈ es, EAok e) : LogI (saveL D l t v es).1 (saveL D l t v es).2.1 (i + 1) (N + wtA es) := by
  obtain ⟨lo, segs, h1, h2, h3⟩ := h.on
  have hf := h.file
  rcases saveL_quiet h1 (by omega) ht hv he with ⟨e, h4, _⟩ | ⟨c', s0, o, l', hp, ht0, hv0, hT, hlf, hlc, hR, hon⟩
  · rw [h4]
    exact h.mono (by omega) (by omega)
  · have e2 : (saveL D l t v es).2.1 = l' := by rw [hR]
    rw [e2]
    have hb := saveB_le l.c t.toNat v.toNat es
    rw [saveB_is] at hb
    have hl := saveR_len l.c t.toNat v.toNat es
    obtain ⟨w1, w2⟩ := putsA_w hp
    have hw := h.w
    have hc := h.cnt
    have hlen := Tail.len h1 hT
    refine ⟨⟨lo, _, hon, fun rs hrs => ?_, ?_⟩, by omega, ?_, ?_⟩
    · rcases List.mem_append.1 hrs with hrs | hrs
      · have := h2 rs (hT.app ▸ List.mem_append_left _ hrs); omega
      · rw [List.mem_singleton.1 hrs, recsB_app, List.length_append]
        have ho : (recsB o.flatten).length ≤ 200 * (i + 1) + 11 * N := by
          have happ := hT.app
          have hone := hT.one
          match o, hone, happ with
          | [], _, _ => simp [recsB]
          | [x], _, happ =>
            have := h2 x (by rw [happ]; exact List.mem_append_right _ List.mem_cons_self)
            simpa using this
        omega
    · have e3 : (s0 ++ [o.flatten ++ saveR l.c t.toNat v.toNat (es.map EA.en)]).flatten.length = segs.flatten.length + (saveR l.c t.toNat v.toNat (es.map EA.en)).length := by
        rw [hT.app]
        simp only [List.flatten_append, List.flatten_cons, List.flatten_nil, List.append_nil, List.length_append]
        omega
      rw [e3]; omega
    · rw [hlc]; simp only; omega
    · rw [hlc]; simp only; omega
theorem LogI.compact (h : LogI D l i N) (hi : i ≤ 1000) {a t : Int} (ha : a ≤ 9223372036854775807) (ht : t ≤ 9223372036854775807) : LogI (compactL D l a t).1 (compactL D l a t).2.1 (i + 1) N := by
  obtain ⟨lo, segs, h1, h2, h3⟩ := h.on
  have hf := h.file
  have hw := h.w
  have hc := h.cnt
  rcases compactL_quiet h1 (by omega) ha ht with ⟨e, h4, _⟩ | ⟨D', h4, hon⟩
  · rw [h4]
    exact h.mono (by omega) (by omega)
  · rw [h4]
    have h5 := keep_w l.c a.toNat t.toNat
    have h6 := keep_len l.c a.toNat t.toNat
    have h7 := allR_le (keepC l.c a.toNat t.toNat)
    refine ⟨⟨_, _, hon, fun rs hrs => ?_, ?_⟩, by simp only; omega, by simp only; omega, by simp only; omega⟩
    · rw [List.mem_singleton.1 hrs]; omega
    · rw [List.flatten_singleton]
      unfold allR
      rw [List.length_cons, List.length_cons, List.length_map]
      omega
end
theorem save_yes {D : Dsk} {l : Lg} {i N : Nat} (h : LogI D l i N) (hi : i ≤ 1000) {t v : Int} {es : List EA} (ht : 0 ≤ t ∧ t ≤ 9223372036854775807) (hv : 0 ≤ v ∧ v ≤ 9223372036854775807) (he : ∀ e ∈ es, EAok e) {c' : Cn} (hp : putsA l.c es = some c') (hl : es.any (fun e => decide (65536 < e.d.length)) = false) (hb : saveB l.c t.toNat v.toNat (es.map EA.en) ≠ []) {R : Dsk × Lg × Nat} (hR : saveL D l t v es = R) :
    R.2.2 = 0 ∧ R.2.1.c = { c' with term := t.toNat, vote := v.toNat } := by
  subst hR
  obtain ⟨lo, segs, h1, _⟩ := h.on
  have hf := h.file
  rcases saveL_quiet h1 (by omega) ht.2 hv.2 he with ⟨e, h4, h5⟩ | ⟨c2, s0, o, l', hp2, _, _, _, _, hlc, hR, _⟩
  · exfalso
    rcases h5 with h5 | h5 | h5 | h5
    · rw [hp] at h5; cases h5
    · omega
    · rw [hl] at h5; cases h5
    · exact hb h5
  · rw [hp] at hp2
    cases hp2
    rw [hR]
    exact ⟨rfl, hlc⟩
theorem compact_yes {D : Dsk} {l : Lg} {i N : Nat} (h : LogI D l i N) (hi : i ≤ 1000) {a t : Nat} (ha : a < 9223372036854775808) (ht : t < 9223372036854775808) {R : Dsk × Lg × Nat} (hR : compactL D l ((a : Nat) : Int) ((t : Nat) : Int) = R) : R.2.2 = 0 ∧ R.2.1.c = keepC l.c a t ∧ R.1.fs.length = 1 := by
  subst hR
  obtain ⟨lo, segs, h1, _⟩ := h.on
  have hf := h.file
  rcases compactL_quiet h1 (by omega) (i := ((a : Nat) : Int)) (t := ((t : Nat) : Int)) (by omega) (by omega) with ⟨e, h4, h5⟩ | ⟨D', h4, hon⟩
  · exfalso; omega
  · rw [h4]
    rw [Int.toNat_natCast, Int.toNat_natCast] at hon ⊢
    exact ⟨rfl, rfl, hon.perm.length_eq⟩
theorem new_put : doD ⟨[], false, none⟩ 2 (nameF 1) (recsB (allR Cn.zero)) 0 = (⟨[⟨nameF 1, recsB (allR Cn.zero), (recsB (allR Cn.zero)).length⟩], false, none⟩, 0) := by
  rw [doD_quiet (D := ⟨[], false, none⟩) rfl (may_log rfl (by omega)) (fun h => absurd h.1 (by decide))]
  rfl
theorem sort_nil : (partsF ([] : List Fil)).map sortP = some [] := by
  show some (sortP []) = some []
  unfold sortP
  rw [List.mergeSort_nil]
theorem open_new : openL ⟨[], false, none⟩ = (⟨[⟨nameF 1, recsB (allR Cn.zero), (recsB (allR Cn.zero)).length⟩], false, none⟩, some ⟨Cn.zero, 1, (recsB (allR Cn.zero)).length, 0⟩, 0) := by
  rw [openL_new (by simp) sort_nil, new_put, if_neg (fun h => h rfl)]
theorem logI_new : LogI ⟨[⟨nameF 1, recsB (allR Cn.zero), (recsB (allR Cn.zero)).length⟩], false, none⟩ ⟨Cn.zero, 1, (recsB (allR Cn.zero)).length, 0⟩ 0 0 := by
  have h := allR_le Cn.zero
  refine ⟨⟨1, [allR Cn.zero], one_on rfl rfl (List.pairwise_singleton _ _) (List.Perm.refl _) cnOk_zero (by omega) (by omega), fun rs hrs => ?_, ?_⟩, Nat.le_refl _, by simp [wE, recsB, Cn.zero], by simp [Cn.zero]⟩
  · rw [List.mem_singleton.1 hrs]
    have e : wE Cn.zero.es = 0 := rfl
    omega
  · simp [allR, Cn.zero]
theorem nil_parts : (∀ ps, (partsF ([] : List Fil)).map sortP = some ps → (ps.map (·.rs)).flatten.length ≤ 1000000) ∧ ∀ ps, (partsF ([] : List Fil)).map sortP = some ps → ∀ p ∈ ps, p.k < 100 := by
  have e := sort_nil
  rw [e]
  exact ⟨fun ps h => (by cases h; simp), fun ps h p hp => (by cases h; cases hp)⟩
end Go.Proofs.YtajapgjemefoiaaGreatDoor
/- Layer 19 (wal): a save that the power goes away in. Plain mathematics. -/
set_option linter.unusedVariables false
namespace Go.Proofs.YtajapgjemefoiaaGreatDoor
open Go.SW Go.RowKit
theorem sort_lt {ps L : List Pt} (hp : ps.Perm L) (hL : L.Pairwise (fun a b => a.k < b.k)) (hs : ps.Pairwise (fun a b => a.k ≤ b.k)) : ps = L := by
  refine List.Perm.eq_of_pairwise (le := fun a b : Pt => a.k ≤ b.k) (fun a b ha hb h3 h4 => ?_) hs (hL.imp fun h => Nat.le_of_lt h) hp
  exact keys_inj hL (hp.mem_iff.1 ha) hb (by omega)
end Go.Proofs.YtajapgjemefoiaaGreatDoor
/- Layer 19 (wal): opening, saving, letting go, where a log is on the disk: what is answered and left. Plain theorems over the walks. -/
set_option linter.unusedVariables false
set_option maxRecDepth 100000
namespace Go.Proofs.YtajapgjemefoiaaGreatDoor
open Go.SW Go.RowKit
abbrev lgI (g db : Nat) (l : Lg) (ve : Value) : Own := lgO g db l.c ve ((l.file : Nat) : Int) ((l.long : Nat) : Int) (errV l.bad)
abbrev dkI (db mb ab : Nat) (D : Dsk) (pe : List PE) : Own := .grp (dskO db mb ab D pe)
abbrev newD : Dsk := ⟨[⟨nameF 1, recsB (allR Cn.zero), (recsB (allR Cn.zero)).length⟩], false, none⟩
abbrev newL : Lg := ⟨Cn.zero, 1, (recsB (allR Cn.zero)).length, 0⟩
section
variable {db mb ab : Nat} {D : Dsk} {l : Lg} {i N : Nat} {w : World}
theorem open_out {D0 : Dsk} {pe : List PE} {w w' : World} {v : Value} (ho : openL D0 = (D, some l, 0)) (hb : l.bad = 0) (h : OpenPost db mb ab D0 pe w v w') :
    ∃ g es ve pl pe', v = .tuple #[.pointer (some ⟨g, 0, none⟩), .nilIface] ∧ (CnR pl l.c es ve ∧ Rep pe' D.fs) ∧ Turn w w' [dkI db mb ab D0 pe] [lgI g db l ve, plO pl, dkI db mb ab D pe'] := by
  unfold OpenPost at h
  rw [ho] at h
  obtain ⟨pe', h1, ⟨h2, _⟩ | ⟨g, l2, es, ve, pl, h2, _, rfl, h4, _, h6⟩⟩ := h
  · cases h2
  · cases h2
    refine ⟨g, es, ve, pl, pe', rfl, ⟨h4, h1⟩, ?_⟩
    have e : errV l.bad = .nilIface := by rw [hb]; rfl
    show Turn w w' _ [lgO g db l.c ve ((l.file : Nat) : Int) ((l.long : Nat) : Int) (errV l.bad), plO pl, dkI db mb ab D pe']
    rw [e]; exact h6
theorem OpenNew_ct (hM : Mine w [dkI db mb 0 ⟨[], false, none⟩ []]) :
    Fun Tryz.prog 14 [.pointer (some ⟨db, 0, none⟩)] w fun v w' => ∃ g es ve pl pe', v = .tuple #[.pointer (some ⟨g, 0, none⟩), .nilIface] ∧ (CnR pl newL.c es ve ∧ Rep pe' newD.fs) ∧ Turn w w' [dkI db mb 0 ⟨[], false, none⟩ []] [lgI g db newL ve, plO pl, dkI db mb 0 newD pe'] := by
  have hp := nil_parts
  refine (WOpen_ct db mb 0 ⟨[], false, none⟩ [] 0 w hM ⟨List.Pairwise.nil, List.Perm.refl _⟩ (fun a p e => by cases e) (good_nil 0) (by omega) (by simp) (fun ps h => hp.1 ps h) (fun ps h p hpm => .inl (hp.2 ps h p hpm)) (.inl (by omega))).mono fun v w' h => open_out open_new rfl h
theorem wt_len (es : List EA) : 5 * es.length ≤ wtA es := by
  induction es with
  | nil => simp
  | cons e es ih => rw [List.length_cons, wtA_cons]; omega
theorem wt_mem {es : List EA} {e : EA} (h : e ∈ es) : e.d.length + 5 ≤ wtA es := by
  induction es with
  | nil => cases h
  | cons x es ih =>
    rw [wtA_cons]
    rcases List.mem_cons.1 h with rfl | h
    · omega
    · have := ih h; omega
theorem SaveG_ct (g : Nat) (t v : Int) (ve vx : Value) (es : EQ) (qs : EI) (pl : Pl) (pe : List PE) (D2 : Dsk) (hD : D2.fs = D.fs) (hA : ArOk D2.ar) (hM : Mine w [lgI g db l ve, plO pl, dkI db mb ab D2 pe]) (hI : LogI D l i N) (hi : i ≤ 90) (hN : N + wtA (qs.map (·.1)) ≤ 1048576) (hL : CnR pl l.c es ve)
    (hE : Row (off w (blksOf [lgI g db l ve, plO pl, dkI db mb ab D2 pe])) vx 4 qs.length (rowC eiC qs)) (hq : ∀ q ∈ qs, RB (off w (blksOf [lgI g db l ve, plO pl, dkI db mb ab D2 pe])) q.2 q.1.d) (hok : ∀ q ∈ qs, EAok q.1) (ht : t ≤ 9223372036854775807) (hv : v ≤ 9223372036854775807) (hR : Rep pe D2.fs) :
    Fun Tryz.prog 15 [.pointer (some ⟨g, 0, none⟩), .int .i64 t, .int .i64 v, vx] w fun r w' => SavePost g db mb ab l ve pl D2 pe (saveL D2 l t v (qs.map (·.1))) w r w' := by
  have h1 := wt_len (qs.map (·.1))
  rw [List.length_map] at h1
  have h2 := hI.cnt
  have h3 := cnOk_len hI.cn
  have h4 := hI.file
  have h5 := hI.long
  have hG : Good D2.fs (200 * (i + 1) + 11 * N) := by rw [hD]; exact hI.good
  exact Save19_ct g db mb ab l t v ve vx es qs pl D2 pe _ w hM hL hE hq hok (fun q hqm => by have := wt_mem (List.mem_map.2 ⟨q, hqm, rfl⟩ : q.1 ∈ qs.map (·.1)); omega) (by omega) (by omega) ht hv (fun T V _ _ => by have := saveB_le l.c T V (qs.map (·.1)); omega) hR hA hG (by omega) (by omega) (by omega) (fun k hk => .inl (by omega))
theorem SaveI_ct (g : Nat) (t v : Int) (ve vx : Value) (es : EQ) (qs : EI) (pl : Pl) (pe : List PE) (hM : Mine w [lgI g db l ve, plO pl, dkI db mb ab D pe]) (hI : LogI D l i N) (hi : i ≤ 90) (hN : N + wtA (qs.map (·.1)) ≤ 1048576) (hL : CnR pl l.c es ve)
    (hE : Row (off w (blksOf [lgI g db l ve, plO pl, dkI db mb ab D pe])) vx 4 qs.length (rowC eiC qs)) (hq : ∀ q ∈ qs, RB (off w (blksOf [lgI g db l ve, plO pl, dkI db mb ab D pe])) q.2 q.1.d) (hok : ∀ q ∈ qs, EAok q.1) (ht : t ≤ 9223372036854775807) (hv : v ≤ 9223372036854775807) (hR : Rep pe D.fs) :
    Fun Tryz.prog 15 [.pointer (some ⟨g, 0, none⟩), .int .i64 t, .int .i64 v, vx] w fun r w' => ∃ D2 l2 e es2 ve2 pl2 pe2, r = errV e ∧ (saveL D l t v (qs.map (·.1)) = (D2, l2, e) ∧ LogI D2 l2 (i + 1) (N + wtA (qs.map (·.1))) ∧ CnR pl2 l2.c es2 ve2 ∧ Rep pe2 D2.fs) ∧
      Turn w w' [lgI g db l ve, plO pl, dkI db mb ab D pe] [lgI g db l2 ve2, plO pl2, dkI db mb ab D2 pe2] := by
  refine (SaveG_ct g t v ve vx es qs pl pe D rfl hI.arOk hM hI hi hN hL hE hq hok ht hv hR).mono ?_
  rintro r w' ⟨pe', es2, ve2, pl2, rfl, ⟨h1, h2⟩, h3⟩
  have hI2 := hI.save (by omega) ht hv (es := qs.map (·.1)) (fun e he => by obtain ⟨q, hq2, rfl⟩ := List.mem_map.1 he; exact hok q hq2)
  exact ⟨_, _, _, es2, ve2, pl2, pe', rfl, ⟨rfl, hI2, h2, h1⟩, h3⟩
theorem CompactI_ct (g : Nat) (a t : Int) (ve : Value) (es : EQ) (pl : Pl) (pe : List PE) (hM : Mine w [lgI g db l ve, plO pl, dkI db mb ab D pe]) (hI : LogI D l i N) (hi : i ≤ 90) (hN : N ≤ 1048576) (hL : CnR pl l.c es ve) (ha : a ≤ 9223372036854775807) (ht : t ≤ 9223372036854775807) (hR : Rep pe D.fs) :
    Fun Tryz.prog 16 [.pointer (some ⟨g, 0, none⟩), .int .i64 a, .int .i64 t] w fun r w' => ∃ D2 l2 e es2 ve2 pl2 pe2, r = errV e ∧ (compactL D l a t = (D2, l2, e) ∧ LogI D2 l2 (i + 1) N ∧ CnR pl2 l2.c es2 ve2 ∧ Rep pe2 D2.fs) ∧
      Turn w w' [lgI g db l ve, plO pl, dkI db mb ab D pe] [lgI g db l2 ve2, plO pl2, dkI db mb ab D2 pe2] := by
  have h2 := hI.cnt
  have h4 := hI.file
  have h5 := hI.few
  have h6 := hI.w
  refine (Compact_ct g db mb ab l a t ve es pl D pe _ w hM hL hI.cn (by omega) ha ht (fun I T _ _ => by have h7 := allR_le (keepC l.c I T); have h8 := keep_w l.c I T; omega) hR hI.arOk hI.good (by omega) (by omega) (by omega) (.inl (by omega)) (fun k hk => .inl (by have := hI.ks k hk; omega))).mono ?_
  rintro r w' ⟨pe', es2, ve2, pl2, rfl, ⟨h1, h2⟩, h3⟩
  exact ⟨_, _, _, es2, ve2, pl2, pe', rfl, ⟨rfl, hI.compact (by omega) ha ht, h2, h1⟩, h3⟩
end
structure AW where
  dv : Int
  n : Int
  m : Int
  vl : Value
  L : EI
  vk : Value
  ks : List Int
  nm : List UInt8
  vb : Value
structure AwOk (c : Zone) (a : AW) : Prop where
  row : Row c a.vl 4 a.L.length (rowC eiC a.L)
  rb : ∀ q ∈ a.L, RB c q.2 q.1.d
  ok : ∀ q ∈ a.L, EAok q.1
  ks : Row c a.vk 1 a.ks.length (iv a.ks)
  n : a.n ≤ 9223372036854775807
  m : a.m ≤ 9223372036854775807
  vb : a.vb.oneCell' = true
end Go.Proofs.YtajapgjemefoiaaGreatDoor
/- How rows of entries and of a log's acts are opened, and their bulk; what the rows of the laws 19 list. -/
set_option linter.unusedVariables false
set_option maxRecDepth 100000
namespace Go.Proofs.YtajapgjemefoiaaGreatDoor
open Go.ChangeShapes Go.WideShapes Go.RowKit Go.SW
def dataW {H : Type} : List (String × DataW H) := [("math/bits.deBruijn32tab", Rows.laid_math_bits_deBruijn32tab), ("math/bits.deBruijn64tab", Rows.laid_math_bits_deBruijn64tab), ("internal/strconv.uint64pow10", Rows.laid_internal_strconv_uint64pow10)]
def laidW {H : Type} : List (String × DataW H) := [("math/bits.deBruijn32tab", Rows.laid_math_bits_deBruijn32tab), ("math/bits.deBruijn64tab", Rows.laid_math_bits_deBruijn64tab), ("internal/strconv.uint64pow10", Rows.laid_internal_strconv_uint64pow10), ("errors.errorType", Rows.laid_errors_errorType)]
theorem handle_of_laidW {W : World} (h : laidMetH Tryz.prog laidW W) : W.cell? ⟨0, 0, none⟩ = some errTy := by
  have h' : laidMet Tryz.prog dataW W ∧ handlesMet Tryz.prog laidL W := h
  have h2 : laidMet Tryz.prog [] W ∧ handlesMet Tryz.prog laidL W := ⟨laidMet_nil _ _, h'.2⟩
  exact handle_of_laid h2
def cellsD : DataW Unit → Array Value
  | .agg ps => (ps.map fun d => match d with | .lit (.int k n) => Value.int k n | _ => .nilIface).toArray
  | _ => #[]
def putCells (h : Array Obj) (g : Nat) (cs : Array Value) : Array Obj := h.modify g fun
  | .cells _ t frozen => .cells cs t frozen
  | o => o
noncomputable def laidWorldW (os : Os) : World :=
  let w0 := World.holding Tryz.prog os ⟨#[], #[], []⟩
  { w0 with heap := putCells (putCells (putCells (putCells w0.heap 0 #[errTy]) 1 (cellsD Rows.laid_internal_strconv_uint64pow10)) 2 (cellsD Rows.laid_math_bits_deBruijn32tab)) 3 (cellsD Rows.laid_math_bits_deBruijn64tab) }
theorem laidWorldW_met (os : Os) (args : Array Value) : laidMetH Tryz.prog laidW ((laidWorldW os).forCall (fun _ _ => 0) ⟨#[], args, []⟩).memory :=
  laidMetH_of_parts (laidMet_of_run' 4 (by kernel_rfl) (by kernel_rfl)) (by kernel_rfl)
section
variable {H : Type} {enc : TypeId × Value → H} {w : World} {base : Nat} {spare : Nat → Bool} {held : Bool}
variable {r : Reach} {b0 : Nat} {v : Value} {d : DataW H} {pl : List MemPlace}
end
end Go.Proofs.YtajapgjemefoiaaGreatDoor
/- Laws 19: small: what it answers. -/
set_option maxRecDepth 100000
set_option maxHeartbeats 4000000
set_option linter.unusedVariables false
set_option linter.unusedSimpArgs false
namespace Go.Proofs.YtajapgjemefoiaaGreatDoor
open Go.RowKit Go.SW
abbrev ea1 : EA := ⟨1, 2, 0, [97]⟩
abbrev ea2 : EA := ⟨2, 2, 0, [98]⟩
abbrev ea3 : EA := ⟨2, 3, 0, [99]⟩
abbrev ea4 : EA := ⟨4, 3, 0, []⟩
abbrev cnA : Cn := ⟨2, 1, 0, 0, [⟨1, 2, 0, [97]⟩, ⟨2, 2, 0, [98]⟩]⟩
abbrev cnB : Cn := ⟨2, 1, 0, 0, [⟨1, 2, 0, [97]⟩, ⟨2, 3, 0, [99]⟩]⟩
theorem ea_bd {ix tm : Int} {d : List UInt8} (h1 : ix ≤ 4) (h2 : tm ≤ 3) : EAok ⟨ix, tm, 0, d⟩ := ⟨by simp only; omega, by simp only; omega, by simp only; omega⟩
theorem saveB_ne {c : Cn} {T V : Nat} {e : EA} {es : List EA} (h1 : EAok e) (hd : e.d.length ≤ 65536) : saveB c T V ((e :: es).map EA.en) ≠ [] := by
  intro h
  have h2 := congrArg List.length h
  unfold saveB at h2
  rw [List.length_append, List.map_cons, List.map_cons] at h2
  have h3 : recsB (enR e.en :: (es.map EA.en).map enR) = recB (enR e.en) ++ recsB ((es.map EA.en).map enR) := rfl
  rw [h3, List.length_append, recB_eq (en_ok h1 hd), frameB_length] at h2
  simp only [List.length_nil] at h2
  omega
theorem row_rs {c : Zone} {v : Value} {rs : EQ} (h : Row c v 4 rs.length (rowC enC rs)) : Row c v 4 (eiN rs).length (rowC eiC (eiN rs)) := by rw [← row_eiN, eiN_len]; exact h
theorem rs_one {rs : EQ} {e : En} (h : rs.map (·.1) = [e]) : ∃ v, rs[0]? = some (e, v) ∧ rs.length = 1 := by
  match rs, h with
  | [(x, v)], h => exact ⟨v, by simp at h; simp [h], rfl⟩

theorem save_no4 {D : Dsk} {l : Lg} (hc : l.c = cnB) (hb : l.bad = 0) {R : Dsk × Lg × Nat} (h : saveL D l 2 1 [ea4] = R) : R = (D, l, 1) := by
  rw [← h]
  exact saveL_none hb (by rw [hc]; rfl)

theorem Small19_ct (w : World) (hG : w.cell? ⟨0, 0, none⟩ = some errTy) :
    Fun Tryz.prog 7 [] w fun v w' => v = .bool true ∧ Fresh w w' [] := by
 refine fun_of_sw Tryz.func7 rfl 87 rfl rfl ?_
 have hH := Hp.start w
 refine sw_sr <| Go0 1 <| Dn <| sw_sr <| gl_st (Sc rfl rfl (DNew_ct _) ?_)
 rintro _ w3 ⟨db1, mb2, rfl, hF4⟩
 replace hH := hH.call hF4
 refine Go1 1 1 (Pp db1 0) <| Dn <| sw_seq <| sw_sr <| Go1 2 11 (.bool false) <| Dn <| Iz <| sw_skip <| sw_next <| sw_sr <| Go1 1 13 (Pp db1 0) ?_
 replace hH : Hp w w3 _ _ ([_] ++ []) := hH
 refine gl_st (Sc rfl rfl (OpenNew_ct hH.mine) ?_)
 rintro _ w12 ⟨g5, es6, ve7, pl8, pe9, rfl, ⟨hL10, hR11⟩, hF13⟩
 replace hH := hH.turns hF13
 replace hH := hH.n3
 refine Go2 5 2 (Pp g5 0) 3 (.nilIface) <| Dn <| sw_seq <| sw_sr <| Go1 6 22 (.bool false) <| Dn <| Iz <| sw_skip <| sw_next <| sw_sr <| Go1 1 23 (Pp g5 0) <| gl_st (st_buildS (e := 5) (zv := .int .u8 0) (m := 1) (bytes := 1) rfl rfl rfl (by kernel_rfl) (by kernel_rfl) rfl (cs := [.int .u8 97]) (by kernel_rfl) rfl hH ?_)
 clear hH; intro b14 w15 hH
 replace hH := hH.row_eq 3 (l' := 1) (xs' := bv [97]) rfl (rfl) (rfl)
 refine gl_st (st_convB (e := 5) 3 rfl rfl rfl (by kernel_rfl) (by kernel_rfl) hH rfl rfl ?_)
 clear hH; intro w16 hH
 refine Go1 1 26 (.agg #[.int .i64 1, .int .i64 2, .int .i64 0, .slice (some ⟨b14, 0, none⟩) 1 1]) <| gl_st (st_buildS (e := 5) (zv := .int .u8 0) (m := 1) (bytes := 1) rfl rfl rfl (by kernel_rfl) (by kernel_rfl) rfl (cs := [.int .u8 98]) (by kernel_rfl) rfl hH ?_)
 clear hH; intro b17 w18 hH
 replace hH := hH.row_eq 4 (l' := 1) (xs' := bv [98]) rfl (rfl) (rfl)
 refine gl_st (st_convB (e := 5) 4 rfl rfl rfl (by kernel_rfl) (by kernel_rfl) hH rfl rfl ?_)
 clear hH; intro w19 hH
 refine Go1 1 29 (.agg #[.int .i64 2, .int .i64 2, .int .i64 0, .slice (some ⟨b17, 0, none⟩) 1 1]) <| gl_st (st_buildS (e := 64) (zv := .agg #[.int .i64 0, .int .i64 0, .int .i64 0, .slice none 0 0]) (m := 4) (bytes := 48) rfl rfl rfl (by kernel_rfl) (by kernel_rfl) rfl (cs := [.int .i64 1, .int .i64 2, .int .i64 0, .slice (some ⟨b14, 0, none⟩) 1 1, .int .i64 2, .int .i64 2, .int .i64 0, .slice (some ⟨b17, 0, none⟩) 1 1]) (by kernel_rfl) rfl hH ?_)
 clear hH; intro b20 w21 hH
 replace hH : Hp w w21 _ _ ([_, _, _] ++ [_, _, _]) := hH
 refine gl_st (Sc rfl rfl (SaveI_ct g5 2 1 _ _ es6 [((ea1 : EA), Value.slice (some ⟨b14, 0, none⟩) 1 1), ((ea2 : EA), Value.slice (some ⟨b17, 0, none⟩) 1 1)] pl8 pe9 hH.mine logI_new (by omega) (by simp [wtA]) hL10 (zoff_row (mine := [lgI g5 db1 newL ve7, plO pl8, dkI db1 mb2 0 newD pe9]) hH 2 rfl) (by intro q hq; simp only [List.mem_cons, List.not_mem_nil, or_false] at hq; rcases hq with rfl | rfl; exact zoff_mkd (mine := [lgI g5 db1 newL ve7, plO pl8, dkI db1 mb2 0 newD pe9]) hH 0 rfl rfl (Nat.le_refl _) (by simp [maxLen]); exact zoff_mkd (mine := [lgI g5 db1 newL ve7, plO pl8, dkI db1 mb2 0 newD pe9]) hH 1 rfl rfl (Nat.le_refl _) (by simp [maxLen])) (by intro q hq; simp only [List.mem_cons, List.not_mem_nil, or_false] at hq; rcases hq with rfl | rfl <;> exact ea_bd (by decide) (by decide)) (by omega) (by omega) hR11) ?_)
 rintro _ w33 ⟨D22, l23, er24, es25, ve26, pl27, pe28, rfl, ⟨hs29, hI30, hL31, hR32⟩, hF34⟩
 replace hH := hH.turns hF34
 replace hH := hH.n6
 have hI35 := hI30.mono (show _ ≤ 1 by omega) (show _ ≤ 1000 by simp [wtA])
 have hp1 : putsA Cn.zero [ea1, ea2] = some ⟨0, 0, 0, 0, cnA.es⟩ := by rfl
 obtain ⟨heA, hcA⟩ := save_yes (c' := ⟨0, 0, 0, 0, cnA.es⟩) logI_new (by omega) (t := 2) (v := 1) (by omega) (by omega) (by intro q hq; simp only [List.mem_cons, List.not_mem_nil, or_false] at hq; rcases hq with rfl | rfl <;> exact ea_bd (by decide) (by decide)) hp1 (by rfl) (saveB_ne (ea_bd (by decide) (by decide)) (by decide)) hs29
 simp only at heA hcA
 replace hcA : l23.c = cnA := hcA
 refine Go1 1 4 (errV er24) <| Dn <| sw_sr <| Go1 1 32 (Pp g5 0) <| gl_st (st_buildS (e := 5) (zv := .int .u8 0) (m := 1) (bytes := 1) rfl rfl rfl (by kernel_rfl) (by kernel_rfl) rfl (cs := [.int .u8 99]) (by kernel_rfl) rfl hH ?_)
 clear hH; intro b36 w37 hH
 replace hH := hH.row_eq 6 (l' := 1) (xs' := bv [99]) rfl (rfl) (rfl)
 refine gl_st (st_convB (e := 5) 6 rfl rfl rfl (by kernel_rfl) (by kernel_rfl) hH rfl rfl ?_)
 clear hH; intro w38 hH
 refine Go1 1 35 (.agg #[.int .i64 2, .int .i64 3, .int .i64 0, .slice (some ⟨b36, 0, none⟩) 1 1]) <| gl_st (st_buildS (e := 64) (zv := .agg #[.int .i64 0, .int .i64 0, .int .i64 0, .slice none 0 0]) (m := 4) (bytes := 48) rfl rfl rfl (by kernel_rfl) (by kernel_rfl) rfl (cs := [.int .i64 2, .int .i64 3, .int .i64 0, .slice (some ⟨b36, 0, none⟩) 1 1]) (by kernel_rfl) rfl hH ?_)
 clear hH; intro b39 w40 hH
 replace hH : Hp w w40 _ _ ([_, _, _] ++ [_, _, _, _, _]) := hH.fr6.fr6.fr6
 refine gl_st (Sc rfl rfl (SaveI_ct g5 2 1 _ _ es25 [((ea3 : EA), Value.slice (some ⟨b36, 0, none⟩) 1 1)] pl27 pe28 hH.mine hI35 (by omega) (by simp [wtA]) hL31 (zoff_row (mine := [lgI g5 db1 l23 ve26, plO pl27, dkI db1 mb2 0 D22 pe28]) hH 4 rfl) (by intro q hq; simp only [List.mem_cons, List.not_mem_nil, or_false] at hq; subst hq; exact zoff_mkd (mine := [lgI g5 db1 l23 ve26, plO pl27, dkI db1 mb2 0 D22 pe28]) hH 3 rfl rfl (Nat.le_refl _) (by simp [maxLen])) (by intro q hq; simp only [List.mem_cons, List.not_mem_nil, or_false] at hq; subst hq <;> exact ea_bd (by decide) (by decide)) (by omega) (by omega) hR32) ?_)
 rintro _ w52 ⟨D41, l42, er43, es44, ve45, pl46, pe47, rfl, ⟨hs48, hI49, hL50, hR51⟩, hF53⟩
 replace hH := hH.turns hF53
 replace hH := hH.n8
 have hI54 := hI49.mono (show _ ≤ 2 by omega) (show _ ≤ 3000 by simp [wtA])
 have hp2 : putsA l23.c [ea3] = some cnB := by rw [hcA]; rfl
 obtain ⟨heB, hcB⟩ := save_yes (c' := cnB) hI35 (by omega) (t := 2) (v := 1) (by omega) (by omega) (by intro q hq; simp only [List.mem_cons, List.not_mem_nil, or_false] at hq; rcases hq with rfl <;> exact ea_bd (by decide) (by decide)) hp2 (by rfl) (saveB_ne (ea_bd (by decide) (by decide)) (by decide)) hs48
 simp only at heB hcB
 replace hcB : l42.c = cnB := hcB
 refine Go1 1 5 (errV er43) <| Dn <| sw_sr <| Go2 2 38 (Pp g5 0) 39 (.agg #[.int .i64 4, .int .i64 3, .int .i64 0, .slice none 0 0]) <| gl_st (st_buildS (e := 64) (zv := .agg #[.int .i64 0, .int .i64 0, .int .i64 0, .slice none 0 0]) (m := 4) (bytes := 48) rfl rfl rfl (by kernel_rfl) (by kernel_rfl) rfl (cs := [.int .i64 4, .int .i64 3, .int .i64 0, .slice none 0 0]) (by kernel_rfl) rfl hH ?_)
 clear hH; intro b55 w56 hH
 replace hH := hH.n9
 replace hH : Hp w w56 _ _ ([_, _, _] ++ [_, _, _, _, _, _]) := hH.fr8.fr8.fr8
 refine gl_st (Sc rfl rfl (SaveI_ct g5 2 1 _ _ es44 [((ea4 : EA), Value.slice none 0 0)] pl46 pe47 hH.mine hI54 (by omega) (by simp [wtA]) hL50 (zoff_row (mine := [lgI g5 db1 l42 ve45, plO pl46, dkI db1 mb2 0 D41 pe47]) hH 5 rfl) (by intro q hq; simp only [List.mem_cons, List.not_mem_nil, or_false] at hq; subst hq; exact RB.nil _) (by intro q hq; simp only [List.mem_cons, List.not_mem_nil, or_false] at hq; subst hq <;> exact ea_bd (by decide) (by decide)) (by omega) (by omega) hR51) ?_)
 rintro _ w68 ⟨D57, l58, er59, es60, ve61, pl62, pe63, rfl, ⟨hs64, hI65, hL66, hR67⟩, hF69⟩
 replace hH := hH.turns hF69
 replace hH := hH.n9
 have hI70 := hI65.mono (show _ ≤ 3 by omega) (show _ ≤ 9000 by simp [wtA])
 have hp4 := save_no4 hcB hI54.bad hs64
 have heC : er59 = 1 := congrArg (fun x => x.2.2) hp4
 have hcC : l58.c = cnB := by have h9 := congrArg (fun x => x.2.1) hp4; simp only at h9; rw [h9]; exact hcB
 replace hH := hH.n9
 refine glo 1 [(1, Pp db1 0), (2, Pp g5 0), (4, errV er24), (5, errV er43), (6, errV er59)] <| Dn <| sw_sr <| Go1 1 42 (Pp g5 0) ?_
 replace hH : Hp w w68 _ _ ([_, _, _] ++ [_, _, _, _, _, _]) := hH.fr9.fr9.fr9
 refine gl_st (Sc rfl rfl (CompactI_ct g5 1 2 _ es60 pl62 pe63 hH.mine hI70 (by omega) (by omega) hL66 (by omega) (by omega) hR67) ?_)
 rintro _ w82 ⟨D71, l72, er73, es74, ve75, pl76, pe77, rfl, ⟨hs78, hI79, hL80, hR81⟩, hF83⟩
 replace hH := hH.turns hF83
 replace hH := hH.n9
 obtain ⟨heD, hcD, hfD⟩ := compact_yes (a := 1) (t := 2) hI70 (by omega) (by omega) (by omega) hs78
 simp only at heD hcD hfD
 replace hcD : l72.c.es = [⟨2, 3, 0, [99]⟩] := by rw [hcD, hcC]; rfl
 replace hH := hH.n9
 refine Go1 1 7 (errV er73) <| Dn <| sw_sr <| Go1 1 44 (Pp g5 0) <| gl_st (Sc rfl rfl (Entries_ct g5 _ es74 _ (hH.blk_cell 6 rfl rfl) (hL80.row.mono (pz_le hH 7 rfl)) (fun q hq => (hL80.ok q hq).1.d.mono (pz_le hH 7 rfl)) (fun q hq => (hL80.ok q hq).2) (by have h9 := hL80.len; have h8 := hI79.cnt; omega)) ?_)
 rintro _ w89 ⟨v84, rs85, rfl, hrs86, hF90⟩
 replace hH := hH.call hF90
 rw [hL80.fst] at hrs86
 rw [hcD] at hrs86
 obtain ⟨v9, hr0, hrl⟩ := rs_one hrs86
 obtain ⟨A91, c92, rfl, hl93, hm94⟩ := hH.row_form 9 rfl
 replace hH := hH.n11
 refine Go1 1 8 (.slice A91 rs85.length c92) <| Dn <| sw_sr <| Go1 1 46 (errV er24) <| Gq rfl (rd_err_eq (by kernel_rfl) rfl) <| gl_cv 47 (.bool true) (by rw [heA]; rfl) rfl <| Go2 2 48 (.bool true) 49 (errV er43) <| Gq rfl (rd_err_eq (by kernel_rfl) rfl) <| gl_cv 50 (.bool true) (by rw [heB]; rfl) rfl <| Go2 3 52 (.bool true) 53 (errV er59) <| gl_st (Sc rfl rfl (Code_ct er59 _ (hH.zin _ _ hG)) ?_)
 rintro _ w95 ⟨rfl, hF96⟩
 replace hH := hH.call hF96
 replace hH := hH.n11
 refine Go1 1 55 (.bool ((er59 : Int) == (1 : Int))) <| gl_cv 55 (.bool true) (by rw [heC]; rfl) rfl <| Go2 3 57 (.bool true) 58 (errV er73) <| Gq rfl (rd_err_eq (by kernel_rfl) rfl) <| gl_cv 59 (.bool true) (by rw [heD]; rfl) rfl <| Go2 3 61 (.bool true) 62 (.slice A91 rs85.length c92) <| Gq rfl (Ln (e := 64) rfl) <| Go1 1 64 (.bool (((rs85.length : Nat) : Int) == (1 : Int))) <| gl_cv 64 (.bool true) (by rw [hrl]; rfl) rfl ?_
 obtain ⟨b98, hb97, hi99⟩ := hH.row_idx 9 rfl 0 (by omega)
 refine glo 3 [(1, Pp db1 0), (8, .slice A91 rs85.length c92), (66, .bool true), (67, .slice A91 rs85.length c92)] <| Gq rfl (Ix (e := 64) 4 rfl rfl hi99) <| Go1 1 69 (Pp b98 (0 * 4 + 1)) <| Gq rfl (Lo 9 hH rfl rfl hb97 (rowC_at enC_len hr0 1 (by decide) rfl)) ?_
 obtain ⟨b101, hb100, hi102⟩ := hH.row_idx 9 rfl 0 (by omega)
 refine Go2 4 73 (.bool true) 74 (.slice A91 rs85.length c92) <| Gq rfl (Ix (e := 64) 4 rfl rfl hi102) ?_
 obtain ⟨A9, c9, rfl, _, _⟩ := (show RB _ v9 [99] from enRows_rb hH 10 rfl _ (List.mem_of_getElem? hr0)).row.form
 refine Go1 1 76 (Pp b101 (0 * 4 + 3)) <| Gq rfl (rd_loadO 9 (by kernel_rfl) hH rfl rfl hb100 (rowC_at enC_len hr0 3 (by decide) rfl)) <| Gq rfl (rd_str (e := 5) (by kernel_rfl) (by kernel_rfl) (by kernel_rfl) rfl (show RB _ _ [99] from enRows_rb hH 10 rfl _ (List.mem_of_getElem? hr0))) <| Gq rfl (rd_seql (by kernel_rfl) rfl rfl) <| gl_cv 79 (.bool true) (by rfl) rfl <| Go2 3 81 (.bool true) 82 (Pp db1 0) ?_
 replace hH : Hp w w95 _ _ ([_] ++ [_, _, _, _, _, _, _, _, _, _]) := hH.fr9
 refine gl_st (Sc rfl rfl (Files_ct db1 mb2 0 D71 pe77 _ _ hH.mine hR81 hI79.good (by omega) (by have := hI79.few; omega)) ?_)
 rintro _ w108 ⟨v103, fs104, rfl, hfs105, hF109⟩
 replace hH := hH.turns hF109
 replace hH : Hp w w108 _ _ [_, _, _, _, _, _, _, _, _, _, _, _, _] := hH
 have hfl : fs104.length = 1 := by have h9 := congrArg List.length hfs105; rw [List.length_map] at h9; omega
 obtain ⟨A110, c111, rfl, hl112, hm113⟩ := hH.row_form 11 rfl
 replace hH : Hp w w108 _ _ [_, _, _, _, _, _, _, _, _, _, _, _, _] := hH
 refine Gq rfl (Ln (e := 83) rfl) <| Go1 1 85 (.bool (((fs104.length : Nat) : Int) == (1 : Int))) <| gl_cv 85 (.bool true) (by rw [hfl]; rfl) rfl <| Go1 2 0 (.bool true) <| Dn <| Rt1 rfl rfl ?_
 exact ⟨rfl, (hH.sb sln).fresh⟩
end Go.Proofs.YtajapgjemefoiaaGreatDoor
