/- Law 18: act: an act on both disks: the same answers, the same state. -/
import Derived.Test.YtjcchjgkkplamaaDoorAct18
set_option maxRecDepth 100000
set_option maxHeartbeats 4000000
set_option linter.unusedVariables false
set_option linter.unusedSimpArgs false
namespace Go.Proofs.YtjcchjgkkplamaaDoor
open Go.RowKit Go.SW
/-- What holds between a disk's state, the program's and the document's. -/
structure Inv (D : Dsk) (es : List PE) (L : FV) (part : Int) (M N : Nat) : Prop where
  rep : Rep es D.fs
  fst : L.map (·.1) = D.fs
  ar : ArOk D.ar
  part : PartOk D.ar part
  good : Good D.fs M
  len : D.fs.length ≤ N
theorem Inv.llen {D : Dsk} {es : List PE} {L : FV} {part : Int} {M N : Nat} (h : Inv D es L part M N) : L.length ≤ N := by
  have := congrArg List.length h.fst
  have h2 := h.len
  simp only [List.length_map] at this
  omega
def actD (D : Dsk) (dv : Int) (nm b : List UInt8) (n m : Int) (ks : List Int) : Dsk :=
  if 0 ≤ dv ∧ dv ≤ 4 then (doD D dv.toNat nm b n).1 else if dv = 5 then armD D n m else if dv = 6 then startD D ks else D
theorem inv_do {D : Dsk} {es es' : List PE} {L L' : FV} {part : Int} {M N : Nat} (h : Inv D es L part M N) {kind : Nat} {nm b : List UInt8} {n : Int} {R : Dsk × Nat} (hr : doD D kind nm b n = R) (h1 : Rep es' R.1.fs) (h2 : L'.map (·.1) = R.1.fs) : Inv R.1 es' L' part (M + b.length) (N + 1) := by
  subst hr
  exact ⟨h1, h2, arOk_do h.ar _ _ _ _, part_do h.part _ _ _ _, good_doD h.good _ _ _ _, Nat.le_trans (len_doD _ _ _ _ _) (by have := h.len; omega)⟩
theorem inv_same {D : Dsk} {es : List PE} {L : FV} {part : Int} {M M' N N' : Nat} (h : Inv D es L part M N) (hm : M ≤ M') (hn : N ≤ N') : Inv D es L part M' N' :=
  ⟨h.rep, h.fst, h.ar, h.part, h.good.mono hm, Nat.le_trans h.len hn⟩
theorem inv_arm {D : Dsk} {es : List PE} {L : FV} {part : Int} {M N : Nat} (h : Inv D es L part M N) (a p : Int) (ha : a ≤ 9223372036854775807) : Inv (armD D a p) es L p M N :=
  ⟨h.rep, h.fst, arOk_arm a p ha D, part_arm D a p, h.good, h.len⟩
theorem inv_start {D : Dsk} {es es' : List PE} {L L' : FV} {part : Int} {M N : Nat} (h : Inv D es L part M N) (ks : List Int) (h1 : Rep es' (startD D ks).fs) (h2 : L'.map (·.1) = (startD D ks).fs) : Inv (startD D ks) es' L' part M N :=
  ⟨h1, h2, (fun a p e => by cases e), (fun a p e => by cases e), good_start h.good ks, by show (startF D.fs ks).length ≤ N; unfold startF; rw [List.length_mapIdx]; exact h.len⟩
theorem rows1 {w0 w : World} {z : Zone} {F : List Nat} {e : TypeId} {a0 : Value} {r : List Own} (h : Hp w0 w z F (anyO e a0 :: r)) : Hp w0 w z F (.grp ([a0].map (anyO e)) :: r) := by
  have h3 : Hp w0 w z F ([a0].map (anyO e) ++ r) := h
  exact h3.close
theorem RArmG_ct (xb : Nat) (rv : Value) (D : Dsk) (part : Int) (L : FV) (a p : Int) (w : World) (hM : Mine w (ownR xb rv D part L)) :
    Fun Tryd.prog 67 [.pointer (some ⟨xb, 0, none⟩), .int .i64 a, .int .i64 p] w fun v w' => v = .tuple #[] ∧ Turn w w' (ownR xb rv D part L) (ownR xb rv (armD D a p) p L) := by
  have hH : Hp w w (off w (blksOf (ownR xb rv D part L))) (blksOf (ownR xb rv D part L)) ([rhdO xb rv D.off (actsI D.ar) part] ++ [lstO rv L, filRs L]) := (Hp.start_mine hM).open_
  refine (RArm_ct xb rv D.off (actsI D.ar) part a p w hH.mine).mono ?_
  rintro v w' ⟨rfl, hT⟩
  have h2 := (hH.turns hT).pick [2, 0, 1] (by kernel_rfl) rfl
  have h3 : Hp w w' (off w (blksOf (ownR xb rv D part L))) (blksOf (ownR xb rv D part L)) (rdkO xb rv (armD D a p).off (actsI (armD D a p).ar) p L ++ []) := h2.cast (by rw [actsI_arm]; rfl)
  exact ⟨rfl, h3.close.turned⟩

theorem Act_ct (db mb ab xb : Nat) (rv : Value) (D : Dsk) (es : List PE) (L : FV) (part : Int) (M N : Nat) (dv : Int) (nm bb : List UInt8) (n m : Int) (ks : List Int) (vb vl : Value) (w : World) (hM : Mine w [.grp (dskO db mb ab D es), .grp (rdkO xb rv D.off (actsI D.ar) part L)]) (hI : Inv D es L part M N) (hbz : RB (off w (blksOf [.grp (dskO db mb ab D es), .grp (rdkO xb rv D.off (actsI D.ar) part L)])) vb bb) (hl : Row (off w (blksOf [.grp (dskO db mb ab D es), .grp (rdkO xb rv D.off (actsI D.ar) part L)])) vl 1 ks.length (iv ks)) (hG : off w (blksOf [.grp (dskO db mb ab D es), .grp (rdkO xb rv D.off (actsI D.ar) part L)]) ⟨0, 0, none⟩ = some errTy)
    (hMM : M + bb.length ≤ 4194304) (hNN : N ≤ 800000) (hs : nm.length ≤ 140737488355328) (hbl : bb.length ≤ 1048576) (hkl : ks.length ≤ 1048576) (hn : n ≤ 9223372036854775807) :
    Fun Tryd.prog 32 [.pointer (some ⟨db, 0, none⟩), .pointer (some ⟨xb, 0, none⟩), .agg #[.int .i64 dv, .string (bs nm), vb, .int .i64 n, .int .i64 m, vl]] w fun v w' =>
      ∃ ab' es' rv' part' L', v = .bool true ∧ Inv (actD D dv nm bb n m ks) es' L' part' (M + bb.length) (N + 1) ∧ Turn w w' [.grp (dskO db mb ab D es), .grp (rdkO xb rv D.off (actsI D.ar) part L)] [.grp (dskO db mb ab' (actD D dv nm bb n m ks) es'), .grp (rdkO xb rv' (actD D dv nm bb n m ks).off (actsI (actD D dv nm bb n m ks).ar) part' L')] := by
  obtain ⟨Ab, cb, rfl, hb1, hb2⟩ := hbz.row.form
  obtain ⟨Ak, ck, rfl, hk1, hk2⟩ := hl.form
  refine fun_of_sw Tryd.func32 rfl 167 rfl rfl ?_
  have hH := Hp.start_mine hM
  refine sw_seq ?_
  refine sw_region ?_  -- R0 law.go:38
  refine gl_st (st_boxH (cs := [.int .i64 dv, .string (bs nm), .slice Ab bb.length cb, .int .i64 n, .int .i64 m, .slice Ak ks.length ck]) rfl rfl rfl rfl hH ?_)
  clear hH; intro b1 w2 hH
  refine gl_ops 1 [(0, .pointer (some ⟨db, 0, none⟩)), (1, .pointer (some ⟨xb, 0, none⟩)), (5, .pointer (some ⟨b1, 0, none⟩))] (by kernel_rfl) ?_
  refine gl_done rfl ?_
  refine sw_next ?_
  refine sw_seq ?_
  refine sw_region ?_  -- R1 law.go:39
  refine gl_ops 1 [(0, .pointer (some ⟨db, 0, none⟩)), (1, .pointer (some ⟨xb, 0, none⟩)), (5, .pointer (some ⟨b1, 0, none⟩)), (19, .pointer (some ⟨b1, 2, none⟩))] (by kernel_rfl) ?_
  refine gl_q rfl rfl rfl (rd_loadK 2 (by kernel_rfl) hH rfl rfl rfl) ?_
  refine gl_st (st_call rfl rfl rfl (by kernel_rfl) rfl (Lent_ct _ bb _ (hbz.mono hH.zin) (by omega)) ?_)
  rintro _ w5 ⟨b3, rfl, hF6⟩
  replace hH := hH.call hF6; clear hF6
  refine gl_ops 1 [(0, .pointer (some ⟨db, 0, none⟩)), (1, .pointer (some ⟨xb, 0, none⟩)), (5, .pointer (some ⟨b1, 0, none⟩)), (7, .slice (some ⟨b3, 0, none⟩) bb.length (bb.length + 1))] (by kernel_rfl) ?_
  refine gl_done rfl ?_
  refine sw_next ?_
  refine sw_seq ?_
  refine sw_region ?_  -- R2 law.go:40
  refine gl_ops 1 [(0, .pointer (some ⟨db, 0, none⟩)), (1, .pointer (some ⟨xb, 0, none⟩)), (5, .pointer (some ⟨b1, 0, none⟩)), (7, .slice (some ⟨b3, 0, none⟩) bb.length (bb.length + 1)), (8, .nilIface)] (by kernel_rfl) ?_
  refine gl_done rfl ?_
  refine sw_next ?_
  refine sw_seq ?_
  refine sw_region ?_  -- R3 law.go:41
  refine gl_ops 1 [(0, .pointer (some ⟨db, 0, none⟩)), (1, .pointer (some ⟨xb, 0, none⟩)), (5, .pointer (some ⟨b1, 0, none⟩)), (7, .slice (some ⟨b3, 0, none⟩) bb.length (bb.length + 1)), (8, .nilIface), (9, .int .i64 0)] (by kernel_rfl) ?_
  refine gl_done rfl ?_
  refine sw_next ?_
  refine sw_seq ?_
  refine sw_seq ?_
  refine sw_region ?_  -- R4 law.go:42
  refine gl_ops 1 [(0, .pointer (some ⟨db, 0, none⟩)), (1, .pointer (some ⟨xb, 0, none⟩)), (5, .pointer (some ⟨b1, 0, none⟩)), (7, .slice (some ⟨b3, 0, none⟩) bb.length (bb.length + 1)), (8, .nilIface), (9, .int .i64 0), (22, .pointer (some ⟨b1, 0, none⟩))] (by kernel_rfl) ?_
  refine gl_q rfl rfl rfl (rd_loadK 2 (by kernel_rfl) hH rfl rfl rfl) ?_
  refine gl_done rfl ?_
  refine sw_next ?_
  refine sw_block ?_
  refine sw_seq ?_
  refine sw_region ?_  -- R9 law.go:43
  refine gl_ops 2 [(0, .pointer (some ⟨db, 0, none⟩)), (1, .pointer (some ⟨xb, 0, none⟩)), (5, .pointer (some ⟨b1, 0, none⟩)), (7, .slice (some ⟨b3, 0, none⟩) bb.length (bb.length + 1)), (8, .nilIface), (9, .int .i64 0), (23, .int .i64 dv), (55, .bool ((dv : Int) == (0 : Int)))] (by kernel_rfl) ?_
  refine gl_done rfl ?_
  refine sw_next ?_
  refine sw_cond rfl rfl (fun hc1 => ?_) (fun hc1 => ?_)
  ·
    try simp only [decide_eq_true_eq, beq_iff_eq, bne_iff_ne, ne_eq, Bool.not_eq_true', beq_eq_false_iff_ne, bne_eq_false_iff_eq, decide_eq_false_iff_not, Int.not_lt, Int.not_le] at hc1
    subst hc1
    refine sw_region ?_  -- R10 law.go:44
    refine gl_ops 2 [(1, .pointer (some ⟨xb, 0, none⟩)), (5, .pointer (some ⟨b1, 0, none⟩)), (7, .slice (some ⟨b3, 0, none⟩) bb.length (bb.length + 1)), (9, .int .i64 0), (57, .pointer (some ⟨db, 0, none⟩)), (58, .pointer (some ⟨b1, 1, none⟩))] (by kernel_rfl) ?_
    refine gl_q rfl rfl rfl (rd_loadK 2 (by kernel_rfl) hH rfl rfl rfl) ?_
    obtain ⟨R, hr⟩ : ∃ R, doD D 0 nm bb n = R := ⟨_, rfl⟩
    refine gl_ops 1 [(1, .pointer (some ⟨xb, 0, none⟩)), (5, .pointer (some ⟨b1, 0, none⟩)), (7, .slice (some ⟨b3, 0, none⟩) bb.length (bb.length + 1)), (9, .int .i64 0), (57, .pointer (some ⟨db, 0, none⟩)), (59, .string (bs nm)), (60, .slice (some ⟨b3, 0, none⟩) bb.length (bb.length + 1))] (by kernel_rfl) ?_
    replace hH : Hp w w5 _ _ ([.grp (dskO db mb ab D es)] ++ [.grp (rdkO xb rv D.off (actsI D.ar) part L), .blk b1 77 [.int .i64 0, .string (bs nm), .slice Ab bb.length cb, .int .i64 n, .int .i64 m, .slice Ak ks.length ck], .row (.slice (some ⟨b3, 0, none⟩) (bb.length + 1) (bb.length + 1)) 5 1 (bb.length + 1) (bv (bb ++ [77]))]) := hH
    refine gl_st (st_call rfl rfl rfl (by kernel_rfl) rfl (by have h9 := Append_ct db mb ab D es nm _ bb M _ hH.mine hI.rep hI.ar hI.good (by omega) hs (lent_row (zoff_row (mine := [.grp (dskO db mb ab D es)]) hH 2 rfl)) (by omega); rw [doD_irr0 D nm bb n, hr] at h9; exact h9) ?_)
    rintro _ w7 ⟨es2, rfl, hR2, hF8⟩
    replace hH := hH.turns hF8; clear hF8
    replace hH : Hp w w7 _ _ [.grp (rdkO xb rv D.off (actsI D.ar) part L), .blk b1 77 [.int .i64 0, .string (bs nm), .slice Ab bb.length cb, .int .i64 n, .int .i64 m, .slice Ak ks.length ck], .row (.slice (some ⟨b3, 0, none⟩) (bb.length + 1) (bb.length + 1)) 5 1 (bb.length + 1) (bv (bb ++ [77])), .grp (dskO db mb ab R.1 es2)] := hH
    refine gl_ops 1 [(1, .pointer (some ⟨xb, 0, none⟩)), (5, .pointer (some ⟨b1, 0, none⟩)), (7, .slice (some ⟨b3, 0, none⟩) bb.length (bb.length + 1)), (8, errV R.2), (9, .int .i64 0)] (by kernel_rfl) ?_
    refine gl_done rfl ?_
    refine bkN ?_
    refine sw_next ?_
    refine sw_seq ?_
    refine sw_seq ?_
    refine sw_region ?_  -- R31 law.go:71
    refine gl_ops 1 [(1, .pointer (some ⟨xb, 0, none⟩)), (5, .pointer (some ⟨b1, 0, none⟩)), (7, .slice (some ⟨b3, 0, none⟩) bb.length (bb.length + 1)), (8, errV R.2), (9, .int .i64 0), (132, .pointer (some ⟨b1, 0, none⟩))] (by kernel_rfl) ?_
    refine gl_q rfl rfl rfl (rd_loadK 1 (by kernel_rfl) hH rfl rfl rfl) ?_
    refine gl_ops 3 [(1, .pointer (some ⟨xb, 0, none⟩)), (5, .pointer (some ⟨b1, 0, none⟩)), (7, .slice (some ⟨b3, 0, none⟩) bb.length (bb.length + 1)), (8, errV R.2), (9, .int .i64 0), (135, .bool true), (136, .pointer (some ⟨b1, 0, none⟩))] (by kernel_rfl) ?_
    refine gl_q rfl rfl rfl (rd_loadK 1 (by kernel_rfl) hH rfl rfl rfl) ?_
    refine gl_ops 2 [(1, .pointer (some ⟨xb, 0, none⟩)), (5, .pointer (some ⟨b1, 0, none⟩)), (7, .slice (some ⟨b3, 0, none⟩) bb.length (bb.length + 1)), (8, errV R.2), (9, .int .i64 0), (139, .bool true)] (by kernel_rfl) ?_
    refine gl_done rfl ?_
    refine sw_next ?_
    refine sw_true rfl rfl ?_
    refine sw_region ?_  -- R32 law.go:72
    refine gl_ops 2 [(5, .pointer (some ⟨b1, 0, none⟩)), (7, .slice (some ⟨b3, 0, none⟩) bb.length (bb.length + 1)), (8, errV R.2), (140, .pointer (some ⟨xb, 0, none⟩)), (141, .pointer (some ⟨b1, 0, none⟩))] (by kernel_rfl) ?_
    refine gl_q rfl rfl rfl (rd_loadK 1 (by kernel_rfl) hH rfl rfl rfl) ?_
    refine gl_ops 1 [(5, .pointer (some ⟨b1, 0, none⟩)), (7, .slice (some ⟨b3, 0, none⟩) bb.length (bb.length + 1)), (8, errV R.2), (140, .pointer (some ⟨xb, 0, none⟩)), (142, .int .i64 0), (143, .pointer (some ⟨b1, 1, none⟩))] (by kernel_rfl) ?_
    refine gl_q rfl rfl rfl (rd_loadK 1 (by kernel_rfl) hH rfl rfl rfl) ?_
    refine gl_ops 1 [(5, .pointer (some ⟨b1, 0, none⟩)), (7, .slice (some ⟨b3, 0, none⟩) bb.length (bb.length + 1)), (8, errV R.2), (140, .pointer (some ⟨xb, 0, none⟩)), (142, .int .i64 0), (144, .string (bs nm)), (145, .pointer (some ⟨b1, 2, none⟩))] (by kernel_rfl) ?_
    refine gl_q rfl rfl rfl (rd_loadK 1 (by kernel_rfl) hH rfl rfl rfl) ?_
    refine gl_ops 1 [(5, .pointer (some ⟨b1, 0, none⟩)), (7, .slice (some ⟨b3, 0, none⟩) bb.length (bb.length + 1)), (8, errV R.2), (140, .pointer (some ⟨xb, 0, none⟩)), (142, .int .i64 0), (144, .string (bs nm)), (146, .slice Ab bb.length cb), (147, .pointer (some ⟨b1, 3, none⟩))] (by kernel_rfl) ?_
    refine gl_q rfl rfl rfl (rd_loadK 1 (by kernel_rfl) hH rfl rfl rfl) ?_
    replace hH : Hp w w7 _ _ ([.grp (rdkO xb rv D.off (actsI D.ar) part L)] ++ [.blk b1 77 [.int .i64 0, .string (bs nm), .slice Ab bb.length cb, .int .i64 n, .int .i64 m, .slice Ak ks.length ck], .row (.slice (some ⟨b3, 0, none⟩) (bb.length + 1) (bb.length + 1)) 5 1 (bb.length + 1) (bv (bb ++ [77])), .grp (dskO db mb ab R.1 es2)]) := hH
    refine gl_st (st_call rfl rfl rfl (by kernel_rfl) rfl (by have h9 := RDo0_ct xb _ D part L nm _ bb n M _ hH.mine hI.fst hI.ar hI.part hI.good (by omega) (by have := hI.llen; omega) hs (hbz.mono hH.zoff) (by omega); rw [hr] at h9; exact h9) ?_)
    rintro _ w9 ⟨rv2, L2, rfl, hL2, hF10⟩
    replace hH := hH.turns hF10; clear hF10
    replace hH : Hp w w9 _ _ [.blk b1 77 [.int .i64 0, .string (bs nm), .slice Ab bb.length cb, .int .i64 n, .int .i64 m, .slice Ak ks.length ck], .row (.slice (some ⟨b3, 0, none⟩) (bb.length + 1) (bb.length + 1)) 5 1 (bb.length + 1) (bv (bb ++ [77])), .grp (dskO db mb ab R.1 es2), .grp (rdkO xb rv2 (R.1).off (actsI (R.1).ar) part L2)] := hH
    refine gl_ops 1 [(5, .pointer (some ⟨b1, 0, none⟩)), (7, .slice (some ⟨b3, 0, none⟩) bb.length (bb.length + 1)), (8, errV R.2), (9, .int .i64 ((R.2 : Nat) : Int))] (by kernel_rfl) ?_
    refine gl_done rfl ?_
    refine sw_next ?_
    refine sw_seq ?_
    refine sw_region ?_  -- R33 law.go:74
    refine gl_ops 2 [(7, .slice (some ⟨b3, 0, none⟩) bb.length (bb.length + 1)), (8, errV R.2), (9, .int .i64 ((R.2 : Nat) : Int)), (150, .slice (some ⟨b3, 0, none⟩) bb.length (bb.length + 1)), (151, .pointer (some ⟨b1, 2, none⟩))] (by kernel_rfl) ?_
    refine gl_q rfl rfl rfl (rd_loadK 0 (by kernel_rfl) hH rfl rfl rfl) ?_
    refine gl_st (st_call rfl rfl rfl (by kernel_rfl) rfl (Kept_ct _ bb _ _ (hH.row_reads 1 rfl) (hbz.mono hH.zin) (by omega)) ?_)
    rintro _ w11 ⟨rfl, hF12⟩
    replace hH := hH.call hF12; clear hF12
    refine gl_ops 1 [(7, .slice (some ⟨b3, 0, none⟩) bb.length (bb.length + 1)), (8, errV R.2), (9, .int .i64 ((R.2 : Nat) : Int)), (17, .bool true)] (by kernel_rfl) ?_
    refine gl_done rfl ?_
    refine sw_next ?_
    refine sw_seq ?_
    refine sw_region ?_  -- R34 law.go:75
    refine gl_ops 1 [(8, errV R.2), (9, .int .i64 ((R.2 : Nat) : Int)), (17, .bool true), (154, .slice (some ⟨b3, 0, none⟩) bb.length (bb.length + 1))] (by kernel_rfl) ?_
    refine gl_st (st_buildS (e := 22) (zv := .slice none 0 0) (m := 1) (bytes := 24) rfl rfl rfl (by kernel_rfl) (by kernel_rfl) rfl (cs := [.slice (some ⟨b3, 0, none⟩) bb.length (bb.length + 1)]) (by kernel_rfl) rfl hH ?_)
    clear hH; intro b13 w14 hH
    replace hH : Hp w w14 _ _ [.blk b1 77 [.int .i64 0, .string (bs nm), .slice Ab bb.length cb, .int .i64 n, .int .i64 m, .slice Ak ks.length ck], .row (.slice (some ⟨b3, 0, none⟩) (bb.length + 1) (bb.length + 1)) 5 1 (bb.length + 1) (bv (bb ++ [77])), .grp (dskO db mb ab R.1 es2), .grp (rdkO xb rv2 (R.1).off (actsI (R.1).ar) part L2), .row (.slice (some ⟨b13, 0, none⟩) 1 1) 22 1 1 [.slice (some ⟨b3, 0, none⟩) bb.length (bb.length + 1)]] := hH
    replace hH := hH.pick [1, 0, 2, 3, 4] (by kernel_rfl) (os' := [.row (.slice (some ⟨b3, 0, none⟩) (bb.length + 1) (bb.length + 1)) 5 1 (bb.length + 1) (bv (bb ++ [77])), .blk b1 77 [.int .i64 0, .string (bs nm), .slice Ab bb.length cb, .int .i64 n, .int .i64 m, .slice Ak ks.length ck], .grp (dskO db mb ab R.1 es2), .grp (rdkO xb rv2 (R.1).off (actsI (R.1).ar) part L2), .row (.slice (some ⟨b13, 0, none⟩) 1 1) 22 1 1 [.slice (some ⟨b3, 0, none⟩) bb.length (bb.length + 1)]]) (by kernel_rfl)
    replace hH : Hp _ _ _ _ (anyO 5 (.slice (some ⟨b3, 0, none⟩) bb.length (bb.length + 1)) :: _) := row_any' (by omega) hH
    replace hH := rows1 hH
    replace hH : Hp w w14 _ _ [.grp ([Value.slice (some ⟨b3, 0, none⟩) bb.length (bb.length + 1)].map (anyO 5)), .blk b1 77 [.int .i64 0, .string (bs nm), .slice Ab bb.length cb, .int .i64 n, .int .i64 m, .slice Ak ks.length ck], .grp (dskO db mb ab R.1 es2), .grp (rdkO xb rv2 (R.1).off (actsI (R.1).ar) part L2), .row (.slice (some ⟨b13, 0, none⟩) 1 1) 22 1 1 [.slice (some ⟨b3, 0, none⟩) bb.length (bb.length + 1)]] := hH
    replace hH : Hp w w14 _ _ ([.grp ([Value.slice (some ⟨b3, 0, none⟩) bb.length (bb.length + 1)].map (anyO 5))] ++ [.blk b1 77 [.int .i64 0, .string (bs nm), .slice Ab bb.length cb, .int .i64 n, .int .i64 m, .slice Ak ks.length ck], .grp (dskO db mb ab R.1 es2), .grp (rdkO xb rv2 (R.1).off (actsI (R.1).ar) part L2), .row (.slice (some ⟨b13, 0, none⟩) 1 1) 22 1 1 [.slice (some ⟨b3, 0, none⟩) bb.length (bb.length + 1)]]) := hH
    refine gl_st (st_call rfl rfl rfl (by kernel_rfl) rfl (Owned_ct _ [Value.slice (some ⟨b3, 0, none⟩) bb.length (bb.length + 1)] _ hH.mine (zoff_row (mine := [.grp ([Value.slice (some ⟨b3, 0, none⟩) bb.length (bb.length + 1)].map (anyO 5))]) hH 3 rfl) (by simp)) ?_)
    rintro _ w15 ⟨rfl, hF16⟩
    replace hH := hH.turns hF16; clear hF16
    replace hH : Hp w w15 _ _ [.blk b1 77 [.int .i64 0, .string (bs nm), .slice Ab bb.length cb, .int .i64 n, .int .i64 m, .slice Ak ks.length ck], .grp (dskO db mb ab R.1 es2), .grp (rdkO xb rv2 (R.1).off (actsI (R.1).ar) part L2), .row (.slice (some ⟨b13, 0, none⟩) 1 1) 22 1 1 [.slice (some ⟨b3, 0, none⟩) bb.length (bb.length + 1)]] := hH
    refine gl_ops 1 [(8, errV R.2), (9, .int .i64 ((R.2 : Nat) : Int)), (17, .bool true), (18, .bool true)] (by kernel_rfl) ?_
    refine gl_done rfl ?_
    refine sw_next ?_
    refine sw_seq ?_
    refine sw_region ?_  -- R35 law.go:76
    refine gl_ops 6 [(9, .int .i64 ((R.2 : Nat) : Int)), (161, .bool true), (162, errV R.2)] (by kernel_rfl) ?_
    refine gl_st (st_call rfl rfl rfl (by kernel_rfl) rfl (Code_ct R.2 _ (hH.zin _ _ hG)) ?_)
    rintro _ w17 ⟨rfl, hF18⟩
    replace hH := hH.call hF18; clear hF18
    refine gl_ops 2 [(161, .bool true), (165, .bool (((R.2 : Nat) : Int) == ((R.2 : Nat) : Int)))] (by kernel_rfl) ?_
    refine gl_cv 165 (.bool true) (by rw [beq_self_eq_true]) rfl ?_
    refine gl_ops 2 [(6, .bool true)] (by kernel_rfl) ?_
    refine gl_done rfl ?_
    refine sw_next ?_
    refine sw_ret ?_
    refine ret1 rfl rfl  ?_
    replace hH : Hp w w17 _ _ [.blk b1 77 [.int .i64 0, .string (bs nm), .slice Ab bb.length cb, .int .i64 n, .int .i64 m, .slice Ak ks.length ck], .grp (dskO db mb ab R.1 es2), .grp (rdkO xb rv2 (R.1).off (actsI (R.1).ar) part L2), .row (.slice (some ⟨b13, 0, none⟩) 1 1) 22 1 1 [.slice (some ⟨b3, 0, none⟩) bb.length (bb.length + 1)]] := hH
    replace hH := hH.pick [1, 2, 0, 3] (by kernel_rfl) (os' := [.grp (dskO db mb ab R.1 es2), .grp (rdkO xb rv2 (R.1).off (actsI (R.1).ar) part L2), .blk b1 77 [.int .i64 0, .string (bs nm), .slice Ab bb.length cb, .int .i64 n, .int .i64 m, .slice Ak ks.length ck], .row (.slice (some ⟨b13, 0, none⟩) 1 1) 22 1 1 [.slice (some ⟨b3, 0, none⟩) bb.length (bb.length + 1)]]) (by kernel_rfl)
    replace hH := (hH.sublist (.cons_cons _ (.cons_cons _ (List.nil_sublist _))))
    replace hH : Hp w w17 _ _ [.grp (dskO db mb ab R.1 es2), .grp (rdkO xb rv2 (R.1).off (actsI (R.1).ar) part L2)] := hH
    have hact : actD D 0 nm bb n m ks = R.1 := by unfold actD; rw [if_pos (by decide)]; exact congrArg Prod.fst hr
    exact ⟨ab, es2, rv2, part, L2, rfl, by rw [hact]; exact inv_do hI hr hR2 hL2, by rw [hact]; exact hH.turned⟩
  try simp only [decide_eq_false_iff_not, beq_eq_false_iff_ne, bne_eq_false_iff_eq, ne_eq, Decidable.not_not, Int.not_lt, Int.not_le, Bool.not_eq_false', beq_iff_eq, bne_iff_ne, decide_eq_true_eq] at hc1
  have hd0 := hc1
  refine sw_seq ?_
  refine sw_region ?_  -- R11 law.go:45
  refine gl_ops 2 [(0, .pointer (some ⟨db, 0, none⟩)), (1, .pointer (some ⟨xb, 0, none⟩)), (5, .pointer (some ⟨b1, 0, none⟩)), (7, .slice (some ⟨b3, 0, none⟩) bb.length (bb.length + 1)), (8, .nilIface), (9, .int .i64 0), (23, .int .i64 dv), (62, .bool ((dv : Int) == (1 : Int)))] (by kernel_rfl) ?_
  refine gl_done rfl ?_
  refine sw_next ?_
  refine sw_cond rfl rfl (fun hc3 => ?_) (fun hc3 => ?_)
  ·
    try simp only [decide_eq_true_eq, beq_iff_eq, bne_iff_ne, ne_eq, Bool.not_eq_true', beq_eq_false_iff_ne, bne_eq_false_iff_eq, decide_eq_false_iff_not, Int.not_lt, Int.not_le] at hc3
    subst hc3
    refine sw_region ?_  -- R12 law.go:46
    refine gl_ops 2 [(1, .pointer (some ⟨xb, 0, none⟩)), (5, .pointer (some ⟨b1, 0, none⟩)), (7, .slice (some ⟨b3, 0, none⟩) bb.length (bb.length + 1)), (9, .int .i64 0), (64, .pointer (some ⟨db, 0, none⟩)), (65, .pointer (some ⟨b1, 1, none⟩))] (by kernel_rfl) ?_
    refine gl_q rfl rfl rfl (rd_loadK 2 (by kernel_rfl) hH rfl rfl rfl) ?_
    obtain ⟨R, hr⟩ : ∃ R, doD D 1 nm bb n = R := ⟨_, rfl⟩
    replace hH : Hp w w5 _ _ ([.grp (dskO db mb ab D es)] ++ [.grp (rdkO xb rv D.off (actsI D.ar) part L), .blk b1 77 [.int .i64 1, .string (bs nm), .slice Ab bb.length cb, .int .i64 n, .int .i64 m, .slice Ak ks.length ck], .row (.slice (some ⟨b3, 0, none⟩) (bb.length + 1) (bb.length + 1)) 5 1 (bb.length + 1) (bv (bb ++ [77]))]) := hH
    refine gl_st (st_call rfl rfl rfl (by kernel_rfl) rfl (by have h9 := Sync_ct db mb ab D es nm M _ hH.mine hI.rep hI.ar hI.good (by omega) hs; rw [doD_irr1 D nm bb n, hr] at h9; exact h9) ?_)
    rintro _ w19 ⟨es2, rfl, hR2, hF20⟩
    replace hH := hH.turns hF20; clear hF20
    replace hH : Hp w w19 _ _ [.grp (rdkO xb rv D.off (actsI D.ar) part L), .blk b1 77 [.int .i64 1, .string (bs nm), .slice Ab bb.length cb, .int .i64 n, .int .i64 m, .slice Ak ks.length ck], .row (.slice (some ⟨b3, 0, none⟩) (bb.length + 1) (bb.length + 1)) 5 1 (bb.length + 1) (bv (bb ++ [77])), .grp (dskO db mb ab R.1 es2)] := hH
    refine gl_ops 1 [(1, .pointer (some ⟨xb, 0, none⟩)), (5, .pointer (some ⟨b1, 0, none⟩)), (7, .slice (some ⟨b3, 0, none⟩) bb.length (bb.length + 1)), (8, errV R.2), (9, .int .i64 0)] (by kernel_rfl) ?_
    refine gl_done rfl ?_
    refine bkN ?_
    refine sw_next ?_
    refine sw_seq ?_
    refine sw_seq ?_
    refine sw_region ?_  -- R31 law.go:71
    refine gl_ops 1 [(1, .pointer (some ⟨xb, 0, none⟩)), (5, .pointer (some ⟨b1, 0, none⟩)), (7, .slice (some ⟨b3, 0, none⟩) bb.length (bb.length + 1)), (8, errV R.2), (9, .int .i64 0), (132, .pointer (some ⟨b1, 0, none⟩))] (by kernel_rfl) ?_
    refine gl_q rfl rfl rfl (rd_loadK 1 (by kernel_rfl) hH rfl rfl rfl) ?_
    refine gl_ops 3 [(1, .pointer (some ⟨xb, 0, none⟩)), (5, .pointer (some ⟨b1, 0, none⟩)), (7, .slice (some ⟨b3, 0, none⟩) bb.length (bb.length + 1)), (8, errV R.2), (9, .int .i64 0), (135, .bool true), (136, .pointer (some ⟨b1, 0, none⟩))] (by kernel_rfl) ?_
    refine gl_q rfl rfl rfl (rd_loadK 1 (by kernel_rfl) hH rfl rfl rfl) ?_
    refine gl_ops 2 [(1, .pointer (some ⟨xb, 0, none⟩)), (5, .pointer (some ⟨b1, 0, none⟩)), (7, .slice (some ⟨b3, 0, none⟩) bb.length (bb.length + 1)), (8, errV R.2), (9, .int .i64 0), (139, .bool true)] (by kernel_rfl) ?_
    refine gl_done rfl ?_
    refine sw_next ?_
    refine sw_true rfl rfl ?_
    refine sw_region ?_  -- R32 law.go:72
    refine gl_ops 2 [(5, .pointer (some ⟨b1, 0, none⟩)), (7, .slice (some ⟨b3, 0, none⟩) bb.length (bb.length + 1)), (8, errV R.2), (140, .pointer (some ⟨xb, 0, none⟩)), (141, .pointer (some ⟨b1, 0, none⟩))] (by kernel_rfl) ?_
    refine gl_q rfl rfl rfl (rd_loadK 1 (by kernel_rfl) hH rfl rfl rfl) ?_
    refine gl_ops 1 [(5, .pointer (some ⟨b1, 0, none⟩)), (7, .slice (some ⟨b3, 0, none⟩) bb.length (bb.length + 1)), (8, errV R.2), (140, .pointer (some ⟨xb, 0, none⟩)), (142, .int .i64 1), (143, .pointer (some ⟨b1, 1, none⟩))] (by kernel_rfl) ?_
    refine gl_q rfl rfl rfl (rd_loadK 1 (by kernel_rfl) hH rfl rfl rfl) ?_
    refine gl_ops 1 [(5, .pointer (some ⟨b1, 0, none⟩)), (7, .slice (some ⟨b3, 0, none⟩) bb.length (bb.length + 1)), (8, errV R.2), (140, .pointer (some ⟨xb, 0, none⟩)), (142, .int .i64 1), (144, .string (bs nm)), (145, .pointer (some ⟨b1, 2, none⟩))] (by kernel_rfl) ?_
    refine gl_q rfl rfl rfl (rd_loadK 1 (by kernel_rfl) hH rfl rfl rfl) ?_
    refine gl_ops 1 [(5, .pointer (some ⟨b1, 0, none⟩)), (7, .slice (some ⟨b3, 0, none⟩) bb.length (bb.length + 1)), (8, errV R.2), (140, .pointer (some ⟨xb, 0, none⟩)), (142, .int .i64 1), (144, .string (bs nm)), (146, .slice Ab bb.length cb), (147, .pointer (some ⟨b1, 3, none⟩))] (by kernel_rfl) ?_
    refine gl_q rfl rfl rfl (rd_loadK 1 (by kernel_rfl) hH rfl rfl rfl) ?_
    replace hH : Hp w w19 _ _ ([.grp (rdkO xb rv D.off (actsI D.ar) part L)] ++ [.blk b1 77 [.int .i64 1, .string (bs nm), .slice Ab bb.length cb, .int .i64 n, .int .i64 m, .slice Ak ks.length ck], .row (.slice (some ⟨b3, 0, none⟩) (bb.length + 1) (bb.length + 1)) 5 1 (bb.length + 1) (bv (bb ++ [77])), .grp (dskO db mb ab R.1 es2)]) := hH
    refine gl_st (st_call rfl rfl rfl (by kernel_rfl) rfl (by have h9 := RDo1_ct xb _ D part L nm _ bb n M _ hH.mine hI.fst hI.ar hI.part hI.good (by omega) (by have := hI.llen; omega) hs (hbz.mono hH.zoff) (by omega); rw [hr] at h9; exact h9) ?_)
    rintro _ w21 ⟨rv2, L2, rfl, hL2, hF22⟩
    replace hH := hH.turns hF22; clear hF22
    replace hH : Hp w w21 _ _ [.blk b1 77 [.int .i64 1, .string (bs nm), .slice Ab bb.length cb, .int .i64 n, .int .i64 m, .slice Ak ks.length ck], .row (.slice (some ⟨b3, 0, none⟩) (bb.length + 1) (bb.length + 1)) 5 1 (bb.length + 1) (bv (bb ++ [77])), .grp (dskO db mb ab R.1 es2), .grp (rdkO xb rv2 (R.1).off (actsI (R.1).ar) part L2)] := hH
    refine gl_ops 1 [(5, .pointer (some ⟨b1, 0, none⟩)), (7, .slice (some ⟨b3, 0, none⟩) bb.length (bb.length + 1)), (8, errV R.2), (9, .int .i64 ((R.2 : Nat) : Int))] (by kernel_rfl) ?_
    refine gl_done rfl ?_
    refine sw_next ?_
    refine sw_seq ?_
    refine sw_region ?_  -- R33 law.go:74
    refine gl_ops 2 [(7, .slice (some ⟨b3, 0, none⟩) bb.length (bb.length + 1)), (8, errV R.2), (9, .int .i64 ((R.2 : Nat) : Int)), (150, .slice (some ⟨b3, 0, none⟩) bb.length (bb.length + 1)), (151, .pointer (some ⟨b1, 2, none⟩))] (by kernel_rfl) ?_
    refine gl_q rfl rfl rfl (rd_loadK 0 (by kernel_rfl) hH rfl rfl rfl) ?_
    refine gl_st (st_call rfl rfl rfl (by kernel_rfl) rfl (Kept_ct _ bb _ _ (hH.row_reads 1 rfl) (hbz.mono hH.zin) (by omega)) ?_)
    rintro _ w23 ⟨rfl, hF24⟩
    replace hH := hH.call hF24; clear hF24
    refine gl_ops 1 [(7, .slice (some ⟨b3, 0, none⟩) bb.length (bb.length + 1)), (8, errV R.2), (9, .int .i64 ((R.2 : Nat) : Int)), (17, .bool true)] (by kernel_rfl) ?_
    refine gl_done rfl ?_
    refine sw_next ?_
    refine sw_seq ?_
    refine sw_region ?_  -- R34 law.go:75
    refine gl_ops 1 [(8, errV R.2), (9, .int .i64 ((R.2 : Nat) : Int)), (17, .bool true), (154, .slice (some ⟨b3, 0, none⟩) bb.length (bb.length + 1))] (by kernel_rfl) ?_
    refine gl_st (st_buildS (e := 22) (zv := .slice none 0 0) (m := 1) (bytes := 24) rfl rfl rfl (by kernel_rfl) (by kernel_rfl) rfl (cs := [.slice (some ⟨b3, 0, none⟩) bb.length (bb.length + 1)]) (by kernel_rfl) rfl hH ?_)
    clear hH; intro b25 w26 hH
    replace hH : Hp w w26 _ _ [.blk b1 77 [.int .i64 1, .string (bs nm), .slice Ab bb.length cb, .int .i64 n, .int .i64 m, .slice Ak ks.length ck], .row (.slice (some ⟨b3, 0, none⟩) (bb.length + 1) (bb.length + 1)) 5 1 (bb.length + 1) (bv (bb ++ [77])), .grp (dskO db mb ab R.1 es2), .grp (rdkO xb rv2 (R.1).off (actsI (R.1).ar) part L2), .row (.slice (some ⟨b25, 0, none⟩) 1 1) 22 1 1 [.slice (some ⟨b3, 0, none⟩) bb.length (bb.length + 1)]] := hH
    replace hH := hH.pick [1, 0, 2, 3, 4] (by kernel_rfl) (os' := [.row (.slice (some ⟨b3, 0, none⟩) (bb.length + 1) (bb.length + 1)) 5 1 (bb.length + 1) (bv (bb ++ [77])), .blk b1 77 [.int .i64 1, .string (bs nm), .slice Ab bb.length cb, .int .i64 n, .int .i64 m, .slice Ak ks.length ck], .grp (dskO db mb ab R.1 es2), .grp (rdkO xb rv2 (R.1).off (actsI (R.1).ar) part L2), .row (.slice (some ⟨b25, 0, none⟩) 1 1) 22 1 1 [.slice (some ⟨b3, 0, none⟩) bb.length (bb.length + 1)]]) (by kernel_rfl)
    replace hH : Hp _ _ _ _ (anyO 5 (.slice (some ⟨b3, 0, none⟩) bb.length (bb.length + 1)) :: _) := row_any' (by omega) hH
    replace hH := rows1 hH
    replace hH : Hp w w26 _ _ [.grp ([Value.slice (some ⟨b3, 0, none⟩) bb.length (bb.length + 1)].map (anyO 5)), .blk b1 77 [.int .i64 1, .string (bs nm), .slice Ab bb.length cb, .int .i64 n, .int .i64 m, .slice Ak ks.length ck], .grp (dskO db mb ab R.1 es2), .grp (rdkO xb rv2 (R.1).off (actsI (R.1).ar) part L2), .row (.slice (some ⟨b25, 0, none⟩) 1 1) 22 1 1 [.slice (some ⟨b3, 0, none⟩) bb.length (bb.length + 1)]] := hH
    replace hH : Hp w w26 _ _ ([.grp ([Value.slice (some ⟨b3, 0, none⟩) bb.length (bb.length + 1)].map (anyO 5))] ++ [.blk b1 77 [.int .i64 1, .string (bs nm), .slice Ab bb.length cb, .int .i64 n, .int .i64 m, .slice Ak ks.length ck], .grp (dskO db mb ab R.1 es2), .grp (rdkO xb rv2 (R.1).off (actsI (R.1).ar) part L2), .row (.slice (some ⟨b25, 0, none⟩) 1 1) 22 1 1 [.slice (some ⟨b3, 0, none⟩) bb.length (bb.length + 1)]]) := hH
    refine gl_st (st_call rfl rfl rfl (by kernel_rfl) rfl (Owned_ct _ [Value.slice (some ⟨b3, 0, none⟩) bb.length (bb.length + 1)] _ hH.mine (zoff_row (mine := [.grp ([Value.slice (some ⟨b3, 0, none⟩) bb.length (bb.length + 1)].map (anyO 5))]) hH 3 rfl) (by simp)) ?_)
    rintro _ w27 ⟨rfl, hF28⟩
    replace hH := hH.turns hF28; clear hF28
    replace hH : Hp w w27 _ _ [.blk b1 77 [.int .i64 1, .string (bs nm), .slice Ab bb.length cb, .int .i64 n, .int .i64 m, .slice Ak ks.length ck], .grp (dskO db mb ab R.1 es2), .grp (rdkO xb rv2 (R.1).off (actsI (R.1).ar) part L2), .row (.slice (some ⟨b25, 0, none⟩) 1 1) 22 1 1 [.slice (some ⟨b3, 0, none⟩) bb.length (bb.length + 1)]] := hH
    refine gl_ops 1 [(8, errV R.2), (9, .int .i64 ((R.2 : Nat) : Int)), (17, .bool true), (18, .bool true)] (by kernel_rfl) ?_
    refine gl_done rfl ?_
    refine sw_next ?_
    refine sw_seq ?_
    refine sw_region ?_  -- R35 law.go:76
    refine gl_ops 6 [(9, .int .i64 ((R.2 : Nat) : Int)), (161, .bool true), (162, errV R.2)] (by kernel_rfl) ?_
    refine gl_st (st_call rfl rfl rfl (by kernel_rfl) rfl (Code_ct R.2 _ (hH.zin _ _ hG)) ?_)
    rintro _ w29 ⟨rfl, hF30⟩
    replace hH := hH.call hF30; clear hF30
    refine gl_ops 2 [(161, .bool true), (165, .bool (((R.2 : Nat) : Int) == ((R.2 : Nat) : Int)))] (by kernel_rfl) ?_
    refine gl_cv 165 (.bool true) (by rw [beq_self_eq_true]) rfl ?_
    refine gl_ops 2 [(6, .bool true)] (by kernel_rfl) ?_
    refine gl_done rfl ?_
    refine sw_next ?_
    refine sw_ret ?_
    refine ret1 rfl rfl  ?_
    replace hH : Hp w w29 _ _ [.blk b1 77 [.int .i64 1, .string (bs nm), .slice Ab bb.length cb, .int .i64 n, .int .i64 m, .slice Ak ks.length ck], .grp (dskO db mb ab R.1 es2), .grp (rdkO xb rv2 (R.1).off (actsI (R.1).ar) part L2), .row (.slice (some ⟨b25, 0, none⟩) 1 1) 22 1 1 [.slice (some ⟨b3, 0, none⟩) bb.length (bb.length + 1)]] := hH
    replace hH := hH.pick [1, 2, 0, 3] (by kernel_rfl) (os' := [.grp (dskO db mb ab R.1 es2), .grp (rdkO xb rv2 (R.1).off (actsI (R.1).ar) part L2), .blk b1 77 [.int .i64 1, .string (bs nm), .slice Ab bb.length cb, .int .i64 n, .int .i64 m, .slice Ak ks.length ck], .row (.slice (some ⟨b25, 0, none⟩) 1 1) 22 1 1 [.slice (some ⟨b3, 0, none⟩) bb.length (bb.length + 1)]]) (by kernel_rfl)
    replace hH := (hH.sublist (.cons_cons _ (.cons_cons _ (List.nil_sublist _))))
    replace hH : Hp w w29 _ _ [.grp (dskO db mb ab R.1 es2), .grp (rdkO xb rv2 (R.1).off (actsI (R.1).ar) part L2)] := hH
    have hact : actD D 1 nm bb n m ks = R.1 := by unfold actD; rw [if_pos (by decide)]; exact congrArg Prod.fst hr
    exact ⟨ab, es2, rv2, part, L2, rfl, by rw [hact]; exact inv_do hI hr hR2 hL2, by rw [hact]; exact hH.turned⟩
  try simp only [decide_eq_false_iff_not, beq_eq_false_iff_ne, bne_eq_false_iff_eq, ne_eq, Decidable.not_not, Int.not_lt, Int.not_le, Bool.not_eq_false', beq_iff_eq, bne_iff_ne, decide_eq_true_eq] at hc3
  have hd1 := hc3
  refine sw_seq ?_
  refine sw_region ?_  -- R13 law.go:47
  refine gl_ops 2 [(0, .pointer (some ⟨db, 0, none⟩)), (1, .pointer (some ⟨xb, 0, none⟩)), (5, .pointer (some ⟨b1, 0, none⟩)), (7, .slice (some ⟨b3, 0, none⟩) bb.length (bb.length + 1)), (8, .nilIface), (9, .int .i64 0), (23, .int .i64 dv), (68, .bool ((dv : Int) == (2 : Int)))] (by kernel_rfl) ?_
  refine gl_done rfl ?_
  refine sw_next ?_
  refine sw_cond rfl rfl (fun hc5 => ?_) (fun hc5 => ?_)
  ·
    try simp only [decide_eq_true_eq, beq_iff_eq, bne_iff_ne, ne_eq, Bool.not_eq_true', beq_eq_false_iff_ne, bne_eq_false_iff_eq, decide_eq_false_iff_not, Int.not_lt, Int.not_le] at hc5
    subst hc5
    refine sw_region ?_  -- R14 law.go:48
    refine gl_ops 2 [(1, .pointer (some ⟨xb, 0, none⟩)), (5, .pointer (some ⟨b1, 0, none⟩)), (7, .slice (some ⟨b3, 0, none⟩) bb.length (bb.length + 1)), (9, .int .i64 0), (70, .pointer (some ⟨db, 0, none⟩)), (71, .pointer (some ⟨b1, 1, none⟩))] (by kernel_rfl) ?_
    refine gl_q rfl rfl rfl (rd_loadK 2 (by kernel_rfl) hH rfl rfl rfl) ?_
    obtain ⟨R, hr⟩ : ∃ R, doD D 2 nm bb n = R := ⟨_, rfl⟩
    refine gl_ops 1 [(1, .pointer (some ⟨xb, 0, none⟩)), (5, .pointer (some ⟨b1, 0, none⟩)), (7, .slice (some ⟨b3, 0, none⟩) bb.length (bb.length + 1)), (9, .int .i64 0), (70, .pointer (some ⟨db, 0, none⟩)), (72, .string (bs nm)), (73, .slice (some ⟨b3, 0, none⟩) bb.length (bb.length + 1))] (by kernel_rfl) ?_
    replace hH : Hp w w5 _ _ ([.grp (dskO db mb ab D es)] ++ [.grp (rdkO xb rv D.off (actsI D.ar) part L), .blk b1 77 [.int .i64 2, .string (bs nm), .slice Ab bb.length cb, .int .i64 n, .int .i64 m, .slice Ak ks.length ck], .row (.slice (some ⟨b3, 0, none⟩) (bb.length + 1) (bb.length + 1)) 5 1 (bb.length + 1) (bv (bb ++ [77]))]) := hH
    refine gl_st (st_call rfl rfl rfl (by kernel_rfl) rfl (by have h9 := Put_ct db mb ab D es nm _ bb M _ hH.mine hI.rep hI.ar hI.good (by omega) hs (lent_row (zoff_row (mine := [.grp (dskO db mb ab D es)]) hH 2 rfl)) (by omega); rw [doD_irr2 D nm bb n, hr] at h9; exact h9) ?_)
    rintro _ w31 ⟨es2, rfl, hR2, hF32⟩
    replace hH := hH.turns hF32; clear hF32
    replace hH : Hp w w31 _ _ [.grp (rdkO xb rv D.off (actsI D.ar) part L), .blk b1 77 [.int .i64 2, .string (bs nm), .slice Ab bb.length cb, .int .i64 n, .int .i64 m, .slice Ak ks.length ck], .row (.slice (some ⟨b3, 0, none⟩) (bb.length + 1) (bb.length + 1)) 5 1 (bb.length + 1) (bv (bb ++ [77])), .grp (dskO db mb ab R.1 es2)] := hH
    refine gl_ops 1 [(1, .pointer (some ⟨xb, 0, none⟩)), (5, .pointer (some ⟨b1, 0, none⟩)), (7, .slice (some ⟨b3, 0, none⟩) bb.length (bb.length + 1)), (8, errV R.2), (9, .int .i64 0)] (by kernel_rfl) ?_
    refine gl_done rfl ?_
    refine bkN ?_
    refine sw_next ?_
    refine sw_seq ?_
    refine sw_seq ?_
    refine sw_region ?_  -- R31 law.go:71
    refine gl_ops 1 [(1, .pointer (some ⟨xb, 0, none⟩)), (5, .pointer (some ⟨b1, 0, none⟩)), (7, .slice (some ⟨b3, 0, none⟩) bb.length (bb.length + 1)), (8, errV R.2), (9, .int .i64 0), (132, .pointer (some ⟨b1, 0, none⟩))] (by kernel_rfl) ?_
    refine gl_q rfl rfl rfl (rd_loadK 1 (by kernel_rfl) hH rfl rfl rfl) ?_
    refine gl_ops 3 [(1, .pointer (some ⟨xb, 0, none⟩)), (5, .pointer (some ⟨b1, 0, none⟩)), (7, .slice (some ⟨b3, 0, none⟩) bb.length (bb.length + 1)), (8, errV R.2), (9, .int .i64 0), (135, .bool true), (136, .pointer (some ⟨b1, 0, none⟩))] (by kernel_rfl) ?_
    refine gl_q rfl rfl rfl (rd_loadK 1 (by kernel_rfl) hH rfl rfl rfl) ?_
    refine gl_ops 2 [(1, .pointer (some ⟨xb, 0, none⟩)), (5, .pointer (some ⟨b1, 0, none⟩)), (7, .slice (some ⟨b3, 0, none⟩) bb.length (bb.length + 1)), (8, errV R.2), (9, .int .i64 0), (139, .bool true)] (by kernel_rfl) ?_
    refine gl_done rfl ?_
    refine sw_next ?_
    refine sw_true rfl rfl ?_
    refine sw_region ?_  -- R32 law.go:72
    refine gl_ops 2 [(5, .pointer (some ⟨b1, 0, none⟩)), (7, .slice (some ⟨b3, 0, none⟩) bb.length (bb.length + 1)), (8, errV R.2), (140, .pointer (some ⟨xb, 0, none⟩)), (141, .pointer (some ⟨b1, 0, none⟩))] (by kernel_rfl) ?_
    refine gl_q rfl rfl rfl (rd_loadK 1 (by kernel_rfl) hH rfl rfl rfl) ?_
    refine gl_ops 1 [(5, .pointer (some ⟨b1, 0, none⟩)), (7, .slice (some ⟨b3, 0, none⟩) bb.length (bb.length + 1)), (8, errV R.2), (140, .pointer (some ⟨xb, 0, none⟩)), (142, .int .i64 2), (143, .pointer (some ⟨b1, 1, none⟩))] (by kernel_rfl) ?_
    refine gl_q rfl rfl rfl (rd_loadK 1 (by kernel_rfl) hH rfl rfl rfl) ?_
    refine gl_ops 1 [(5, .pointer (some ⟨b1, 0, none⟩)), (7, .slice (some ⟨b3, 0, none⟩) bb.length (bb.length + 1)), (8, errV R.2), (140, .pointer (some ⟨xb, 0, none⟩)), (142, .int .i64 2), (144, .string (bs nm)), (145, .pointer (some ⟨b1, 2, none⟩))] (by kernel_rfl) ?_
    refine gl_q rfl rfl rfl (rd_loadK 1 (by kernel_rfl) hH rfl rfl rfl) ?_
    refine gl_ops 1 [(5, .pointer (some ⟨b1, 0, none⟩)), (7, .slice (some ⟨b3, 0, none⟩) bb.length (bb.length + 1)), (8, errV R.2), (140, .pointer (some ⟨xb, 0, none⟩)), (142, .int .i64 2), (144, .string (bs nm)), (146, .slice Ab bb.length cb), (147, .pointer (some ⟨b1, 3, none⟩))] (by kernel_rfl) ?_
    refine gl_q rfl rfl rfl (rd_loadK 1 (by kernel_rfl) hH rfl rfl rfl) ?_
    replace hH : Hp w w31 _ _ ([.grp (rdkO xb rv D.off (actsI D.ar) part L)] ++ [.blk b1 77 [.int .i64 2, .string (bs nm), .slice Ab bb.length cb, .int .i64 n, .int .i64 m, .slice Ak ks.length ck], .row (.slice (some ⟨b3, 0, none⟩) (bb.length + 1) (bb.length + 1)) 5 1 (bb.length + 1) (bv (bb ++ [77])), .grp (dskO db mb ab R.1 es2)]) := hH
    refine gl_st (st_call rfl rfl rfl (by kernel_rfl) rfl (by have h9 := RDo2_ct xb _ D part L nm _ bb n M _ hH.mine hI.fst hI.ar hI.part hI.good (by omega) (by have := hI.llen; omega) hs (hbz.mono hH.zoff) (by omega); rw [hr] at h9; exact h9) ?_)
    rintro _ w33 ⟨rv2, L2, rfl, hL2, hF34⟩
    replace hH := hH.turns hF34; clear hF34
    replace hH : Hp w w33 _ _ [.blk b1 77 [.int .i64 2, .string (bs nm), .slice Ab bb.length cb, .int .i64 n, .int .i64 m, .slice Ak ks.length ck], .row (.slice (some ⟨b3, 0, none⟩) (bb.length + 1) (bb.length + 1)) 5 1 (bb.length + 1) (bv (bb ++ [77])), .grp (dskO db mb ab R.1 es2), .grp (rdkO xb rv2 (R.1).off (actsI (R.1).ar) part L2)] := hH
    refine gl_ops 1 [(5, .pointer (some ⟨b1, 0, none⟩)), (7, .slice (some ⟨b3, 0, none⟩) bb.length (bb.length + 1)), (8, errV R.2), (9, .int .i64 ((R.2 : Nat) : Int))] (by kernel_rfl) ?_
    refine gl_done rfl ?_
    refine sw_next ?_
    refine sw_seq ?_
    refine sw_region ?_  -- R33 law.go:74
    refine gl_ops 2 [(7, .slice (some ⟨b3, 0, none⟩) bb.length (bb.length + 1)), (8, errV R.2), (9, .int .i64 ((R.2 : Nat) : Int)), (150, .slice (some ⟨b3, 0, none⟩) bb.length (bb.length + 1)), (151, .pointer (some ⟨b1, 2, none⟩))] (by kernel_rfl) ?_
    refine gl_q rfl rfl rfl (rd_loadK 0 (by kernel_rfl) hH rfl rfl rfl) ?_
    refine gl_st (st_call rfl rfl rfl (by kernel_rfl) rfl (Kept_ct _ bb _ _ (hH.row_reads 1 rfl) (hbz.mono hH.zin) (by omega)) ?_)
    rintro _ w35 ⟨rfl, hF36⟩
    replace hH := hH.call hF36; clear hF36
    refine gl_ops 1 [(7, .slice (some ⟨b3, 0, none⟩) bb.length (bb.length + 1)), (8, errV R.2), (9, .int .i64 ((R.2 : Nat) : Int)), (17, .bool true)] (by kernel_rfl) ?_
    refine gl_done rfl ?_
    refine sw_next ?_
    refine sw_seq ?_
    refine sw_region ?_  -- R34 law.go:75
    refine gl_ops 1 [(8, errV R.2), (9, .int .i64 ((R.2 : Nat) : Int)), (17, .bool true), (154, .slice (some ⟨b3, 0, none⟩) bb.length (bb.length + 1))] (by kernel_rfl) ?_
    refine gl_st (st_buildS (e := 22) (zv := .slice none 0 0) (m := 1) (bytes := 24) rfl rfl rfl (by kernel_rfl) (by kernel_rfl) rfl (cs := [.slice (some ⟨b3, 0, none⟩) bb.length (bb.length + 1)]) (by kernel_rfl) rfl hH ?_)
    clear hH; intro b37 w38 hH
    replace hH : Hp w w38 _ _ [.blk b1 77 [.int .i64 2, .string (bs nm), .slice Ab bb.length cb, .int .i64 n, .int .i64 m, .slice Ak ks.length ck], .row (.slice (some ⟨b3, 0, none⟩) (bb.length + 1) (bb.length + 1)) 5 1 (bb.length + 1) (bv (bb ++ [77])), .grp (dskO db mb ab R.1 es2), .grp (rdkO xb rv2 (R.1).off (actsI (R.1).ar) part L2), .row (.slice (some ⟨b37, 0, none⟩) 1 1) 22 1 1 [.slice (some ⟨b3, 0, none⟩) bb.length (bb.length + 1)]] := hH
    replace hH := hH.pick [1, 0, 2, 3, 4] (by kernel_rfl) (os' := [.row (.slice (some ⟨b3, 0, none⟩) (bb.length + 1) (bb.length + 1)) 5 1 (bb.length + 1) (bv (bb ++ [77])), .blk b1 77 [.int .i64 2, .string (bs nm), .slice Ab bb.length cb, .int .i64 n, .int .i64 m, .slice Ak ks.length ck], .grp (dskO db mb ab R.1 es2), .grp (rdkO xb rv2 (R.1).off (actsI (R.1).ar) part L2), .row (.slice (some ⟨b37, 0, none⟩) 1 1) 22 1 1 [.slice (some ⟨b3, 0, none⟩) bb.length (bb.length + 1)]]) (by kernel_rfl)
    replace hH : Hp _ _ _ _ (anyO 5 (.slice (some ⟨b3, 0, none⟩) bb.length (bb.length + 1)) :: _) := row_any' (by omega) hH
    replace hH := rows1 hH
    replace hH : Hp w w38 _ _ [.grp ([Value.slice (some ⟨b3, 0, none⟩) bb.length (bb.length + 1)].map (anyO 5)), .blk b1 77 [.int .i64 2, .string (bs nm), .slice Ab bb.length cb, .int .i64 n, .int .i64 m, .slice Ak ks.length ck], .grp (dskO db mb ab R.1 es2), .grp (rdkO xb rv2 (R.1).off (actsI (R.1).ar) part L2), .row (.slice (some ⟨b37, 0, none⟩) 1 1) 22 1 1 [.slice (some ⟨b3, 0, none⟩) bb.length (bb.length + 1)]] := hH
    replace hH : Hp w w38 _ _ ([.grp ([Value.slice (some ⟨b3, 0, none⟩) bb.length (bb.length + 1)].map (anyO 5))] ++ [.blk b1 77 [.int .i64 2, .string (bs nm), .slice Ab bb.length cb, .int .i64 n, .int .i64 m, .slice Ak ks.length ck], .grp (dskO db mb ab R.1 es2), .grp (rdkO xb rv2 (R.1).off (actsI (R.1).ar) part L2), .row (.slice (some ⟨b37, 0, none⟩) 1 1) 22 1 1 [.slice (some ⟨b3, 0, none⟩) bb.length (bb.length + 1)]]) := hH
    refine gl_st (st_call rfl rfl rfl (by kernel_rfl) rfl (Owned_ct _ [Value.slice (some ⟨b3, 0, none⟩) bb.length (bb.length + 1)] _ hH.mine (zoff_row (mine := [.grp ([Value.slice (some ⟨b3, 0, none⟩) bb.length (bb.length + 1)].map (anyO 5))]) hH 3 rfl) (by simp)) ?_)
    rintro _ w39 ⟨rfl, hF40⟩
    replace hH := hH.turns hF40; clear hF40
    replace hH : Hp w w39 _ _ [.blk b1 77 [.int .i64 2, .string (bs nm), .slice Ab bb.length cb, .int .i64 n, .int .i64 m, .slice Ak ks.length ck], .grp (dskO db mb ab R.1 es2), .grp (rdkO xb rv2 (R.1).off (actsI (R.1).ar) part L2), .row (.slice (some ⟨b37, 0, none⟩) 1 1) 22 1 1 [.slice (some ⟨b3, 0, none⟩) bb.length (bb.length + 1)]] := hH
    refine gl_ops 1 [(8, errV R.2), (9, .int .i64 ((R.2 : Nat) : Int)), (17, .bool true), (18, .bool true)] (by kernel_rfl) ?_
    refine gl_done rfl ?_
    refine sw_next ?_
    refine sw_seq ?_
    refine sw_region ?_  -- R35 law.go:76
    refine gl_ops 6 [(9, .int .i64 ((R.2 : Nat) : Int)), (161, .bool true), (162, errV R.2)] (by kernel_rfl) ?_
    refine gl_st (st_call rfl rfl rfl (by kernel_rfl) rfl (Code_ct R.2 _ (hH.zin _ _ hG)) ?_)
    rintro _ w41 ⟨rfl, hF42⟩
    replace hH := hH.call hF42; clear hF42
    refine gl_ops 2 [(161, .bool true), (165, .bool (((R.2 : Nat) : Int) == ((R.2 : Nat) : Int)))] (by kernel_rfl) ?_
    refine gl_cv 165 (.bool true) (by rw [beq_self_eq_true]) rfl ?_
    refine gl_ops 2 [(6, .bool true)] (by kernel_rfl) ?_
    refine gl_done rfl ?_
    refine sw_next ?_
    refine sw_ret ?_
    refine ret1 rfl rfl  ?_
    replace hH : Hp w w41 _ _ [.blk b1 77 [.int .i64 2, .string (bs nm), .slice Ab bb.length cb, .int .i64 n, .int .i64 m, .slice Ak ks.length ck], .grp (dskO db mb ab R.1 es2), .grp (rdkO xb rv2 (R.1).off (actsI (R.1).ar) part L2), .row (.slice (some ⟨b37, 0, none⟩) 1 1) 22 1 1 [.slice (some ⟨b3, 0, none⟩) bb.length (bb.length + 1)]] := hH
    replace hH := hH.pick [1, 2, 0, 3] (by kernel_rfl) (os' := [.grp (dskO db mb ab R.1 es2), .grp (rdkO xb rv2 (R.1).off (actsI (R.1).ar) part L2), .blk b1 77 [.int .i64 2, .string (bs nm), .slice Ab bb.length cb, .int .i64 n, .int .i64 m, .slice Ak ks.length ck], .row (.slice (some ⟨b37, 0, none⟩) 1 1) 22 1 1 [.slice (some ⟨b3, 0, none⟩) bb.length (bb.length + 1)]]) (by kernel_rfl)
    replace hH := (hH.sublist (.cons_cons _ (.cons_cons _ (List.nil_sublist _))))
    replace hH : Hp w w41 _ _ [.grp (dskO db mb ab R.1 es2), .grp (rdkO xb rv2 (R.1).off (actsI (R.1).ar) part L2)] := hH
    have hact : actD D 2 nm bb n m ks = R.1 := by unfold actD; rw [if_pos (by decide)]; exact congrArg Prod.fst hr
    exact ⟨ab, es2, rv2, part, L2, rfl, by rw [hact]; exact inv_do hI hr hR2 hL2, by rw [hact]; exact hH.turned⟩
  try simp only [decide_eq_false_iff_not, beq_eq_false_iff_ne, bne_eq_false_iff_eq, ne_eq, Decidable.not_not, Int.not_lt, Int.not_le, Bool.not_eq_false', beq_iff_eq, bne_iff_ne, decide_eq_true_eq] at hc5
  have hd2 := hc5
  refine sw_seq ?_
  refine sw_region ?_  -- R15 law.go:49
  refine gl_ops 2 [(0, .pointer (some ⟨db, 0, none⟩)), (1, .pointer (some ⟨xb, 0, none⟩)), (5, .pointer (some ⟨b1, 0, none⟩)), (7, .slice (some ⟨b3, 0, none⟩) bb.length (bb.length + 1)), (8, .nilIface), (9, .int .i64 0), (23, .int .i64 dv), (75, .bool ((dv : Int) == (3 : Int)))] (by kernel_rfl) ?_
  refine gl_done rfl ?_
  refine sw_next ?_
  refine sw_cond rfl rfl (fun hc7 => ?_) (fun hc7 => ?_)
  ·
    try simp only [decide_eq_true_eq, beq_iff_eq, bne_iff_ne, ne_eq, Bool.not_eq_true', beq_eq_false_iff_ne, bne_eq_false_iff_eq, decide_eq_false_iff_not, Int.not_lt, Int.not_le] at hc7
    subst hc7
    refine sw_region ?_  -- R16 law.go:50
    refine gl_ops 2 [(1, .pointer (some ⟨xb, 0, none⟩)), (5, .pointer (some ⟨b1, 0, none⟩)), (7, .slice (some ⟨b3, 0, none⟩) bb.length (bb.length + 1)), (9, .int .i64 0), (77, .pointer (some ⟨db, 0, none⟩)), (78, .pointer (some ⟨b1, 1, none⟩))] (by kernel_rfl) ?_
    refine gl_q rfl rfl rfl (rd_loadK 2 (by kernel_rfl) hH rfl rfl rfl) ?_
    refine gl_ops 1 [(1, .pointer (some ⟨xb, 0, none⟩)), (5, .pointer (some ⟨b1, 0, none⟩)), (7, .slice (some ⟨b3, 0, none⟩) bb.length (bb.length + 1)), (9, .int .i64 0), (77, .pointer (some ⟨db, 0, none⟩)), (79, .string (bs nm)), (80, .pointer (some ⟨b1, 3, none⟩))] (by kernel_rfl) ?_
    refine gl_q rfl rfl rfl (rd_loadK 2 (by kernel_rfl) hH rfl rfl rfl) ?_
    obtain ⟨R, hr⟩ : ∃ R, doD D 3 nm bb n = R := ⟨_, rfl⟩
    replace hH : Hp w w5 _ _ ([.grp (dskO db mb ab D es)] ++ [.grp (rdkO xb rv D.off (actsI D.ar) part L), .blk b1 77 [.int .i64 3, .string (bs nm), .slice Ab bb.length cb, .int .i64 n, .int .i64 m, .slice Ak ks.length ck], .row (.slice (some ⟨b3, 0, none⟩) (bb.length + 1) (bb.length + 1)) 5 1 (bb.length + 1) (bv (bb ++ [77]))]) := hH
    refine gl_st (st_call rfl rfl rfl (by kernel_rfl) rfl (by have h9 := CutAct_ct db mb ab D es nm n M _ hH.mine hI.rep hI.ar hI.good (by omega) hs; rw [doD_irr3 D nm bb n, hr] at h9; exact h9) ?_)
    rintro _ w43 ⟨es2, rfl, hR2, hF44⟩
    replace hH := hH.turns hF44; clear hF44
    replace hH : Hp w w43 _ _ [.grp (rdkO xb rv D.off (actsI D.ar) part L), .blk b1 77 [.int .i64 3, .string (bs nm), .slice Ab bb.length cb, .int .i64 n, .int .i64 m, .slice Ak ks.length ck], .row (.slice (some ⟨b3, 0, none⟩) (bb.length + 1) (bb.length + 1)) 5 1 (bb.length + 1) (bv (bb ++ [77])), .grp (dskO db mb ab R.1 es2)] := hH
    refine gl_ops 1 [(1, .pointer (some ⟨xb, 0, none⟩)), (5, .pointer (some ⟨b1, 0, none⟩)), (7, .slice (some ⟨b3, 0, none⟩) bb.length (bb.length + 1)), (8, errV R.2), (9, .int .i64 0)] (by kernel_rfl) ?_
    refine gl_done rfl ?_
    refine bkN ?_
    refine sw_next ?_
    refine sw_seq ?_
    refine sw_seq ?_
    refine sw_region ?_  -- R31 law.go:71
    refine gl_ops 1 [(1, .pointer (some ⟨xb, 0, none⟩)), (5, .pointer (some ⟨b1, 0, none⟩)), (7, .slice (some ⟨b3, 0, none⟩) bb.length (bb.length + 1)), (8, errV R.2), (9, .int .i64 0), (132, .pointer (some ⟨b1, 0, none⟩))] (by kernel_rfl) ?_
    refine gl_q rfl rfl rfl (rd_loadK 1 (by kernel_rfl) hH rfl rfl rfl) ?_
    refine gl_ops 3 [(1, .pointer (some ⟨xb, 0, none⟩)), (5, .pointer (some ⟨b1, 0, none⟩)), (7, .slice (some ⟨b3, 0, none⟩) bb.length (bb.length + 1)), (8, errV R.2), (9, .int .i64 0), (135, .bool true), (136, .pointer (some ⟨b1, 0, none⟩))] (by kernel_rfl) ?_
    refine gl_q rfl rfl rfl (rd_loadK 1 (by kernel_rfl) hH rfl rfl rfl) ?_
    refine gl_ops 2 [(1, .pointer (some ⟨xb, 0, none⟩)), (5, .pointer (some ⟨b1, 0, none⟩)), (7, .slice (some ⟨b3, 0, none⟩) bb.length (bb.length + 1)), (8, errV R.2), (9, .int .i64 0), (139, .bool true)] (by kernel_rfl) ?_
    refine gl_done rfl ?_
    refine sw_next ?_
    refine sw_true rfl rfl ?_
    refine sw_region ?_  -- R32 law.go:72
    refine gl_ops 2 [(5, .pointer (some ⟨b1, 0, none⟩)), (7, .slice (some ⟨b3, 0, none⟩) bb.length (bb.length + 1)), (8, errV R.2), (140, .pointer (some ⟨xb, 0, none⟩)), (141, .pointer (some ⟨b1, 0, none⟩))] (by kernel_rfl) ?_
    refine gl_q rfl rfl rfl (rd_loadK 1 (by kernel_rfl) hH rfl rfl rfl) ?_
    refine gl_ops 1 [(5, .pointer (some ⟨b1, 0, none⟩)), (7, .slice (some ⟨b3, 0, none⟩) bb.length (bb.length + 1)), (8, errV R.2), (140, .pointer (some ⟨xb, 0, none⟩)), (142, .int .i64 3), (143, .pointer (some ⟨b1, 1, none⟩))] (by kernel_rfl) ?_
    refine gl_q rfl rfl rfl (rd_loadK 1 (by kernel_rfl) hH rfl rfl rfl) ?_
    refine gl_ops 1 [(5, .pointer (some ⟨b1, 0, none⟩)), (7, .slice (some ⟨b3, 0, none⟩) bb.length (bb.length + 1)), (8, errV R.2), (140, .pointer (some ⟨xb, 0, none⟩)), (142, .int .i64 3), (144, .string (bs nm)), (145, .pointer (some ⟨b1, 2, none⟩))] (by kernel_rfl) ?_
    refine gl_q rfl rfl rfl (rd_loadK 1 (by kernel_rfl) hH rfl rfl rfl) ?_
    refine gl_ops 1 [(5, .pointer (some ⟨b1, 0, none⟩)), (7, .slice (some ⟨b3, 0, none⟩) bb.length (bb.length + 1)), (8, errV R.2), (140, .pointer (some ⟨xb, 0, none⟩)), (142, .int .i64 3), (144, .string (bs nm)), (146, .slice Ab bb.length cb), (147, .pointer (some ⟨b1, 3, none⟩))] (by kernel_rfl) ?_
    refine gl_q rfl rfl rfl (rd_loadK 1 (by kernel_rfl) hH rfl rfl rfl) ?_
    replace hH : Hp w w43 _ _ ([.grp (rdkO xb rv D.off (actsI D.ar) part L)] ++ [.blk b1 77 [.int .i64 3, .string (bs nm), .slice Ab bb.length cb, .int .i64 n, .int .i64 m, .slice Ak ks.length ck], .row (.slice (some ⟨b3, 0, none⟩) (bb.length + 1) (bb.length + 1)) 5 1 (bb.length + 1) (bv (bb ++ [77])), .grp (dskO db mb ab R.1 es2)]) := hH
    refine gl_st (st_call rfl rfl rfl (by kernel_rfl) rfl (by have h9 := RDo3_ct xb _ D part L nm _ bb n M _ hH.mine hI.fst hI.ar hI.part hI.good (by omega) (by have := hI.llen; omega) hs (hbz.mono hH.zoff) (by omega); rw [hr] at h9; exact h9) ?_)
    rintro _ w45 ⟨rv2, L2, rfl, hL2, hF46⟩
    replace hH := hH.turns hF46; clear hF46
    replace hH : Hp w w45 _ _ [.blk b1 77 [.int .i64 3, .string (bs nm), .slice Ab bb.length cb, .int .i64 n, .int .i64 m, .slice Ak ks.length ck], .row (.slice (some ⟨b3, 0, none⟩) (bb.length + 1) (bb.length + 1)) 5 1 (bb.length + 1) (bv (bb ++ [77])), .grp (dskO db mb ab R.1 es2), .grp (rdkO xb rv2 (R.1).off (actsI (R.1).ar) part L2)] := hH
    refine gl_ops 1 [(5, .pointer (some ⟨b1, 0, none⟩)), (7, .slice (some ⟨b3, 0, none⟩) bb.length (bb.length + 1)), (8, errV R.2), (9, .int .i64 ((R.2 : Nat) : Int))] (by kernel_rfl) ?_
    refine gl_done rfl ?_
    refine sw_next ?_
    refine sw_seq ?_
    refine sw_region ?_  -- R33 law.go:74
    refine gl_ops 2 [(7, .slice (some ⟨b3, 0, none⟩) bb.length (bb.length + 1)), (8, errV R.2), (9, .int .i64 ((R.2 : Nat) : Int)), (150, .slice (some ⟨b3, 0, none⟩) bb.length (bb.length + 1)), (151, .pointer (some ⟨b1, 2, none⟩))] (by kernel_rfl) ?_
    refine gl_q rfl rfl rfl (rd_loadK 0 (by kernel_rfl) hH rfl rfl rfl) ?_
    refine gl_st (st_call rfl rfl rfl (by kernel_rfl) rfl (Kept_ct _ bb _ _ (hH.row_reads 1 rfl) (hbz.mono hH.zin) (by omega)) ?_)
    rintro _ w47 ⟨rfl, hF48⟩
    replace hH := hH.call hF48; clear hF48
    refine gl_ops 1 [(7, .slice (some ⟨b3, 0, none⟩) bb.length (bb.length + 1)), (8, errV R.2), (9, .int .i64 ((R.2 : Nat) : Int)), (17, .bool true)] (by kernel_rfl) ?_
    refine gl_done rfl ?_
    refine sw_next ?_
    refine sw_seq ?_
    refine sw_region ?_  -- R34 law.go:75
    refine gl_ops 1 [(8, errV R.2), (9, .int .i64 ((R.2 : Nat) : Int)), (17, .bool true), (154, .slice (some ⟨b3, 0, none⟩) bb.length (bb.length + 1))] (by kernel_rfl) ?_
    refine gl_st (st_buildS (e := 22) (zv := .slice none 0 0) (m := 1) (bytes := 24) rfl rfl rfl (by kernel_rfl) (by kernel_rfl) rfl (cs := [.slice (some ⟨b3, 0, none⟩) bb.length (bb.length + 1)]) (by kernel_rfl) rfl hH ?_)
    clear hH; intro b49 w50 hH
    replace hH : Hp w w50 _ _ [.blk b1 77 [.int .i64 3, .string (bs nm), .slice Ab bb.length cb, .int .i64 n, .int .i64 m, .slice Ak ks.length ck], .row (.slice (some ⟨b3, 0, none⟩) (bb.length + 1) (bb.length + 1)) 5 1 (bb.length + 1) (bv (bb ++ [77])), .grp (dskO db mb ab R.1 es2), .grp (rdkO xb rv2 (R.1).off (actsI (R.1).ar) part L2), .row (.slice (some ⟨b49, 0, none⟩) 1 1) 22 1 1 [.slice (some ⟨b3, 0, none⟩) bb.length (bb.length + 1)]] := hH
    replace hH := hH.pick [1, 0, 2, 3, 4] (by kernel_rfl) (os' := [.row (.slice (some ⟨b3, 0, none⟩) (bb.length + 1) (bb.length + 1)) 5 1 (bb.length + 1) (bv (bb ++ [77])), .blk b1 77 [.int .i64 3, .string (bs nm), .slice Ab bb.length cb, .int .i64 n, .int .i64 m, .slice Ak ks.length ck], .grp (dskO db mb ab R.1 es2), .grp (rdkO xb rv2 (R.1).off (actsI (R.1).ar) part L2), .row (.slice (some ⟨b49, 0, none⟩) 1 1) 22 1 1 [.slice (some ⟨b3, 0, none⟩) bb.length (bb.length + 1)]]) (by kernel_rfl)
    replace hH : Hp _ _ _ _ (anyO 5 (.slice (some ⟨b3, 0, none⟩) bb.length (bb.length + 1)) :: _) := row_any' (by omega) hH
    replace hH := rows1 hH
    replace hH : Hp w w50 _ _ [.grp ([Value.slice (some ⟨b3, 0, none⟩) bb.length (bb.length + 1)].map (anyO 5)), .blk b1 77 [.int .i64 3, .string (bs nm), .slice Ab bb.length cb, .int .i64 n, .int .i64 m, .slice Ak ks.length ck], .grp (dskO db mb ab R.1 es2), .grp (rdkO xb rv2 (R.1).off (actsI (R.1).ar) part L2), .row (.slice (some ⟨b49, 0, none⟩) 1 1) 22 1 1 [.slice (some ⟨b3, 0, none⟩) bb.length (bb.length + 1)]] := hH
    replace hH : Hp w w50 _ _ ([.grp ([Value.slice (some ⟨b3, 0, none⟩) bb.length (bb.length + 1)].map (anyO 5))] ++ [.blk b1 77 [.int .i64 3, .string (bs nm), .slice Ab bb.length cb, .int .i64 n, .int .i64 m, .slice Ak ks.length ck], .grp (dskO db mb ab R.1 es2), .grp (rdkO xb rv2 (R.1).off (actsI (R.1).ar) part L2), .row (.slice (some ⟨b49, 0, none⟩) 1 1) 22 1 1 [.slice (some ⟨b3, 0, none⟩) bb.length (bb.length + 1)]]) := hH
    refine gl_st (st_call rfl rfl rfl (by kernel_rfl) rfl (Owned_ct _ [Value.slice (some ⟨b3, 0, none⟩) bb.length (bb.length + 1)] _ hH.mine (zoff_row (mine := [.grp ([Value.slice (some ⟨b3, 0, none⟩) bb.length (bb.length + 1)].map (anyO 5))]) hH 3 rfl) (by simp)) ?_)
    rintro _ w51 ⟨rfl, hF52⟩
    replace hH := hH.turns hF52; clear hF52
    replace hH : Hp w w51 _ _ [.blk b1 77 [.int .i64 3, .string (bs nm), .slice Ab bb.length cb, .int .i64 n, .int .i64 m, .slice Ak ks.length ck], .grp (dskO db mb ab R.1 es2), .grp (rdkO xb rv2 (R.1).off (actsI (R.1).ar) part L2), .row (.slice (some ⟨b49, 0, none⟩) 1 1) 22 1 1 [.slice (some ⟨b3, 0, none⟩) bb.length (bb.length + 1)]] := hH
    refine gl_ops 1 [(8, errV R.2), (9, .int .i64 ((R.2 : Nat) : Int)), (17, .bool true), (18, .bool true)] (by kernel_rfl) ?_
    refine gl_done rfl ?_
    refine sw_next ?_
    refine sw_seq ?_
    refine sw_region ?_  -- R35 law.go:76
    refine gl_ops 6 [(9, .int .i64 ((R.2 : Nat) : Int)), (161, .bool true), (162, errV R.2)] (by kernel_rfl) ?_
    refine gl_st (st_call rfl rfl rfl (by kernel_rfl) rfl (Code_ct R.2 _ (hH.zin _ _ hG)) ?_)
    rintro _ w53 ⟨rfl, hF54⟩
    replace hH := hH.call hF54; clear hF54
    refine gl_ops 2 [(161, .bool true), (165, .bool (((R.2 : Nat) : Int) == ((R.2 : Nat) : Int)))] (by kernel_rfl) ?_
    refine gl_cv 165 (.bool true) (by rw [beq_self_eq_true]) rfl ?_
    refine gl_ops 2 [(6, .bool true)] (by kernel_rfl) ?_
    refine gl_done rfl ?_
    refine sw_next ?_
    refine sw_ret ?_
    refine ret1 rfl rfl  ?_
    replace hH : Hp w w53 _ _ [.blk b1 77 [.int .i64 3, .string (bs nm), .slice Ab bb.length cb, .int .i64 n, .int .i64 m, .slice Ak ks.length ck], .grp (dskO db mb ab R.1 es2), .grp (rdkO xb rv2 (R.1).off (actsI (R.1).ar) part L2), .row (.slice (some ⟨b49, 0, none⟩) 1 1) 22 1 1 [.slice (some ⟨b3, 0, none⟩) bb.length (bb.length + 1)]] := hH
    replace hH := hH.pick [1, 2, 0, 3] (by kernel_rfl) (os' := [.grp (dskO db mb ab R.1 es2), .grp (rdkO xb rv2 (R.1).off (actsI (R.1).ar) part L2), .blk b1 77 [.int .i64 3, .string (bs nm), .slice Ab bb.length cb, .int .i64 n, .int .i64 m, .slice Ak ks.length ck], .row (.slice (some ⟨b49, 0, none⟩) 1 1) 22 1 1 [.slice (some ⟨b3, 0, none⟩) bb.length (bb.length + 1)]]) (by kernel_rfl)
    replace hH := (hH.sublist (.cons_cons _ (.cons_cons _ (List.nil_sublist _))))
    replace hH : Hp w w53 _ _ [.grp (dskO db mb ab R.1 es2), .grp (rdkO xb rv2 (R.1).off (actsI (R.1).ar) part L2)] := hH
    have hact : actD D 3 nm bb n m ks = R.1 := by unfold actD; rw [if_pos (by decide)]; exact congrArg Prod.fst hr
    exact ⟨ab, es2, rv2, part, L2, rfl, by rw [hact]; exact inv_do hI hr hR2 hL2, by rw [hact]; exact hH.turned⟩
  try simp only [decide_eq_false_iff_not, beq_eq_false_iff_ne, bne_eq_false_iff_eq, ne_eq, Decidable.not_not, Int.not_lt, Int.not_le, Bool.not_eq_false', beq_iff_eq, bne_iff_ne, decide_eq_true_eq] at hc7
  have hd3 := hc7
  refine sw_seq ?_
  refine sw_region ?_  -- R17 law.go:51
  refine gl_ops 2 [(0, .pointer (some ⟨db, 0, none⟩)), (1, .pointer (some ⟨xb, 0, none⟩)), (5, .pointer (some ⟨b1, 0, none⟩)), (7, .slice (some ⟨b3, 0, none⟩) bb.length (bb.length + 1)), (8, .nilIface), (9, .int .i64 0), (23, .int .i64 dv), (83, .bool ((dv : Int) == (4 : Int)))] (by kernel_rfl) ?_
  refine gl_done rfl ?_
  refine sw_next ?_
  refine sw_cond rfl rfl (fun hc9 => ?_) (fun hc9 => ?_)
  ·
    try simp only [decide_eq_true_eq, beq_iff_eq, bne_iff_ne, ne_eq, Bool.not_eq_true', beq_eq_false_iff_ne, bne_eq_false_iff_eq, decide_eq_false_iff_not, Int.not_lt, Int.not_le] at hc9
    subst hc9
    refine sw_region ?_  -- R18 law.go:52
    refine gl_ops 2 [(1, .pointer (some ⟨xb, 0, none⟩)), (5, .pointer (some ⟨b1, 0, none⟩)), (7, .slice (some ⟨b3, 0, none⟩) bb.length (bb.length + 1)), (9, .int .i64 0), (85, .pointer (some ⟨db, 0, none⟩)), (86, .pointer (some ⟨b1, 1, none⟩))] (by kernel_rfl) ?_
    refine gl_q rfl rfl rfl (rd_loadK 2 (by kernel_rfl) hH rfl rfl rfl) ?_
    obtain ⟨R, hr⟩ : ∃ R, doD D 4 nm bb n = R := ⟨_, rfl⟩
    replace hH : Hp w w5 _ _ ([.grp (dskO db mb ab D es)] ++ [.grp (rdkO xb rv D.off (actsI D.ar) part L), .blk b1 77 [.int .i64 4, .string (bs nm), .slice Ab bb.length cb, .int .i64 n, .int .i64 m, .slice Ak ks.length ck], .row (.slice (some ⟨b3, 0, none⟩) (bb.length + 1) (bb.length + 1)) 5 1 (bb.length + 1) (bv (bb ++ [77]))]) := hH
    refine gl_st (st_call rfl rfl rfl (by kernel_rfl) rfl (by have h9 := Remove_ct db mb ab D es nm M _ hH.mine hI.rep hI.ar hI.good (by omega) hs; rw [doD_irr4 D nm bb n, hr] at h9; exact h9) ?_)
    rintro _ w55 ⟨es2, rfl, hR2, hF56⟩
    replace hH := hH.turns hF56; clear hF56
    replace hH : Hp w w55 _ _ [.grp (rdkO xb rv D.off (actsI D.ar) part L), .blk b1 77 [.int .i64 4, .string (bs nm), .slice Ab bb.length cb, .int .i64 n, .int .i64 m, .slice Ak ks.length ck], .row (.slice (some ⟨b3, 0, none⟩) (bb.length + 1) (bb.length + 1)) 5 1 (bb.length + 1) (bv (bb ++ [77])), .grp (dskO db mb ab R.1 es2)] := hH
    refine gl_ops 1 [(1, .pointer (some ⟨xb, 0, none⟩)), (5, .pointer (some ⟨b1, 0, none⟩)), (7, .slice (some ⟨b3, 0, none⟩) bb.length (bb.length + 1)), (8, errV R.2), (9, .int .i64 0)] (by kernel_rfl) ?_
    refine gl_done rfl ?_
    refine bkN ?_
    refine sw_next ?_
    refine sw_seq ?_
    refine sw_seq ?_
    refine sw_region ?_  -- R31 law.go:71
    refine gl_ops 1 [(1, .pointer (some ⟨xb, 0, none⟩)), (5, .pointer (some ⟨b1, 0, none⟩)), (7, .slice (some ⟨b3, 0, none⟩) bb.length (bb.length + 1)), (8, errV R.2), (9, .int .i64 0), (132, .pointer (some ⟨b1, 0, none⟩))] (by kernel_rfl) ?_
    refine gl_q rfl rfl rfl (rd_loadK 1 (by kernel_rfl) hH rfl rfl rfl) ?_
    refine gl_ops 3 [(1, .pointer (some ⟨xb, 0, none⟩)), (5, .pointer (some ⟨b1, 0, none⟩)), (7, .slice (some ⟨b3, 0, none⟩) bb.length (bb.length + 1)), (8, errV R.2), (9, .int .i64 0), (135, .bool true), (136, .pointer (some ⟨b1, 0, none⟩))] (by kernel_rfl) ?_
    refine gl_q rfl rfl rfl (rd_loadK 1 (by kernel_rfl) hH rfl rfl rfl) ?_
    refine gl_ops 2 [(1, .pointer (some ⟨xb, 0, none⟩)), (5, .pointer (some ⟨b1, 0, none⟩)), (7, .slice (some ⟨b3, 0, none⟩) bb.length (bb.length + 1)), (8, errV R.2), (9, .int .i64 0), (139, .bool true)] (by kernel_rfl) ?_
    refine gl_done rfl ?_
    refine sw_next ?_
    refine sw_true rfl rfl ?_
    refine sw_region ?_  -- R32 law.go:72
    refine gl_ops 2 [(5, .pointer (some ⟨b1, 0, none⟩)), (7, .slice (some ⟨b3, 0, none⟩) bb.length (bb.length + 1)), (8, errV R.2), (140, .pointer (some ⟨xb, 0, none⟩)), (141, .pointer (some ⟨b1, 0, none⟩))] (by kernel_rfl) ?_
    refine gl_q rfl rfl rfl (rd_loadK 1 (by kernel_rfl) hH rfl rfl rfl) ?_
    refine gl_ops 1 [(5, .pointer (some ⟨b1, 0, none⟩)), (7, .slice (some ⟨b3, 0, none⟩) bb.length (bb.length + 1)), (8, errV R.2), (140, .pointer (some ⟨xb, 0, none⟩)), (142, .int .i64 4), (143, .pointer (some ⟨b1, 1, none⟩))] (by kernel_rfl) ?_
    refine gl_q rfl rfl rfl (rd_loadK 1 (by kernel_rfl) hH rfl rfl rfl) ?_
    refine gl_ops 1 [(5, .pointer (some ⟨b1, 0, none⟩)), (7, .slice (some ⟨b3, 0, none⟩) bb.length (bb.length + 1)), (8, errV R.2), (140, .pointer (some ⟨xb, 0, none⟩)), (142, .int .i64 4), (144, .string (bs nm)), (145, .pointer (some ⟨b1, 2, none⟩))] (by kernel_rfl) ?_
    refine gl_q rfl rfl rfl (rd_loadK 1 (by kernel_rfl) hH rfl rfl rfl) ?_
    refine gl_ops 1 [(5, .pointer (some ⟨b1, 0, none⟩)), (7, .slice (some ⟨b3, 0, none⟩) bb.length (bb.length + 1)), (8, errV R.2), (140, .pointer (some ⟨xb, 0, none⟩)), (142, .int .i64 4), (144, .string (bs nm)), (146, .slice Ab bb.length cb), (147, .pointer (some ⟨b1, 3, none⟩))] (by kernel_rfl) ?_
    refine gl_q rfl rfl rfl (rd_loadK 1 (by kernel_rfl) hH rfl rfl rfl) ?_
    replace hH : Hp w w55 _ _ ([.grp (rdkO xb rv D.off (actsI D.ar) part L)] ++ [.blk b1 77 [.int .i64 4, .string (bs nm), .slice Ab bb.length cb, .int .i64 n, .int .i64 m, .slice Ak ks.length ck], .row (.slice (some ⟨b3, 0, none⟩) (bb.length + 1) (bb.length + 1)) 5 1 (bb.length + 1) (bv (bb ++ [77])), .grp (dskO db mb ab R.1 es2)]) := hH
    refine gl_st (st_call rfl rfl rfl (by kernel_rfl) rfl (by have h9 := RDo4_ct xb _ D part L nm _ bb n M _ hH.mine hI.fst hI.ar hI.part hI.good (by omega) (by have := hI.llen; omega) hs (hbz.mono hH.zoff) (by omega); rw [hr] at h9; exact h9) ?_)
    rintro _ w57 ⟨rv2, L2, rfl, hL2, hF58⟩
    replace hH := hH.turns hF58; clear hF58
    replace hH : Hp w w57 _ _ [.blk b1 77 [.int .i64 4, .string (bs nm), .slice Ab bb.length cb, .int .i64 n, .int .i64 m, .slice Ak ks.length ck], .row (.slice (some ⟨b3, 0, none⟩) (bb.length + 1) (bb.length + 1)) 5 1 (bb.length + 1) (bv (bb ++ [77])), .grp (dskO db mb ab R.1 es2), .grp (rdkO xb rv2 (R.1).off (actsI (R.1).ar) part L2)] := hH
    refine gl_ops 1 [(5, .pointer (some ⟨b1, 0, none⟩)), (7, .slice (some ⟨b3, 0, none⟩) bb.length (bb.length + 1)), (8, errV R.2), (9, .int .i64 ((R.2 : Nat) : Int))] (by kernel_rfl) ?_
    refine gl_done rfl ?_
    refine sw_next ?_
    refine sw_seq ?_
    refine sw_region ?_  -- R33 law.go:74
    refine gl_ops 2 [(7, .slice (some ⟨b3, 0, none⟩) bb.length (bb.length + 1)), (8, errV R.2), (9, .int .i64 ((R.2 : Nat) : Int)), (150, .slice (some ⟨b3, 0, none⟩) bb.length (bb.length + 1)), (151, .pointer (some ⟨b1, 2, none⟩))] (by kernel_rfl) ?_
    refine gl_q rfl rfl rfl (rd_loadK 0 (by kernel_rfl) hH rfl rfl rfl) ?_
    refine gl_st (st_call rfl rfl rfl (by kernel_rfl) rfl (Kept_ct _ bb _ _ (hH.row_reads 1 rfl) (hbz.mono hH.zin) (by omega)) ?_)
    rintro _ w59 ⟨rfl, hF60⟩
    replace hH := hH.call hF60; clear hF60
    refine gl_ops 1 [(7, .slice (some ⟨b3, 0, none⟩) bb.length (bb.length + 1)), (8, errV R.2), (9, .int .i64 ((R.2 : Nat) : Int)), (17, .bool true)] (by kernel_rfl) ?_
    refine gl_done rfl ?_
    refine sw_next ?_
    refine sw_seq ?_
    refine sw_region ?_  -- R34 law.go:75
    refine gl_ops 1 [(8, errV R.2), (9, .int .i64 ((R.2 : Nat) : Int)), (17, .bool true), (154, .slice (some ⟨b3, 0, none⟩) bb.length (bb.length + 1))] (by kernel_rfl) ?_
    refine gl_st (st_buildS (e := 22) (zv := .slice none 0 0) (m := 1) (bytes := 24) rfl rfl rfl (by kernel_rfl) (by kernel_rfl) rfl (cs := [.slice (some ⟨b3, 0, none⟩) bb.length (bb.length + 1)]) (by kernel_rfl) rfl hH ?_)
    clear hH; intro b61 w62 hH
    replace hH : Hp w w62 _ _ [.blk b1 77 [.int .i64 4, .string (bs nm), .slice Ab bb.length cb, .int .i64 n, .int .i64 m, .slice Ak ks.length ck], .row (.slice (some ⟨b3, 0, none⟩) (bb.length + 1) (bb.length + 1)) 5 1 (bb.length + 1) (bv (bb ++ [77])), .grp (dskO db mb ab R.1 es2), .grp (rdkO xb rv2 (R.1).off (actsI (R.1).ar) part L2), .row (.slice (some ⟨b61, 0, none⟩) 1 1) 22 1 1 [.slice (some ⟨b3, 0, none⟩) bb.length (bb.length + 1)]] := hH
    replace hH := hH.pick [1, 0, 2, 3, 4] (by kernel_rfl) (os' := [.row (.slice (some ⟨b3, 0, none⟩) (bb.length + 1) (bb.length + 1)) 5 1 (bb.length + 1) (bv (bb ++ [77])), .blk b1 77 [.int .i64 4, .string (bs nm), .slice Ab bb.length cb, .int .i64 n, .int .i64 m, .slice Ak ks.length ck], .grp (dskO db mb ab R.1 es2), .grp (rdkO xb rv2 (R.1).off (actsI (R.1).ar) part L2), .row (.slice (some ⟨b61, 0, none⟩) 1 1) 22 1 1 [.slice (some ⟨b3, 0, none⟩) bb.length (bb.length + 1)]]) (by kernel_rfl)
    replace hH : Hp _ _ _ _ (anyO 5 (.slice (some ⟨b3, 0, none⟩) bb.length (bb.length + 1)) :: _) := row_any' (by omega) hH
    replace hH := rows1 hH
    replace hH : Hp w w62 _ _ [.grp ([Value.slice (some ⟨b3, 0, none⟩) bb.length (bb.length + 1)].map (anyO 5)), .blk b1 77 [.int .i64 4, .string (bs nm), .slice Ab bb.length cb, .int .i64 n, .int .i64 m, .slice Ak ks.length ck], .grp (dskO db mb ab R.1 es2), .grp (rdkO xb rv2 (R.1).off (actsI (R.1).ar) part L2), .row (.slice (some ⟨b61, 0, none⟩) 1 1) 22 1 1 [.slice (some ⟨b3, 0, none⟩) bb.length (bb.length + 1)]] := hH
    replace hH : Hp w w62 _ _ ([.grp ([Value.slice (some ⟨b3, 0, none⟩) bb.length (bb.length + 1)].map (anyO 5))] ++ [.blk b1 77 [.int .i64 4, .string (bs nm), .slice Ab bb.length cb, .int .i64 n, .int .i64 m, .slice Ak ks.length ck], .grp (dskO db mb ab R.1 es2), .grp (rdkO xb rv2 (R.1).off (actsI (R.1).ar) part L2), .row (.slice (some ⟨b61, 0, none⟩) 1 1) 22 1 1 [.slice (some ⟨b3, 0, none⟩) bb.length (bb.length + 1)]]) := hH
    refine gl_st (st_call rfl rfl rfl (by kernel_rfl) rfl (Owned_ct _ [Value.slice (some ⟨b3, 0, none⟩) bb.length (bb.length + 1)] _ hH.mine (zoff_row (mine := [.grp ([Value.slice (some ⟨b3, 0, none⟩) bb.length (bb.length + 1)].map (anyO 5))]) hH 3 rfl) (by simp)) ?_)
    rintro _ w63 ⟨rfl, hF64⟩
    replace hH := hH.turns hF64; clear hF64
    replace hH : Hp w w63 _ _ [.blk b1 77 [.int .i64 4, .string (bs nm), .slice Ab bb.length cb, .int .i64 n, .int .i64 m, .slice Ak ks.length ck], .grp (dskO db mb ab R.1 es2), .grp (rdkO xb rv2 (R.1).off (actsI (R.1).ar) part L2), .row (.slice (some ⟨b61, 0, none⟩) 1 1) 22 1 1 [.slice (some ⟨b3, 0, none⟩) bb.length (bb.length + 1)]] := hH
    refine gl_ops 1 [(8, errV R.2), (9, .int .i64 ((R.2 : Nat) : Int)), (17, .bool true), (18, .bool true)] (by kernel_rfl) ?_
    refine gl_done rfl ?_
    refine sw_next ?_
    refine sw_seq ?_
    refine sw_region ?_  -- R35 law.go:76
    refine gl_ops 6 [(9, .int .i64 ((R.2 : Nat) : Int)), (161, .bool true), (162, errV R.2)] (by kernel_rfl) ?_
    refine gl_st (st_call rfl rfl rfl (by kernel_rfl) rfl (Code_ct R.2 _ (hH.zin _ _ hG)) ?_)
    rintro _ w65 ⟨rfl, hF66⟩
    replace hH := hH.call hF66; clear hF66
    refine gl_ops 2 [(161, .bool true), (165, .bool (((R.2 : Nat) : Int) == ((R.2 : Nat) : Int)))] (by kernel_rfl) ?_
    refine gl_cv 165 (.bool true) (by rw [beq_self_eq_true]) rfl ?_
    refine gl_ops 2 [(6, .bool true)] (by kernel_rfl) ?_
    refine gl_done rfl ?_
    refine sw_next ?_
    refine sw_ret ?_
    refine ret1 rfl rfl  ?_
    replace hH : Hp w w65 _ _ [.blk b1 77 [.int .i64 4, .string (bs nm), .slice Ab bb.length cb, .int .i64 n, .int .i64 m, .slice Ak ks.length ck], .grp (dskO db mb ab R.1 es2), .grp (rdkO xb rv2 (R.1).off (actsI (R.1).ar) part L2), .row (.slice (some ⟨b61, 0, none⟩) 1 1) 22 1 1 [.slice (some ⟨b3, 0, none⟩) bb.length (bb.length + 1)]] := hH
    replace hH := hH.pick [1, 2, 0, 3] (by kernel_rfl) (os' := [.grp (dskO db mb ab R.1 es2), .grp (rdkO xb rv2 (R.1).off (actsI (R.1).ar) part L2), .blk b1 77 [.int .i64 4, .string (bs nm), .slice Ab bb.length cb, .int .i64 n, .int .i64 m, .slice Ak ks.length ck], .row (.slice (some ⟨b61, 0, none⟩) 1 1) 22 1 1 [.slice (some ⟨b3, 0, none⟩) bb.length (bb.length + 1)]]) (by kernel_rfl)
    replace hH := (hH.sublist (.cons_cons _ (.cons_cons _ (List.nil_sublist _))))
    replace hH : Hp w w65 _ _ [.grp (dskO db mb ab R.1 es2), .grp (rdkO xb rv2 (R.1).off (actsI (R.1).ar) part L2)] := hH
    have hact : actD D 4 nm bb n m ks = R.1 := by unfold actD; rw [if_pos (by decide)]; exact congrArg Prod.fst hr
    exact ⟨ab, es2, rv2, part, L2, rfl, by rw [hact]; exact inv_do hI hr hR2 hL2, by rw [hact]; exact hH.turned⟩
  try simp only [decide_eq_false_iff_not, beq_eq_false_iff_ne, bne_eq_false_iff_eq, ne_eq, Decidable.not_not, Int.not_lt, Int.not_le, Bool.not_eq_false', beq_iff_eq, bne_iff_ne, decide_eq_true_eq] at hc9
  have hd4 := hc9
  refine sw_seq ?_
  refine sw_region ?_  -- R19 law.go:53
  refine gl_ops 2 [(0, .pointer (some ⟨db, 0, none⟩)), (1, .pointer (some ⟨xb, 0, none⟩)), (5, .pointer (some ⟨b1, 0, none⟩)), (7, .slice (some ⟨b3, 0, none⟩) bb.length (bb.length + 1)), (8, .nilIface), (9, .int .i64 0), (23, .int .i64 dv), (89, .bool ((dv : Int) == (5 : Int)))] (by kernel_rfl) ?_
  refine gl_done rfl ?_
  refine sw_next ?_
  refine sw_cond rfl rfl (fun hc11 => ?_) (fun hc11 => ?_)
  ·
    try simp only [decide_eq_true_eq, beq_iff_eq, bne_iff_ne, ne_eq, Bool.not_eq_true', beq_eq_false_iff_ne, bne_eq_false_iff_eq, decide_eq_false_iff_not, Int.not_lt, Int.not_le] at hc11
    subst hc11
    refine sw_seq ?_
    refine sw_region ?_  -- R20 law.go:54
    refine gl_ops 2 [(1, .pointer (some ⟨xb, 0, none⟩)), (5, .pointer (some ⟨b1, 0, none⟩)), (7, .slice (some ⟨b3, 0, none⟩) bb.length (bb.length + 1)), (8, .nilIface), (9, .int .i64 0), (91, .pointer (some ⟨db, 0, none⟩)), (92, .pointer (some ⟨b1, 3, none⟩))] (by kernel_rfl) ?_
    refine gl_q rfl rfl rfl (rd_loadK 2 (by kernel_rfl) hH rfl rfl rfl) ?_
    refine gl_ops 1 [(1, .pointer (some ⟨xb, 0, none⟩)), (5, .pointer (some ⟨b1, 0, none⟩)), (7, .slice (some ⟨b3, 0, none⟩) bb.length (bb.length + 1)), (8, .nilIface), (9, .int .i64 0), (91, .pointer (some ⟨db, 0, none⟩)), (93, .int .i64 n), (94, .pointer (some ⟨b1, 4, none⟩))] (by kernel_rfl) ?_
    refine gl_q rfl rfl rfl (rd_loadK 2 (by kernel_rfl) hH rfl rfl rfl) ?_
    replace hH : Hp w w5 _ _ ([.grp (dskO db mb ab D es)] ++ [.grp (rdkO xb rv D.off (actsI D.ar) part L), .blk b1 77 [.int .i64 5, .string (bs nm), .slice Ab bb.length cb, .int .i64 n, .int .i64 m, .slice Ak ks.length ck], .row (.slice (some ⟨b3, 0, none⟩) (bb.length + 1) (bb.length + 1)) 5 1 (bb.length + 1) (bv (bb ++ [77]))]) := hH
    refine gl_st (st_call rfl rfl rfl (by kernel_rfl) rfl (Arm_ct db mb ab D es n m _ hH.mine) ?_)
    rintro _ w67 ⟨ab2, rfl, hF68⟩
    replace hH := hH.turns hF68; clear hF68
    replace hH : Hp w w67 _ _ [.grp (rdkO xb rv D.off (actsI D.ar) part L), .blk b1 77 [.int .i64 5, .string (bs nm), .slice Ab bb.length cb, .int .i64 n, .int .i64 m, .slice Ak ks.length ck], .row (.slice (some ⟨b3, 0, none⟩) (bb.length + 1) (bb.length + 1)) 5 1 (bb.length + 1) (bv (bb ++ [77])), .grp (dskO db mb ab2 (armD D n m) es)] := hH
    refine gl_done rfl ?_
    refine sw_next ?_
    refine sw_region ?_  -- R21 law.go:55
    refine gl_ops 2 [(1, .pointer (some ⟨xb, 0, none⟩)), (5, .pointer (some ⟨b1, 0, none⟩)), (7, .slice (some ⟨b3, 0, none⟩) bb.length (bb.length + 1)), (8, .nilIface), (9, .int .i64 0), (97, .pointer (some ⟨xb, 0, none⟩)), (98, .pointer (some ⟨b1, 3, none⟩))] (by kernel_rfl) ?_
    refine gl_q rfl rfl rfl (rd_loadK 1 (by kernel_rfl) hH rfl rfl rfl) ?_
    refine gl_ops 1 [(1, .pointer (some ⟨xb, 0, none⟩)), (5, .pointer (some ⟨b1, 0, none⟩)), (7, .slice (some ⟨b3, 0, none⟩) bb.length (bb.length + 1)), (8, .nilIface), (9, .int .i64 0), (97, .pointer (some ⟨xb, 0, none⟩)), (99, .int .i64 n), (100, .pointer (some ⟨b1, 4, none⟩))] (by kernel_rfl) ?_
    refine gl_q rfl rfl rfl (rd_loadK 1 (by kernel_rfl) hH rfl rfl rfl) ?_
    replace hH : Hp w w67 _ _ ([.grp (rdkO xb rv D.off (actsI D.ar) part L)] ++ [.blk b1 77 [.int .i64 5, .string (bs nm), .slice Ab bb.length cb, .int .i64 n, .int .i64 m, .slice Ak ks.length ck], .row (.slice (some ⟨b3, 0, none⟩) (bb.length + 1) (bb.length + 1)) 5 1 (bb.length + 1) (bv (bb ++ [77])), .grp (dskO db mb ab2 (armD D n m) es)]) := hH
    refine gl_st (st_call rfl rfl rfl (by kernel_rfl) rfl (RArmG_ct xb _ D part L n m _ hH.mine) ?_)
    rintro _ w69 ⟨rfl, hF70⟩
    replace hH := hH.turns hF70; clear hF70
    replace hH : Hp w w69 _ _ [.blk b1 77 [.int .i64 5, .string (bs nm), .slice Ab bb.length cb, .int .i64 n, .int .i64 m, .slice Ak ks.length ck], .row (.slice (some ⟨b3, 0, none⟩) (bb.length + 1) (bb.length + 1)) 5 1 (bb.length + 1) (bv (bb ++ [77])), .grp (dskO db mb ab2 (armD D n m) es), .grp (rdkO xb rv (armD D n m).off (actsI (armD D n m).ar) m L)] := hH
    refine gl_done rfl ?_
    refine bkN ?_
    refine sw_next ?_
    refine sw_seq ?_
    refine sw_seq ?_
    refine sw_region ?_  -- R31 law.go:71
    refine gl_ops 1 [(1, .pointer (some ⟨xb, 0, none⟩)), (5, .pointer (some ⟨b1, 0, none⟩)), (7, .slice (some ⟨b3, 0, none⟩) bb.length (bb.length + 1)), (8, .nilIface), (9, .int .i64 0), (132, .pointer (some ⟨b1, 0, none⟩))] (by kernel_rfl) ?_
    refine gl_q rfl rfl rfl (rd_loadK 0 (by kernel_rfl) hH rfl rfl rfl) ?_
    refine gl_ops 3 [(1, .pointer (some ⟨xb, 0, none⟩)), (5, .pointer (some ⟨b1, 0, none⟩)), (7, .slice (some ⟨b3, 0, none⟩) bb.length (bb.length + 1)), (8, .nilIface), (9, .int .i64 0), (135, .bool true), (136, .pointer (some ⟨b1, 0, none⟩))] (by kernel_rfl) ?_
    refine gl_q rfl rfl rfl (rd_loadK 0 (by kernel_rfl) hH rfl rfl rfl) ?_
    refine gl_ops 2 [(1, .pointer (some ⟨xb, 0, none⟩)), (5, .pointer (some ⟨b1, 0, none⟩)), (7, .slice (some ⟨b3, 0, none⟩) bb.length (bb.length + 1)), (8, .nilIface), (9, .int .i64 0), (139, .bool false)] (by kernel_rfl) ?_
    refine gl_done rfl ?_
    refine sw_next ?_
    refine sw_false rfl rfl ?_
    refine sw_skip ?_
    refine sw_next ?_
    refine sw_seq ?_
    refine sw_region ?_  -- R33 law.go:74
    refine gl_ops 2 [(7, .slice (some ⟨b3, 0, none⟩) bb.length (bb.length + 1)), (8, .nilIface), (9, .int .i64 0), (150, .slice (some ⟨b3, 0, none⟩) bb.length (bb.length + 1)), (151, .pointer (some ⟨b1, 2, none⟩))] (by kernel_rfl) ?_
    refine gl_q rfl rfl rfl (rd_loadK 0 (by kernel_rfl) hH rfl rfl rfl) ?_
    refine gl_st (st_call rfl rfl rfl (by kernel_rfl) rfl (Kept_ct _ bb _ _ (hH.row_reads 1 rfl) (hbz.mono hH.zin) (by omega)) ?_)
    rintro _ w71 ⟨rfl, hF72⟩
    replace hH := hH.call hF72; clear hF72
    refine gl_ops 1 [(7, .slice (some ⟨b3, 0, none⟩) bb.length (bb.length + 1)), (8, .nilIface), (9, .int .i64 0), (17, .bool true)] (by kernel_rfl) ?_
    refine gl_done rfl ?_
    refine sw_next ?_
    refine sw_seq ?_
    refine sw_region ?_  -- R34 law.go:75
    refine gl_ops 1 [(8, .nilIface), (9, .int .i64 0), (17, .bool true), (154, .slice (some ⟨b3, 0, none⟩) bb.length (bb.length + 1))] (by kernel_rfl) ?_
    refine gl_st (st_buildS (e := 22) (zv := .slice none 0 0) (m := 1) (bytes := 24) rfl rfl rfl (by kernel_rfl) (by kernel_rfl) rfl (cs := [.slice (some ⟨b3, 0, none⟩) bb.length (bb.length + 1)]) (by kernel_rfl) rfl hH ?_)
    clear hH; intro b73 w74 hH
    replace hH : Hp w w74 _ _ [.blk b1 77 [.int .i64 5, .string (bs nm), .slice Ab bb.length cb, .int .i64 n, .int .i64 m, .slice Ak ks.length ck], .row (.slice (some ⟨b3, 0, none⟩) (bb.length + 1) (bb.length + 1)) 5 1 (bb.length + 1) (bv (bb ++ [77])), .grp (dskO db mb ab2 (armD D n m) es), .grp (rdkO xb rv (armD D n m).off (actsI (armD D n m).ar) m L), .row (.slice (some ⟨b73, 0, none⟩) 1 1) 22 1 1 [.slice (some ⟨b3, 0, none⟩) bb.length (bb.length + 1)]] := hH
    replace hH := hH.pick [1, 0, 2, 3, 4] (by kernel_rfl) (os' := [.row (.slice (some ⟨b3, 0, none⟩) (bb.length + 1) (bb.length + 1)) 5 1 (bb.length + 1) (bv (bb ++ [77])), .blk b1 77 [.int .i64 5, .string (bs nm), .slice Ab bb.length cb, .int .i64 n, .int .i64 m, .slice Ak ks.length ck], .grp (dskO db mb ab2 (armD D n m) es), .grp (rdkO xb rv (armD D n m).off (actsI (armD D n m).ar) m L), .row (.slice (some ⟨b73, 0, none⟩) 1 1) 22 1 1 [.slice (some ⟨b3, 0, none⟩) bb.length (bb.length + 1)]]) (by kernel_rfl)
    replace hH : Hp _ _ _ _ (anyO 5 (.slice (some ⟨b3, 0, none⟩) bb.length (bb.length + 1)) :: _) := row_any' (by omega) hH
    replace hH := rows1 hH
    replace hH : Hp w w74 _ _ [.grp ([Value.slice (some ⟨b3, 0, none⟩) bb.length (bb.length + 1)].map (anyO 5)), .blk b1 77 [.int .i64 5, .string (bs nm), .slice Ab bb.length cb, .int .i64 n, .int .i64 m, .slice Ak ks.length ck], .grp (dskO db mb ab2 (armD D n m) es), .grp (rdkO xb rv (armD D n m).off (actsI (armD D n m).ar) m L), .row (.slice (some ⟨b73, 0, none⟩) 1 1) 22 1 1 [.slice (some ⟨b3, 0, none⟩) bb.length (bb.length + 1)]] := hH
    replace hH : Hp w w74 _ _ ([.grp ([Value.slice (some ⟨b3, 0, none⟩) bb.length (bb.length + 1)].map (anyO 5))] ++ [.blk b1 77 [.int .i64 5, .string (bs nm), .slice Ab bb.length cb, .int .i64 n, .int .i64 m, .slice Ak ks.length ck], .grp (dskO db mb ab2 (armD D n m) es), .grp (rdkO xb rv (armD D n m).off (actsI (armD D n m).ar) m L), .row (.slice (some ⟨b73, 0, none⟩) 1 1) 22 1 1 [.slice (some ⟨b3, 0, none⟩) bb.length (bb.length + 1)]]) := hH
    refine gl_st (st_call rfl rfl rfl (by kernel_rfl) rfl (Owned_ct _ [Value.slice (some ⟨b3, 0, none⟩) bb.length (bb.length + 1)] _ hH.mine (zoff_row (mine := [.grp ([Value.slice (some ⟨b3, 0, none⟩) bb.length (bb.length + 1)].map (anyO 5))]) hH 3 rfl) (by simp)) ?_)
    rintro _ w75 ⟨rfl, hF76⟩
    replace hH := hH.turns hF76; clear hF76
    replace hH : Hp w w75 _ _ [.blk b1 77 [.int .i64 5, .string (bs nm), .slice Ab bb.length cb, .int .i64 n, .int .i64 m, .slice Ak ks.length ck], .grp (dskO db mb ab2 (armD D n m) es), .grp (rdkO xb rv (armD D n m).off (actsI (armD D n m).ar) m L), .row (.slice (some ⟨b73, 0, none⟩) 1 1) 22 1 1 [.slice (some ⟨b3, 0, none⟩) bb.length (bb.length + 1)]] := hH
    refine gl_ops 1 [(8, .nilIface), (9, .int .i64 0), (17, .bool true), (18, .bool true)] (by kernel_rfl) ?_
    refine gl_done rfl ?_
    refine sw_next ?_
    refine sw_seq ?_
    refine sw_region ?_  -- R35 law.go:76
    refine gl_ops 6 [(9, .int .i64 0), (161, .bool true), (162, .nilIface)] (by kernel_rfl) ?_
    refine gl_st (st_call rfl rfl rfl (by kernel_rfl) rfl (Code_ct 0 _ (hH.zin _ _ hG)) ?_)
    rintro _ w77 ⟨rfl, hF78⟩
    replace hH := hH.call hF78; clear hF78
    refine gl_ops 2 [(161, .bool true), (165, .bool true)] (by kernel_rfl) ?_
    refine gl_cv 165 (.bool true) (rfl) rfl ?_
    refine gl_ops 2 [(6, .bool true)] (by kernel_rfl) ?_
    refine gl_done rfl ?_
    refine sw_next ?_
    refine sw_ret ?_
    refine ret1 rfl rfl  ?_
    replace hH : Hp w w77 _ _ [.blk b1 77 [.int .i64 5, .string (bs nm), .slice Ab bb.length cb, .int .i64 n, .int .i64 m, .slice Ak ks.length ck], .grp (dskO db mb ab2 (armD D n m) es), .grp (rdkO xb rv (armD D n m).off (actsI (armD D n m).ar) m L), .row (.slice (some ⟨b73, 0, none⟩) 1 1) 22 1 1 [.slice (some ⟨b3, 0, none⟩) bb.length (bb.length + 1)]] := hH
    replace hH := hH.pick [1, 2, 0, 3] (by kernel_rfl) (os' := [.grp (dskO db mb ab2 (armD D n m) es), .grp (rdkO xb rv (armD D n m).off (actsI (armD D n m).ar) m L), .blk b1 77 [.int .i64 5, .string (bs nm), .slice Ab bb.length cb, .int .i64 n, .int .i64 m, .slice Ak ks.length ck], .row (.slice (some ⟨b73, 0, none⟩) 1 1) 22 1 1 [.slice (some ⟨b3, 0, none⟩) bb.length (bb.length + 1)]]) (by kernel_rfl)
    replace hH := (hH.sublist (.cons_cons _ (.cons_cons _ (List.nil_sublist _))))
    replace hH : Hp w w77 _ _ [.grp (dskO db mb ab2 (armD D n m) es), .grp (rdkO xb rv (armD D n m).off (actsI (armD D n m).ar) m L)] := hH
    have hact : actD D 5 nm bb n m ks = armD D n m := by unfold actD; rw [if_neg (by decide), if_pos rfl]
    exact ⟨ab2, es, rv, m, L, rfl, by rw [hact]; exact inv_same (inv_arm hI n m hn) (by omega) (by omega), by rw [hact]; exact hH.turned⟩
  try simp only [decide_eq_false_iff_not, beq_eq_false_iff_ne, bne_eq_false_iff_eq, ne_eq, Decidable.not_not, Int.not_lt, Int.not_le, Bool.not_eq_false', beq_iff_eq, bne_iff_ne, decide_eq_true_eq] at hc11
  have hd5 := hc11
  refine sw_seq ?_
  refine sw_region ?_  -- R22 law.go:56
  refine gl_ops 2 [(0, .pointer (some ⟨db, 0, none⟩)), (1, .pointer (some ⟨xb, 0, none⟩)), (5, .pointer (some ⟨b1, 0, none⟩)), (7, .slice (some ⟨b3, 0, none⟩) bb.length (bb.length + 1)), (8, .nilIface), (9, .int .i64 0), (103, .bool ((dv : Int) == (6 : Int)))] (by kernel_rfl) ?_
  refine gl_done rfl ?_
  refine sw_next ?_
  refine sw_cond rfl rfl (fun hc13 => ?_) (fun hc13 => ?_)
  ·
    try simp only [decide_eq_true_eq, beq_iff_eq, bne_iff_ne, ne_eq, Bool.not_eq_true', beq_eq_false_iff_ne, bne_eq_false_iff_eq, decide_eq_false_iff_not, Int.not_lt, Int.not_le] at hc13
    subst hc13
    refine sw_seq ?_
    refine sw_region ?_  -- R23 law.go:57
    refine gl_st (st_buildS0 (e := 3) (m := 1) rfl rfl rfl (by kernel_rfl) (by kernel_rfl) hH ?_)
    clear hH; intro b79 w80 hH
    refine gl_ops 1 [(0, .pointer (some ⟨db, 0, none⟩)), (1, .pointer (some ⟨xb, 0, none⟩)), (5, .pointer (some ⟨b1, 0, none⟩)), (7, .slice (some ⟨b3, 0, none⟩) bb.length (bb.length + 1)), (8, .nilIface), (9, .int .i64 0), (105, .slice (some ⟨b79, 0, none⟩) 0 0), (106, .pointer (some ⟨b1, 5, none⟩))] (by kernel_rfl) ?_
    refine gl_q rfl rfl rfl (rd_loadK 2 (by kernel_rfl) hH rfl rfl rfl) ?_
    refine gl_st (st_appH (e := 3) (zv := .int .i64 0) (m := 1) (bytes := 8) 4 rfl rfl rfl (by kernel_rfl) (by kernel_rfl) rfl (by decide) hH rfl rfl rfl (hl.mono hH.zin) (by simp [iv]; intro a _; rfl) (by unfold maxLen; omega) (by omega) ?_)
    clear hH; intro v81 w82 hH
    replace hH := hH.row_eq 4 (l' := ks.length) (xs' := iv ks) rfl (Nat.zero_add _) (List.nil_append _)
    obtain ⟨A83, c84, rfl, hl85, hm86⟩ := hH.row_form 4 rfl
    refine gl_ops 1 [(0, .pointer (some ⟨db, 0, none⟩)), (1, .pointer (some ⟨xb, 0, none⟩)), (5, .pointer (some ⟨b1, 0, none⟩)), (7, .slice (some ⟨b3, 0, none⟩) bb.length (bb.length + 1)), (8, .nilIface), (9, .int .i64 0), (10, .slice A83 ks.length c84)] (by kernel_rfl) ?_
    refine gl_done rfl ?_
    refine sw_next ?_
    refine sw_seq ?_
    refine sw_region ?_  -- R24 law.go:58
    refine gl_ops 2 [(1, .pointer (some ⟨xb, 0, none⟩)), (5, .pointer (some ⟨b1, 0, none⟩)), (7, .slice (some ⟨b3, 0, none⟩) bb.length (bb.length + 1)), (8, .nilIface), (9, .int .i64 0), (10, .slice A83 ks.length c84), (109, .pointer (some ⟨db, 0, none⟩)), (110, .slice A83 ks.length c84)] (by kernel_rfl) ?_
    replace hH : Hp w w82 _ _ ([.grp (dskO db mb ab D es)] ++ [.grp (rdkO xb rv D.off (actsI D.ar) part L), .blk b1 77 [.int .i64 6, .string (bs nm), .slice Ab bb.length cb, .int .i64 n, .int .i64 m, .slice Ak ks.length ck], .row (.slice (some ⟨b3, 0, none⟩) (bb.length + 1) (bb.length + 1)) 5 1 (bb.length + 1) (bv (bb ++ [77])), .row (.slice A83 ks.length c84) 3 1 ks.length (iv ks)]) := hH
    refine gl_st (st_call rfl rfl rfl (by kernel_rfl) rfl (Start_ct db mb ab D es _ ks M _ hH.mine (zoff_row (mine := [.grp (dskO db mb ab D es)]) hH 3 rfl) hI.rep hI.good (by omega) (by have := hI.len; omega)) ?_)
    rintro _ w87 ⟨es2, rfl, hR2, hF88⟩
    replace hH := hH.turns hF88; clear hF88
    replace hH : Hp w w87 _ _ [.grp (rdkO xb rv D.off (actsI D.ar) part L), .blk b1 77 [.int .i64 6, .string (bs nm), .slice Ab bb.length cb, .int .i64 n, .int .i64 m, .slice Ak ks.length ck], .row (.slice (some ⟨b3, 0, none⟩) (bb.length + 1) (bb.length + 1)) 5 1 (bb.length + 1) (bv (bb ++ [77])), .row (.slice A83 ks.length c84) 3 1 ks.length (iv ks), .grp (dskO db mb ab (startD D ks) es2)] := hH
    refine gl_done rfl ?_
    refine sw_next ?_
    refine sw_seq ?_
    refine sw_region ?_  -- R25 law.go:59
    refine gl_ops 2 [(1, .pointer (some ⟨xb, 0, none⟩)), (5, .pointer (some ⟨b1, 0, none⟩)), (7, .slice (some ⟨b3, 0, none⟩) bb.length (bb.length + 1)), (8, .nilIface), (9, .int .i64 0), (10, .slice A83 ks.length c84), (112, .pointer (some ⟨xb, 0, none⟩)), (113, .pointer (some ⟨b1, 5, none⟩))] (by kernel_rfl) ?_
    refine gl_q rfl rfl rfl (rd_loadK 1 (by kernel_rfl) hH rfl rfl rfl) ?_
    replace hH : Hp w w87 _ _ ([.grp (rdkO xb rv D.off (actsI D.ar) part L)] ++ [.blk b1 77 [.int .i64 6, .string (bs nm), .slice Ab bb.length cb, .int .i64 n, .int .i64 m, .slice Ak ks.length ck], .row (.slice (some ⟨b3, 0, none⟩) (bb.length + 1) (bb.length + 1)) 5 1 (bb.length + 1) (bv (bb ++ [77])), .row (.slice A83 ks.length c84) 3 1 ks.length (iv ks), .grp (dskO db mb ab (startD D ks) es2)]) := hH
    refine gl_st (st_call rfl rfl rfl (by kernel_rfl) rfl (RStart_ct xb _ D part L _ ks M _ hH.mine hI.fst (hl.mono hH.zoff) hI.good (by omega)) ?_)
    rintro _ w89 ⟨L2, rfl, hL2, hF90⟩
    replace hH := hH.turns hF90; clear hF90
    replace hH : Hp w w89 _ _ [.blk b1 77 [.int .i64 6, .string (bs nm), .slice Ab bb.length cb, .int .i64 n, .int .i64 m, .slice Ak ks.length ck], .row (.slice (some ⟨b3, 0, none⟩) (bb.length + 1) (bb.length + 1)) 5 1 (bb.length + 1) (bv (bb ++ [77])), .row (.slice A83 ks.length c84) 3 1 ks.length (iv ks), .grp (dskO db mb ab (startD D ks) es2), .grp (rdkO xb rv (startD D ks).off (actsI (startD D ks).ar) part L2)] := hH
    refine gl_done rfl ?_
    refine sw_next ?_
    refine sw_seq ?_
    refine sw_region ?_  -- R26 law.go:60
    refine gl_ops 1 [(1, .pointer (some ⟨xb, 0, none⟩)), (5, .pointer (some ⟨b1, 0, none⟩)), (7, .slice (some ⟨b3, 0, none⟩) bb.length (bb.length + 1)), (8, .nilIface), (9, .int .i64 0), (10, .slice A83 ks.length c84), (11, .int .i64 0)] (by kernel_rfl) ?_
    refine gl_done rfl ?_
    refine sw_next ?_
    refine sw_block ?_
    refine sw_loop (γ := Nat) (fun i => [(1, .pointer (some ⟨xb, 0, none⟩)), (5, .pointer (some ⟨b1, 0, none⟩)), (7, .slice (some ⟨b3, 0, none⟩) bb.length (bb.length + 1)), (8, .nilIface), (9, .int .i64 0), (10, .slice A83 ks.length c84), (11, .int .i64 ((i : Nat) : Int))]) (fun i w_ => (i ≤ ks.length) ∧ Hp w w_ (off w (blksOf [.grp (dskO db mb ab D es), .grp (rdkO xb rv D.off (actsI D.ar) part L)])) (blksOf [.grp (dskO db mb ab D es), .grp (rdkO xb rv D.off (actsI D.ar) part L)]) [.blk b1 77 [.int .i64 6, .string (bs nm), .slice Ab bb.length cb, .int .i64 n, .int .i64 m, .slice Ak ks.length ck], .row (.slice (some ⟨b3, 0, none⟩) (bb.length + 1) (bb.length + 1)) 5 1 (bb.length + 1) (bv (bb ++ [77])), .row (.slice A83 ks.length c84) 3 1 ks.length (iv ks), .grp (dskO db mb ab (startD D ks) es2), .grp (rdkO xb rv (startD D ks).off (actsI (startD D ks).ar) part L2)]) (fun i => ks.length - i) (0) (Sub.of_eq (by kernel_rfl)) ?_ ?_
    · exact ⟨by omega, hH⟩
    clear hH
    rintro i w91 ⟨hi, hH⟩
    refine sw_keep [(1, .pointer (some ⟨xb, 0, none⟩)), (5, .pointer (some ⟨b1, 0, none⟩)), (7, .slice (some ⟨b3, 0, none⟩) bb.length (bb.length + 1)), (8, .nilIface), (9, .int .i64 0), (10, .slice A83 ks.length c84), (11, .int .i64 ((i : Nat) : Int))] (by kernel_rfl) ?_
    refine sw_seq ?_
    refine sw_seq ?_
    refine sw_region ?_  -- R27 law.go:60
    refine gl_ops 2 [(1, .pointer (some ⟨xb, 0, none⟩)), (5, .pointer (some ⟨b1, 0, none⟩)), (7, .slice (some ⟨b3, 0, none⟩) bb.length (bb.length + 1)), (8, .nilIface), (9, .int .i64 0), (10, .slice A83 ks.length c84), (11, .int .i64 ((i : Nat) : Int)), (116, .int .i64 ((i : Nat) : Int)), (117, .slice A83 ks.length c84)] (by kernel_rfl) ?_
    refine gl_q rfl rfl rfl (rd_len (e := 3) (by kernel_rfl) rfl) ?_
    refine gl_ops 1 [(1, .pointer (some ⟨xb, 0, none⟩)), (5, .pointer (some ⟨b1, 0, none⟩)), (7, .slice (some ⟨b3, 0, none⟩) bb.length (bb.length + 1)), (8, .nilIface), (9, .int .i64 0), (10, .slice A83 ks.length c84), (11, .int .i64 ((i : Nat) : Int)), (119, .bool (decide (((i : Nat) : Int) < ((ks.length : Nat) : Int))))] (by kernel_rfl) ?_
    refine gl_done rfl ?_
    refine sw_next ?_
    refine sw_cond rfl rfl (fun hc14 => ?_) (fun hc14 => ?_)
    ·
      try simp only [decide_eq_true_eq, beq_iff_eq, bne_iff_ne, ne_eq, Bool.not_eq_true', beq_eq_false_iff_ne, bne_eq_false_iff_eq, decide_eq_false_iff_not, Int.not_lt, Int.not_le] at hc14
      refine sw_skip ?_
      refine sw_next ?_
      refine sw_seq ?_
      refine sw_block ?_
      refine sw_seq ?_
      refine sw_draw (by kernel_rfl) (fun w_ => Hp w w_ (off w (blksOf [.grp (dskO db mb ab D es), .grp (rdkO xb rv D.off (actsI D.ar) part L)])) (blksOf [.grp (dskO db mb ab D es), .grp (rdkO xb rv D.off (actsI D.ar) part L)]) [.blk b1 77 [.int .i64 6, .string (bs nm), .slice Ab bb.length cb, .int .i64 n, .int .i64 m, .slice Ak ks.length ck], .row (.slice (some ⟨b3, 0, none⟩) (bb.length + 1) (bb.length + 1)) 5 1 (bb.length + 1) (bv (bb ++ [77])), .row (.slice A83 ks.length c84) 3 1 ks.length (iv ks), .grp (dskO db mb ab (startD D ks) es2), .grp (rdkO xb rv (startD D ks).off (actsI (startD D ks).ar) part L2)]) ?_  -- R29 law.go:61
      replace hH := hH.drew
      generalize { w91 with drawn := w91.drawn + 1 } = w92 at hH ⊢
      have hS9 := hH.sublist (.cons_cons _ (.cons_cons _ (.cons_cons _ (.cons_cons _ (.cons_cons _ (List.nil_sublist _))))))
      refine gd_pure 0 rfl (by kernel_rfl) (PQ.th (PQ.bk (PQ.th (PQ.th (PQ.bk (PQ.bk (PQ.th PQ.body))))))) hS9 rfl rfl (.slice A83 ks.length c84) (by kernel_rfl) ?_
      refine gd_pure 1 rfl (by kernel_rfl) (PQ.th (PQ.bk (PQ.th (PQ.th (PQ.bk (PQ.bk (PQ.th PQ.body))))))) hS9 rfl rfl (.int .i64 ((i : Nat) : Int)) (by kernel_rfl) ?_
      obtain ⟨b94, hb93, hi95⟩ := hH.row_idx 2 rfl i (by omega)
      refine gd_q 2 rfl (by kernel_rfl) (PQ.th (PQ.bk (PQ.th (PQ.th (PQ.bk (PQ.bk (PQ.th PQ.body))))))) hS9 rfl rfl (fun w_ hS => (rd_idx (e := 3) (m := 1) (by kernel_rfl) (by kernel_rfl) rfl rfl hi95)) ?_
      refine gd_keep [(1, .pointer (some ⟨xb, 0, none⟩)), (5, .pointer (some ⟨b1, 0, none⟩)), (7, .slice (some ⟨b3, 0, none⟩) bb.length (bb.length + 1)), (8, .nilIface), (9, .int .i64 0), (10, .slice A83 ks.length c84), (11, .int .i64 ((i : Nat) : Int)), (124, .pointer (some ⟨b94, i * 1, none⟩))] (by kernel_rfl) ?_
      refine gd_q 3 rfl (by kernel_rfl) (PQ.th (PQ.bk (PQ.th (PQ.th (PQ.bk (PQ.bk (PQ.th PQ.body))))))) hS9 rfl rfl (fun w_ hS => (rd_loadO 2 (by kernel_rfl) hS rfl rfl hb93 (iv_at ks i (by omega)))) ?_
      refine gd_pure 4 rfl (by kernel_rfl) (PQ.th (PQ.bk (PQ.th (PQ.th (PQ.bk (PQ.bk (PQ.th PQ.body))))))) hS9 rfl rfl (.pointer (some ⟨b1, 5, none⟩)) (by kernel_rfl) ?_
      refine gd_q 5 rfl (by kernel_rfl) (PQ.th (PQ.bk (PQ.th (PQ.th (PQ.bk (PQ.bk (PQ.th PQ.body))))))) hS9 rfl rfl (fun w_ hS => (rd_loadK 0 (by kernel_rfl) hS rfl rfl rfl)) ?_
      refine gd_keep [(1, .pointer (some ⟨xb, 0, none⟩)), (5, .pointer (some ⟨b1, 0, none⟩)), (7, .slice (some ⟨b3, 0, none⟩) bb.length (bb.length + 1)), (8, .nilIface), (9, .int .i64 0), (10, .slice A83 ks.length c84), (11, .int .i64 ((i : Nat) : Int)), (125, .int .i64 (ks.getD i 0)), (127, .slice Ak ks.length ck)] (by kernel_rfl) ?_
      refine gd_pure 6 rfl (by kernel_rfl) (PQ.th (PQ.bk (PQ.th (PQ.th (PQ.bk (PQ.bk (PQ.th PQ.body))))))) hS9 rfl rfl (.int .i64 ((i : Nat) : Int)) (by kernel_rfl) ?_
      obtain ⟨p96, hi98, hp97⟩ := hl.idx i (by omega) (by decide)
      refine gd_q 7 rfl (by kernel_rfl) (PQ.th (PQ.bk (PQ.th (PQ.th (PQ.bk (PQ.bk (PQ.th PQ.body))))))) hS9 rfl rfl (fun w_ hS => (rd_idx (e := 3) (m := 1) (by kernel_rfl) (by kernel_rfl) rfl rfl hi98)) ?_
      refine gd_q 8 rfl (by kernel_rfl) (PQ.th (PQ.bk (PQ.th (PQ.th (PQ.bk (PQ.bk (PQ.th PQ.body))))))) hS9 rfl rfl (fun w_ hS => (rd_load (by kernel_rfl) rfl (hS.zin _ _ (hp97 0 _ (by decide) (iv_at ks i (by omega)))))) ?_
      refine gd_keep [(1, .pointer (some ⟨xb, 0, none⟩)), (5, .pointer (some ⟨b1, 0, none⟩)), (7, .slice (some ⟨b3, 0, none⟩) bb.length (bb.length + 1)), (8, .nilIface), (9, .int .i64 0), (10, .slice A83 ks.length c84), (11, .int .i64 ((i : Nat) : Int)), (125, .int .i64 (ks.getD i 0)), (130, .int .i64 (ks.getD i 0))] (by kernel_rfl) ?_
      refine gd_pure 9 rfl (by kernel_rfl) (PQ.th (PQ.bk (PQ.th (PQ.th (PQ.bk (PQ.bk (PQ.th PQ.body))))))) hS9 rfl rfl (.bool ((ks.getD i 0) != (ks.getD i 0))) (by kernel_rfl) ?_
      refine gd_cv 131 (.bool false) (by rw [bne_self_eq_false]) rfl ?_
      refine gd_done (by kernel_rfl) ?_
      refine at_sub [(1, .pointer (some ⟨xb, 0, none⟩)), (5, .pointer (some ⟨b1, 0, none⟩)), (7, .slice (some ⟨b3, 0, none⟩) bb.length (bb.length + 1)), (8, .nilIface), (9, .int .i64 0), (10, .slice A83 ks.length c84), (11, .int .i64 ((i : Nat) : Int)), (131, .bool false)] (Sub.of_eq (by kernel_rfl)) ?_
      refine sw_next ?_
      refine sw_false rfl rfl ?_
      refine sw_skip ?_
      refine bkN ?_
      refine sw_next ?_
      refine sw_region ?_  -- R28 law.go:60
      refine gl_ops 2 [(1, .pointer (some ⟨xb, 0, none⟩)), (5, .pointer (some ⟨b1, 0, none⟩)), (7, .slice (some ⟨b3, 0, none⟩) bb.length (bb.length + 1)), (8, .nilIface), (9, .int .i64 0), (10, .slice A83 ks.length c84), (121, .int .i64 (IntKind.i64.wrap (((i : Nat) : Int) + 1)))] (by kernel_rfl) ?_
      refine gl_cv 121 (.int .i64 ((i + 1 : Nat) : Int)) (cv_i64 (by omega)) rfl ?_
      refine gl_ops 1 [(1, .pointer (some ⟨xb, 0, none⟩)), (5, .pointer (some ⟨b1, 0, none⟩)), (7, .slice (some ⟨b3, 0, none⟩) bb.length (bb.length + 1)), (8, .nilIface), (9, .int .i64 0), (10, .slice A83 ks.length c84), (11, .int .i64 ((i + 1 : Nat) : Int))] (by kernel_rfl) ?_
      refine gl_done rfl ?_
      refine rnd_end (g := (i)) (i + 1) (by kernel_rfl) ?_ ?_
      · exact ⟨by omega, hH⟩
      · show ks.length - (i + 1) < ks.length - i; omega
    try simp only [decide_eq_false_iff_not, beq_eq_false_iff_ne, bne_eq_false_iff_eq, ne_eq, Decidable.not_not, Int.not_lt, Int.not_le, Bool.not_eq_false', beq_iff_eq, bne_iff_ne, decide_eq_true_eq] at hc14
    refine sw_exit ?_
    refine thX ?_
    refine thX ?_
    refine bkH ?_
    refine bkN ?_
    refine sw_next ?_
    refine sw_seq ?_
    refine sw_seq ?_
    refine sw_region ?_  -- R31 law.go:71
    refine gl_ops 1 [(1, .pointer (some ⟨xb, 0, none⟩)), (5, .pointer (some ⟨b1, 0, none⟩)), (7, .slice (some ⟨b3, 0, none⟩) bb.length (bb.length + 1)), (8, .nilIface), (9, .int .i64 0), (132, .pointer (some ⟨b1, 0, none⟩))] (by kernel_rfl) ?_
    refine gl_q rfl rfl rfl (rd_loadK 0 (by kernel_rfl) hH rfl rfl rfl) ?_
    refine gl_ops 3 [(1, .pointer (some ⟨xb, 0, none⟩)), (5, .pointer (some ⟨b1, 0, none⟩)), (7, .slice (some ⟨b3, 0, none⟩) bb.length (bb.length + 1)), (8, .nilIface), (9, .int .i64 0), (135, .bool true), (136, .pointer (some ⟨b1, 0, none⟩))] (by kernel_rfl) ?_
    refine gl_q rfl rfl rfl (rd_loadK 0 (by kernel_rfl) hH rfl rfl rfl) ?_
    refine gl_ops 2 [(1, .pointer (some ⟨xb, 0, none⟩)), (5, .pointer (some ⟨b1, 0, none⟩)), (7, .slice (some ⟨b3, 0, none⟩) bb.length (bb.length + 1)), (8, .nilIface), (9, .int .i64 0), (139, .bool false)] (by kernel_rfl) ?_
    refine gl_done rfl ?_
    refine sw_next ?_
    refine sw_false rfl rfl ?_
    refine sw_skip ?_
    refine sw_next ?_
    refine sw_seq ?_
    refine sw_region ?_  -- R33 law.go:74
    refine gl_ops 2 [(7, .slice (some ⟨b3, 0, none⟩) bb.length (bb.length + 1)), (8, .nilIface), (9, .int .i64 0), (150, .slice (some ⟨b3, 0, none⟩) bb.length (bb.length + 1)), (151, .pointer (some ⟨b1, 2, none⟩))] (by kernel_rfl) ?_
    refine gl_q rfl rfl rfl (rd_loadK 0 (by kernel_rfl) hH rfl rfl rfl) ?_
    refine gl_st (st_call rfl rfl rfl (by kernel_rfl) rfl (Kept_ct _ bb _ _ (hH.row_reads 1 rfl) (hbz.mono hH.zin) (by omega)) ?_)
    rintro _ w99 ⟨rfl, hF100⟩
    replace hH := hH.call hF100; clear hF100
    refine gl_ops 1 [(7, .slice (some ⟨b3, 0, none⟩) bb.length (bb.length + 1)), (8, .nilIface), (9, .int .i64 0), (17, .bool true)] (by kernel_rfl) ?_
    refine gl_done rfl ?_
    refine sw_next ?_
    refine sw_seq ?_
    refine sw_region ?_  -- R34 law.go:75
    refine gl_ops 1 [(8, .nilIface), (9, .int .i64 0), (17, .bool true), (154, .slice (some ⟨b3, 0, none⟩) bb.length (bb.length + 1))] (by kernel_rfl) ?_
    refine gl_st (st_buildS (e := 22) (zv := .slice none 0 0) (m := 1) (bytes := 24) rfl rfl rfl (by kernel_rfl) (by kernel_rfl) rfl (cs := [.slice (some ⟨b3, 0, none⟩) bb.length (bb.length + 1)]) (by kernel_rfl) rfl hH ?_)
    clear hH; intro b101 w102 hH
    replace hH : Hp w w102 _ _ [.blk b1 77 [.int .i64 6, .string (bs nm), .slice Ab bb.length cb, .int .i64 n, .int .i64 m, .slice Ak ks.length ck], .row (.slice (some ⟨b3, 0, none⟩) (bb.length + 1) (bb.length + 1)) 5 1 (bb.length + 1) (bv (bb ++ [77])), .row (.slice A83 ks.length c84) 3 1 ks.length (iv ks), .grp (dskO db mb ab (startD D ks) es2), .grp (rdkO xb rv (startD D ks).off (actsI (startD D ks).ar) part L2), .row (.slice (some ⟨b101, 0, none⟩) 1 1) 22 1 1 [.slice (some ⟨b3, 0, none⟩) bb.length (bb.length + 1)]] := hH
    replace hH := hH.pick [1, 0, 2, 3, 4, 5] (by kernel_rfl) (os' := [.row (.slice (some ⟨b3, 0, none⟩) (bb.length + 1) (bb.length + 1)) 5 1 (bb.length + 1) (bv (bb ++ [77])), .blk b1 77 [.int .i64 6, .string (bs nm), .slice Ab bb.length cb, .int .i64 n, .int .i64 m, .slice Ak ks.length ck], .row (.slice A83 ks.length c84) 3 1 ks.length (iv ks), .grp (dskO db mb ab (startD D ks) es2), .grp (rdkO xb rv (startD D ks).off (actsI (startD D ks).ar) part L2), .row (.slice (some ⟨b101, 0, none⟩) 1 1) 22 1 1 [.slice (some ⟨b3, 0, none⟩) bb.length (bb.length + 1)]]) (by kernel_rfl)
    replace hH : Hp _ _ _ _ (anyO 5 (.slice (some ⟨b3, 0, none⟩) bb.length (bb.length + 1)) :: _) := row_any' (by omega) hH
    replace hH := rows1 hH
    replace hH : Hp w w102 _ _ [.grp ([Value.slice (some ⟨b3, 0, none⟩) bb.length (bb.length + 1)].map (anyO 5)), .blk b1 77 [.int .i64 6, .string (bs nm), .slice Ab bb.length cb, .int .i64 n, .int .i64 m, .slice Ak ks.length ck], .row (.slice A83 ks.length c84) 3 1 ks.length (iv ks), .grp (dskO db mb ab (startD D ks) es2), .grp (rdkO xb rv (startD D ks).off (actsI (startD D ks).ar) part L2), .row (.slice (some ⟨b101, 0, none⟩) 1 1) 22 1 1 [.slice (some ⟨b3, 0, none⟩) bb.length (bb.length + 1)]] := hH
    replace hH : Hp w w102 _ _ ([.grp ([Value.slice (some ⟨b3, 0, none⟩) bb.length (bb.length + 1)].map (anyO 5))] ++ [.blk b1 77 [.int .i64 6, .string (bs nm), .slice Ab bb.length cb, .int .i64 n, .int .i64 m, .slice Ak ks.length ck], .row (.slice A83 ks.length c84) 3 1 ks.length (iv ks), .grp (dskO db mb ab (startD D ks) es2), .grp (rdkO xb rv (startD D ks).off (actsI (startD D ks).ar) part L2), .row (.slice (some ⟨b101, 0, none⟩) 1 1) 22 1 1 [.slice (some ⟨b3, 0, none⟩) bb.length (bb.length + 1)]]) := hH
    refine gl_st (st_call rfl rfl rfl (by kernel_rfl) rfl (Owned_ct _ [Value.slice (some ⟨b3, 0, none⟩) bb.length (bb.length + 1)] _ hH.mine (zoff_row (mine := [.grp ([Value.slice (some ⟨b3, 0, none⟩) bb.length (bb.length + 1)].map (anyO 5))]) hH 4 rfl) (by simp)) ?_)
    rintro _ w103 ⟨rfl, hF104⟩
    replace hH := hH.turns hF104; clear hF104
    replace hH : Hp w w103 _ _ [.blk b1 77 [.int .i64 6, .string (bs nm), .slice Ab bb.length cb, .int .i64 n, .int .i64 m, .slice Ak ks.length ck], .row (.slice A83 ks.length c84) 3 1 ks.length (iv ks), .grp (dskO db mb ab (startD D ks) es2), .grp (rdkO xb rv (startD D ks).off (actsI (startD D ks).ar) part L2), .row (.slice (some ⟨b101, 0, none⟩) 1 1) 22 1 1 [.slice (some ⟨b3, 0, none⟩) bb.length (bb.length + 1)]] := hH
    refine gl_ops 1 [(8, .nilIface), (9, .int .i64 0), (17, .bool true), (18, .bool true)] (by kernel_rfl) ?_
    refine gl_done rfl ?_
    refine sw_next ?_
    refine sw_seq ?_
    refine sw_region ?_  -- R35 law.go:76
    refine gl_ops 6 [(9, .int .i64 0), (161, .bool true), (162, .nilIface)] (by kernel_rfl) ?_
    refine gl_st (st_call rfl rfl rfl (by kernel_rfl) rfl (Code_ct 0 _ (hH.zin _ _ hG)) ?_)
    rintro _ w105 ⟨rfl, hF106⟩
    replace hH := hH.call hF106; clear hF106
    refine gl_ops 2 [(161, .bool true), (165, .bool true)] (by kernel_rfl) ?_
    refine gl_cv 165 (.bool true) (rfl) rfl ?_
    refine gl_ops 2 [(6, .bool true)] (by kernel_rfl) ?_
    refine gl_done rfl ?_
    refine sw_next ?_
    refine sw_ret ?_
    refine ret1 rfl rfl  ?_
    replace hH : Hp w w105 _ _ [.blk b1 77 [.int .i64 6, .string (bs nm), .slice Ab bb.length cb, .int .i64 n, .int .i64 m, .slice Ak ks.length ck], .row (.slice A83 ks.length c84) 3 1 ks.length (iv ks), .grp (dskO db mb ab (startD D ks) es2), .grp (rdkO xb rv (startD D ks).off (actsI (startD D ks).ar) part L2), .row (.slice (some ⟨b101, 0, none⟩) 1 1) 22 1 1 [.slice (some ⟨b3, 0, none⟩) bb.length (bb.length + 1)]] := hH
    replace hH := hH.pick [2, 3, 0, 1, 4] (by kernel_rfl) (os' := [.grp (dskO db mb ab (startD D ks) es2), .grp (rdkO xb rv (startD D ks).off (actsI (startD D ks).ar) part L2), .blk b1 77 [.int .i64 6, .string (bs nm), .slice Ab bb.length cb, .int .i64 n, .int .i64 m, .slice Ak ks.length ck], .row (.slice A83 ks.length c84) 3 1 ks.length (iv ks), .row (.slice (some ⟨b101, 0, none⟩) 1 1) 22 1 1 [.slice (some ⟨b3, 0, none⟩) bb.length (bb.length + 1)]]) (by kernel_rfl)
    replace hH := (hH.sublist (.cons_cons _ (.cons_cons _ (List.nil_sublist _))))
    replace hH : Hp w w105 _ _ [.grp (dskO db mb ab (startD D ks) es2), .grp (rdkO xb rv (startD D ks).off (actsI (startD D ks).ar) part L2)] := hH
    have hact : actD D 6 nm bb n m ks = startD D ks := by unfold actD; rw [if_neg (by decide), if_neg (by decide), if_pos rfl]
    exact ⟨ab, es2, rv, part, L2, rfl, by rw [hact]; exact inv_same (inv_start hI ks hR2 hL2) (by omega) (by omega), by rw [hact]; exact hH.turned⟩
  try simp only [decide_eq_false_iff_not, beq_eq_false_iff_ne, bne_eq_false_iff_eq, ne_eq, Decidable.not_not, Int.not_lt, Int.not_le, Bool.not_eq_false', beq_iff_eq, bne_iff_ne, decide_eq_true_eq] at hc13
  have hd6 := hc13
  refine sw_seq ?_
  refine sw_region ?_  -- R5 law.go:66
  refine gl_ops 2 [(1, .pointer (some ⟨xb, 0, none⟩)), (5, .pointer (some ⟨b1, 0, none⟩)), (25, .pointer (some ⟨db, 0, none⟩)), (26, .pointer (some ⟨b1, 1, none⟩))] (by kernel_rfl) ?_
  refine gl_q rfl rfl rfl (rd_loadK 2 (by kernel_rfl) hH rfl rfl rfl) ?_
  replace hH : Hp w w5 _ _ ([.grp (dskO db mb ab D es)] ++ [.grp (rdkO xb rv D.off (actsI D.ar) part L), .blk b1 77 [.int .i64 dv, .string (bs nm), .slice Ab bb.length cb, .int .i64 n, .int .i64 m, .slice Ak ks.length ck], .row (.slice (some ⟨b3, 0, none⟩) (bb.length + 1) (bb.length + 1)) 5 1 (bb.length + 1) (bv (bb ++ [77]))]) := hH
  refine gl_st (st_call rfl rfl rfl (by kernel_rfl) rfl (Read_ct db mb ab D es nm M _ hH.mine hI.rep hI.ar hI.good (by omega) hs) ?_)
  rintro _ w109 ⟨v107, rfl, hF110⟩
  replace hH := hH.turns hF110; clear hF110
  replace hH : Hp w w109 _ _ [.grp (rdkO xb rv D.off (actsI D.ar) part L), .blk b1 77 [.int .i64 dv, .string (bs nm), .slice Ab bb.length cb, .int .i64 n, .int .i64 m, .slice Ak ks.length ck], .row (.slice (some ⟨b3, 0, none⟩) (bb.length + 1) (bb.length + 1)) 5 1 (bb.length + 1) (bv (bb ++ [77])), .grp (dskO db mb ab D es), .row v107 5 1 ((readD D nm).1.length) (bv (readD D nm).1)] := hH
  obtain ⟨A111, c112, rfl, hl113, hm114⟩ := hH.row_form 4 rfl
  refine gl_ops 5 [(1, .pointer (some ⟨xb, 0, none⟩)), (5, .pointer (some ⟨b1, 0, none⟩)), (12, .slice A111 ((readD D nm).1.length) c112), (13, errV ((readD D nm).2))] (by kernel_rfl) ?_
  refine gl_done rfl ?_
  refine sw_next ?_
  refine sw_seq ?_
  refine sw_region ?_  -- R6 law.go:67
  refine gl_ops 2 [(12, .slice A111 ((readD D nm).1.length) c112), (13, errV ((readD D nm).2)), (32, .pointer (some ⟨xb, 0, none⟩)), (33, .pointer (some ⟨b1, 1, none⟩))] (by kernel_rfl) ?_
  refine gl_q rfl rfl rfl (rd_loadK 1 (by kernel_rfl) hH rfl rfl rfl) ?_
  replace hH : Hp w w109 _ _ ([.grp (rdkO xb rv D.off (actsI D.ar) part L)] ++ [.blk b1 77 [.int .i64 dv, .string (bs nm), .slice Ab bb.length cb, .int .i64 n, .int .i64 m, .slice Ak ks.length ck], .row (.slice (some ⟨b3, 0, none⟩) (bb.length + 1) (bb.length + 1)) 5 1 (bb.length + 1) (bv (bb ++ [77])), .grp (dskO db mb ab D es), .row (.slice A111 ((readD D nm).1.length) c112) 5 1 ((readD D nm).1.length) (bv (readD D nm).1)]) := hH
  refine gl_st (st_call rfl rfl rfl (by kernel_rfl) rfl (RRead_ct xb _ D part L nm _ hH.mine hI.fst hs (fun f hf => Nat.le_trans (hI.good.short f hf) (by omega))) ?_)
  rintro _ w117 ⟨v115, rfl, hF118⟩
  replace hH := hH.turns hF118; clear hF118
  replace hH : Hp w w117 _ _ [.blk b1 77 [.int .i64 dv, .string (bs nm), .slice Ab bb.length cb, .int .i64 n, .int .i64 m, .slice Ak ks.length ck], .row (.slice (some ⟨b3, 0, none⟩) (bb.length + 1) (bb.length + 1)) 5 1 (bb.length + 1) (bv (bb ++ [77])), .grp (dskO db mb ab D es), .row (.slice A111 ((readD D nm).1.length) c112) 5 1 ((readD D nm).1.length) (bv (readD D nm).1), .grp (rdkO xb rv D.off (actsI D.ar) part L), .row v115 5 1 ((readD D nm).1.length) (bv (readD D nm).1)] := hH
  obtain ⟨A119, c120, rfl, hl121, hm122⟩ := hH.row_form 5 rfl
  refine gl_ops 5 [(12, .slice A111 ((readD D nm).1.length) c112), (13, errV ((readD D nm).2)), (14, .slice A119 ((readD D nm).1.length) c120), (15, .int .i64 (((readD D nm).2 : Nat) : Int))] (by kernel_rfl) ?_
  refine gl_done rfl ?_
  refine sw_next ?_
  refine sw_seq ?_
  refine sw_region ?_  -- R7 law.go:68
  refine gl_ops 1 [(12, .slice A111 ((readD D nm).1.length) c112), (13, errV ((readD D nm).2)), (14, .slice A119 ((readD D nm).1.length) c120), (15, .int .i64 (((readD D nm).2 : Nat) : Int)), (38, .slice A111 ((readD D nm).1.length) c112)] (by kernel_rfl) ?_
  refine gl_q rfl rfl rfl (rd_str (e := 5) (by kernel_rfl) (by kernel_rfl) (by kernel_rfl) rfl (rb_own hH 3 rfl)) ?_
  refine gl_ops 1 [(12, .slice A111 ((readD D nm).1.length) c112), (13, errV ((readD D nm).2)), (15, .int .i64 (((readD D nm).2 : Nat) : Int)), (39, .string (bs ((readD D nm).1))), (40, .slice A119 ((readD D nm).1.length) c120)] (by kernel_rfl) ?_
  refine gl_q rfl rfl rfl (rd_str (e := 5) (by kernel_rfl) (by kernel_rfl) (by kernel_rfl) rfl (rb_own hH 5 rfl)) ?_
  refine gl_q rfl rfl rfl (rd_seql (by kernel_rfl) rfl rfl) ?_
  refine gl_cv 42 (.bool true) (by rw [beq_self_eq_true]) rfl ?_
  refine gl_ops 1 [(12, .slice A111 ((readD D nm).1.length) c112), (13, errV ((readD D nm).2)), (15, .int .i64 (((readD D nm).2 : Nat) : Int)), (16, .bool true)] (by kernel_rfl) ?_
  refine gl_done rfl ?_
  refine sw_next ?_
  refine sw_seq ?_
  refine sw_region ?_  -- R8 law.go:69
  refine gl_ops 3 [(12, .slice A111 ((readD D nm).1.length) c112), (15, .int .i64 (((readD D nm).2 : Nat) : Int)), (44, .bool true), (45, errV ((readD D nm).2))] (by kernel_rfl) ?_
  refine gl_st (st_call rfl rfl rfl (by kernel_rfl) rfl (Code_ct ((readD D nm).2) _ (hH.zin _ _ hG)) ?_)
  rintro _ w123 ⟨rfl, hF124⟩
  replace hH := hH.call hF124; clear hF124
  refine gl_ops 2 [(12, .slice A111 ((readD D nm).1.length) c112), (44, .bool true), (48, .bool ((((readD D nm).2 : Nat) : Int) == (((readD D nm).2 : Nat) : Int)))] (by kernel_rfl) ?_
  refine gl_cv 48 (.bool true) (by rw [beq_self_eq_true]) rfl ?_
  refine gl_ops 3 [(50, .bool true), (51, .slice A111 ((readD D nm).1.length) c112)] (by kernel_rfl) ?_
  refine gl_st (st_buildS (e := 22) (zv := .slice none 0 0) (m := 1) (bytes := 24) rfl rfl rfl (by kernel_rfl) (by kernel_rfl) rfl (cs := [.slice A111 ((readD D nm).1.length) c112]) (by kernel_rfl) rfl hH ?_)
  clear hH; intro b125 w126 hH
  replace hH : Hp w w126 _ _ [.blk b1 77 [.int .i64 dv, .string (bs nm), .slice Ab bb.length cb, .int .i64 n, .int .i64 m, .slice Ak ks.length ck], .row (.slice (some ⟨b3, 0, none⟩) (bb.length + 1) (bb.length + 1)) 5 1 (bb.length + 1) (bv (bb ++ [77])), .grp (dskO db mb ab D es), .row (.slice A111 ((readD D nm).1.length) c112) 5 1 ((readD D nm).1.length) (bv (readD D nm).1), .grp (rdkO xb rv D.off (actsI D.ar) part L), .row (.slice A119 ((readD D nm).1.length) c120) 5 1 ((readD D nm).1.length) (bv (readD D nm).1), .row (.slice (some ⟨b125, 0, none⟩) 1 1) 22 1 1 [.slice A111 ((readD D nm).1.length) c112]] := hH
  replace hH : Hp w w126 _ _ [.blk b1 77 [.int .i64 dv, .string (bs nm), .slice Ab bb.length cb, .int .i64 n, .int .i64 m, .slice Ak ks.length ck], .row (.slice (some ⟨b3, 0, none⟩) (bb.length + 1) (bb.length + 1)) 5 1 (bb.length + 1) (bv (bb ++ [77])), .grp (dskO db mb ab D es), .row (.slice A111 ((readD D nm).1.length) c112) 5 1 ((readD D nm).1.length) (bv (readD D nm).1), .grp (rdkO xb rv D.off (actsI D.ar) part L), .row (.slice A119 ((readD D nm).1.length) c120) 5 1 ((readD D nm).1.length) (bv (readD D nm).1), .row (.slice (some ⟨b125, 0, none⟩) 1 1) 22 1 1 [.slice A111 ((readD D nm).1.length) c112]] := hH
  replace hH := hH.pick [3, 0, 1, 2, 4, 5, 6] (by kernel_rfl) (os' := [.row (.slice A111 ((readD D nm).1.length) c112) 5 1 ((readD D nm).1.length) (bv (readD D nm).1), .blk b1 77 [.int .i64 dv, .string (bs nm), .slice Ab bb.length cb, .int .i64 n, .int .i64 m, .slice Ak ks.length ck], .row (.slice (some ⟨b3, 0, none⟩) (bb.length + 1) (bb.length + 1)) 5 1 (bb.length + 1) (bv (bb ++ [77])), .grp (dskO db mb ab D es), .grp (rdkO xb rv D.off (actsI D.ar) part L), .row (.slice A119 ((readD D nm).1.length) c120) 5 1 ((readD D nm).1.length) (bv (readD D nm).1), .row (.slice (some ⟨b125, 0, none⟩) 1 1) 22 1 1 [.slice A111 ((readD D nm).1.length) c112]]) (by kernel_rfl)
  replace hH := row_any hH
  replace hH := rows1 hH
  replace hH : Hp w w126 _ _ [.grp ([Value.slice A111 ((readD D nm).1.length) c112].map (anyO 5)), .blk b1 77 [.int .i64 dv, .string (bs nm), .slice Ab bb.length cb, .int .i64 n, .int .i64 m, .slice Ak ks.length ck], .row (.slice (some ⟨b3, 0, none⟩) (bb.length + 1) (bb.length + 1)) 5 1 (bb.length + 1) (bv (bb ++ [77])), .grp (dskO db mb ab D es), .grp (rdkO xb rv D.off (actsI D.ar) part L), .row (.slice A119 ((readD D nm).1.length) c120) 5 1 ((readD D nm).1.length) (bv (readD D nm).1), .row (.slice (some ⟨b125, 0, none⟩) 1 1) 22 1 1 [.slice A111 ((readD D nm).1.length) c112]] := hH
  replace hH : Hp w w126 _ _ ([.grp ([Value.slice A111 ((readD D nm).1.length) c112].map (anyO 5))] ++ [.blk b1 77 [.int .i64 dv, .string (bs nm), .slice Ab bb.length cb, .int .i64 n, .int .i64 m, .slice Ak ks.length ck], .row (.slice (some ⟨b3, 0, none⟩) (bb.length + 1) (bb.length + 1)) 5 1 (bb.length + 1) (bv (bb ++ [77])), .grp (dskO db mb ab D es), .grp (rdkO xb rv D.off (actsI D.ar) part L), .row (.slice A119 ((readD D nm).1.length) c120) 5 1 ((readD D nm).1.length) (bv (readD D nm).1), .row (.slice (some ⟨b125, 0, none⟩) 1 1) 22 1 1 [.slice A111 ((readD D nm).1.length) c112]]) := hH
  refine gl_st (st_call rfl rfl rfl (by kernel_rfl) rfl (Owned_ct _ [Value.slice A111 ((readD D nm).1.length) c112] _ hH.mine (zoff_row (mine := [.grp ([Value.slice A111 ((readD D nm).1.length) c112].map (anyO 5))]) hH 5 rfl) (by simp)) ?_)
  rintro _ w127 ⟨rfl, hF128⟩
  replace hH := hH.turns hF128; clear hF128
  replace hH : Hp w w127 _ _ [.blk b1 77 [.int .i64 dv, .string (bs nm), .slice Ab bb.length cb, .int .i64 n, .int .i64 m, .slice Ak ks.length ck], .row (.slice (some ⟨b3, 0, none⟩) (bb.length + 1) (bb.length + 1)) 5 1 (bb.length + 1) (bv (bb ++ [77])), .grp (dskO db mb ab D es), .grp (rdkO xb rv D.off (actsI D.ar) part L), .row (.slice A119 ((readD D nm).1.length) c120) 5 1 ((readD D nm).1.length) (bv (readD D nm).1), .row (.slice (some ⟨b125, 0, none⟩) 1 1) 22 1 1 [.slice A111 ((readD D nm).1.length) c112]] := hH
  refine gl_ops 2 [(6, .bool true)] (by kernel_rfl) ?_
  refine gl_done rfl ?_
  refine sw_next ?_
  refine sw_ret ?_
  refine bkR ?_
  refine thR ?_
  refine ret1 rfl rfl  ?_
  replace hH : Hp w w127 _ _ [.blk b1 77 [.int .i64 dv, .string (bs nm), .slice Ab bb.length cb, .int .i64 n, .int .i64 m, .slice Ak ks.length ck], .row (.slice (some ⟨b3, 0, none⟩) (bb.length + 1) (bb.length + 1)) 5 1 (bb.length + 1) (bv (bb ++ [77])), .grp (dskO db mb ab D es), .grp (rdkO xb rv D.off (actsI D.ar) part L), .row (.slice A119 ((readD D nm).1.length) c120) 5 1 ((readD D nm).1.length) (bv (readD D nm).1), .row (.slice (some ⟨b125, 0, none⟩) 1 1) 22 1 1 [.slice A111 ((readD D nm).1.length) c112]] := hH
  replace hH := hH.pick [2, 3, 0, 1, 4, 5] (by kernel_rfl) (os' := [.grp (dskO db mb ab D es), .grp (rdkO xb rv D.off (actsI D.ar) part L), .blk b1 77 [.int .i64 dv, .string (bs nm), .slice Ab bb.length cb, .int .i64 n, .int .i64 m, .slice Ak ks.length ck], .row (.slice (some ⟨b3, 0, none⟩) (bb.length + 1) (bb.length + 1)) 5 1 (bb.length + 1) (bv (bb ++ [77])), .row (.slice A119 ((readD D nm).1.length) c120) 5 1 ((readD D nm).1.length) (bv (readD D nm).1), .row (.slice (some ⟨b125, 0, none⟩) 1 1) 22 1 1 [.slice A111 ((readD D nm).1.length) c112]]) (by kernel_rfl)
  replace hH := (hH.sublist (.cons_cons _ (.cons_cons _ (List.nil_sublist _))))
  replace hH : Hp w w127 _ _ [.grp (dskO db mb ab D es), .grp (rdkO xb rv D.off (actsI D.ar) part L)] := hH
  have hact : actD D dv nm bb n m ks = D := by unfold actD; rw [if_neg (by omega), if_neg (by omega), if_neg (by omega)]
  exact ⟨ab, es, rv, part, L, rfl, by rw [hact]; exact inv_same hI (by omega) (by omega), by rw [hact]; exact hH.turned⟩
end Go.Proofs.YtjcchjgkkplamaaDoor
