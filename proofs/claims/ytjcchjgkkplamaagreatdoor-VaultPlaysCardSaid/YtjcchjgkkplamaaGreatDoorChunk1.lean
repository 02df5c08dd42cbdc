/- slices.Collect(slices.Chunk(b, 512)): the parts of a row of bytes, in a row. -/
import Derived.Test.YtjcchjgkkplamaaGreatDoorChunk
set_option maxRecDepth 100000
set_option maxHeartbeats 2000000
set_option linter.unusedVariables false
set_option linter.unusedSimpArgs false
namespace Go.Proofs.YtjcchjgkkplamaaGreatDoor
open Go.RowKit Go.SW

theorem Chunk1_ct (l : Nat) (J : List SlV → World → Prop) (Bs Bn : Nat) (A : Option Addr) (cap : Nat) (b : List UInt8) (w W : World) (hb : RB w.cell? (.slice A b.length cap) b) (hbl : b.length ≤ 140737488355328) (hs : w.cell? ⟨Bs, 0, none⟩ = some (.slice A b.length cap)) (hn : w.cell? ⟨Bn, 0, none⟩ = some (.int .i64 512))
    (hW : Below w.heap.size w W) (hA : AbidesFrom W.heap.size J) (hJB : ∀ s W1, J s W1 → Below w.heap.size w W1)
    (hY : ∀ pre x W1, J pre W1 → pre.length < nch b.length → YieldAt Fence.wide 1 Tryz.prog l #[slv x] W1 fun e W' => e = .returned (.bool true) ∧ J (pre ++ [x]) W') (h0 : J [] W) :
    Fun Tryz.prog 81 [.func (.yield l) #[] #[], .pointer (some ⟨Bs, 0, none⟩), .pointer (some ⟨Bn, 0, none⟩)] W fun v W' => J ((List.range (nch b.length)).map (chunkV A b.length)) W'  := by
  refine fun_of_sw Tryz.func81 rfl 31 rfl rfl ?_
  have hH := hp_of_below hW
  obtain ⟨_, _, hAe, hb1, hb2⟩ := hb.row.form
  cases hAe
  refine sw_sr ?_
  refine gl_ops 1 [(0, .func (.yield l) #[] #[]), (1, .pointer (some ⟨Bs, 0, none⟩)), (2, .pointer (some ⟨Bn, 0, none⟩)), (4, .int .i64 0)] (by kernel_rfl) ?_
  refine gl_dn rfl ?_
  refine sw_block ?_
  refine sw_loop (γ := Nat) (fun k => [(0, .func (.yield l) #[] #[]), (1, .pointer (some ⟨Bs, 0, none⟩)), (2, .pointer (some ⟨Bn, 0, none⟩)), (4, Ni (512 * k))]) (fun k w_ => (k ≤ nch b.length) ∧ (J ((List.range k).map (chunkV A b.length)) w_) ∧ Hp w w_ (w.cell?) [] []) (fun k => nch b.length - k) (0) (Sub.of_eq (by kernel_rfl)) ?_ ?_
  · exact ⟨by omega, h0, hH⟩
  clear hH
  rintro k w1 ⟨hk, hJ, hH⟩
  refine sw_keep [(0, .func (.yield l) #[] #[]), (1, .pointer (some ⟨Bs, 0, none⟩)), (2, .pointer (some ⟨Bn, 0, none⟩)), (4, Ni (512 * k))] (by kernel_rfl) ?_
  refine sw_seq ?_
  refine sw_sr ?_
  refine gl_ops 1 [(0, .func (.yield l) #[] #[]), (1, .pointer (some ⟨Bs, 0, none⟩)), (2, .pointer (some ⟨Bn, 0, none⟩)), (4, Ni (512 * k)), (6, Ni (512 * k))] (by kernel_rfl) ?_
  refine gl_q rfl rfl rfl (rd_load (by kernel_rfl) rfl (hH.zin _ _ hs)) ?_
  refine gl_q rfl rfl rfl (rd_len (e := 5) (by kernel_rfl) rfl) ?_
  refine gl_ops 1 [(0, .func (.yield l) #[] #[]), (1, .pointer (some ⟨Bs, 0, none⟩)), (2, .pointer (some ⟨Bn, 0, none⟩)), (4, Ni (512 * k)), (9, .bool (decide (((512 * k : Nat) : Int) < ((b.length : Nat) : Int))))] (by kernel_rfl) ?_
  refine gl_dn rfl ?_
  refine sw_cond rfl rfl (fun hc1 => ?_) (fun hc1 => ?_)
  ·
    try simp only [decide_eq_true_eq] at hc1
    refine sw_skip ?_
    refine sw_next ?_
    refine sw_seq ?_
    refine sw_block ?_
    refine sw_seq ?_
    refine sw_draw (by kernel_rfl) (fun w_ => Hp w w_ (w.cell?) [] []) ?_
    replace hH := hH.drew
    replace hJ := hA _ _ { w1 with drawn := w1.drawn + 1 } none hJ ⟨rfl, rfl, rfl, Nat.le_refl _, fun _ _ _ => rfl⟩ (fun r e => by cases e)
    generalize { w1 with drawn := w1.drawn + 1 } = w2 at hH hJ ⊢
    have hS9 := hH.sublist (List.nil_sublist _)
    refine gd_q 0 rfl (by kernel_rfl) (PQ.th (PQ.bk (PQ.th (PQ.th (PQ.bk PQ.body))))) hS9 rfl rfl (fun w_ hS => (rd_load (by kernel_rfl) rfl (hS.zin _ _ hn))) ?_
    refine gd_q 1 rfl (by kernel_rfl) (PQ.th (PQ.bk (PQ.th (PQ.th (PQ.bk PQ.body))))) hS9 rfl rfl (fun w_ hS => (rd_load (by kernel_rfl) rfl (hS.zin _ _ hs))) ?_
    refine gd_pure 2 rfl (by kernel_rfl) (PQ.th (PQ.bk (PQ.th (PQ.th (PQ.bk PQ.body))))) hS9 rfl rfl (Ni (512 * k)) (by kernel_rfl) ?_
    refine gd_keep [(0, .func (.yield l) #[] #[]), (1, .pointer (some ⟨Bs, 0, none⟩)), (2, .pointer (some ⟨Bn, 0, none⟩)), (4, Ni (512 * k)), (13, .int .i64 512), (14, .slice A b.length cap), (15, Ni (512 * k))] (by kernel_rfl) ?_
    obtain ⟨A3, hk4, hv5⟩ := hb.row.cut (by decide) (512 * k) b.length (by omega) (by omega)
    refine gd_q 3 rfl (by kernel_rfl) (PQ.th (PQ.bk (PQ.th (PQ.th (PQ.bk PQ.body))))) hS9 rfl rfl (fun w_ hS => (rd_cut (e := 5) (m := 1) (by kernel_rfl) (by kernel_rfl) rfl (.inr ⟨_, _, rfl, rfl⟩) (.inl ⟨rfl, rfl⟩) hk4)) ?_
    have hr6 := RB.tail hv5
    refine gd_q 4 rfl (by kernel_rfl) (PQ.th (PQ.bk (PQ.th (PQ.th (PQ.bk PQ.body))))) hS9 rfl rfl (fun w_ hS => (rd_len (e := 5) (by kernel_rfl) rfl)) ?_
    refine gd_pure 5 rfl (by kernel_rfl) (PQ.th (PQ.bk (PQ.th (PQ.th (PQ.bk PQ.body))))) hS9 rfl rfl (.int .i64 (if ((b.length - (512 * k) : Nat) : Int) < 512 then ((b.length - (512 * k) : Nat) : Int) else 512)) (by kernel_rfl) ?_
    refine gd_cv 18 (Ni (min 512 (b.length - (512 * k)))) (cv_minN) rfl ?_
    refine gd_keep [(0, .func (.yield l) #[] #[]), (1, .pointer (some ⟨Bs, 0, none⟩)), (2, .pointer (some ⟨Bn, 0, none⟩)), (4, Ni (512 * k)), (18, Ni (min 512 (b.length - (512 * k))))] (by kernel_rfl) ?_
    refine gd_pure 6 rfl (by kernel_rfl) (PQ.th (PQ.bk (PQ.th (PQ.th (PQ.bk PQ.body))))) hS9 rfl rfl (Ni (min 512 (b.length - (512 * k)))) (by kernel_rfl) ?_
    refine gd_done (by kernel_rfl) ?_
    refine at_sub [(0, .func (.yield l) #[] #[]), (1, .pointer (some ⟨Bs, 0, none⟩)), (2, .pointer (some ⟨Bn, 0, none⟩)), (4, Ni (512 * k)), (5, Ni (min 512 (b.length - (512 * k))))] (Sub.of_eq (by kernel_rfl)) ?_
    refine sw_next ?_
    refine sw_seq ?_
    refine sw_regionI ?_
    refine gli_pure rfl rfl rfl (.func (.yield l) #[] #[]) (by kernel_rfl) ?_
    refine gli_q rfl rfl rfl (rd_load (by kernel_rfl) rfl (hH.zin _ _ hs)) ?_
    refine gli_pure rfl rfl rfl (Ni (512 * k)) (by kernel_rfl) ?_
    refine gli_pure rfl rfl rfl (Ni (512 * k)) (by kernel_rfl) ?_
    refine gli_pure rfl rfl rfl (Ni (min 512 (b.length - (512 * k)))) (by kernel_rfl) ?_
    refine gli_pure rfl rfl rfl (.int .i64 (IntKind.i64.wrap (((512 * k : Nat) : Int) + (((min 512 (b.length - (512 * k))) : Nat) : Int)))) (by kernel_rfl) ?_
    refine gli_cv 24 (Ni ((512 * k) + (min 512 (b.length - (512 * k))))) (cv_i64 (by omega)) rfl ?_
    refine gli_pure rfl rfl rfl (Ni (512 * k)) (by kernel_rfl) ?_
    refine gli_pure rfl rfl rfl (Ni (min 512 (b.length - (512 * k)))) (by kernel_rfl) ?_
    refine gli_pure rfl rfl rfl (.int .i64 (IntKind.i64.wrap (((512 * k : Nat) : Int) + (((min 512 (b.length - (512 * k))) : Nat) : Int)))) (by kernel_rfl) ?_
    refine gli_cv 27 (Ni ((512 * k) + (min 512 (b.length - (512 * k))))) (cv_i64 (by omega)) rfl ?_
    refine gli_q rfl rfl rfl (rd_cut3 (e := 5) (m := 1) (by kernel_rfl) (by kernel_rfl) rfl (.inr ⟨_, _, rfl, rfl⟩) rfl rfl (cut_chunk (by omega) (by omega))) ?_
    refine gli_yield rfl rfl rfl rfl rfl (hY ((List.range k).map (chunkV A b.length)) (chunkV A b.length k) _ hJ (by rw [List.length_map, List.length_range]; unfold nch; omega)) ?_
    clear hH; rintro _ w7 ⟨rfl, hJ⟩
    refine ⟨_, rfl, ?_⟩
    have hH := hp_of_below (hJB _ _ hJ)
    rw [show (List.range k).map (chunkV A b.length) ++ [chunkV A b.length k] = (List.range (k + 1)).map (chunkV A b.length) from by rw [List.range_succ, List.map_append]; rfl] at hJ
    refine gli_pure rfl rfl rfl (.bool false) (by kernel_rfl) ?_
    refine gli_done rfl ?_
    refine sw_next ?_
    refine sw_false rfl rfl ?_
    refine sw_skip ?_
    refine bkN ?_
    refine sw_next ?_
    refine sw_region ?_
    refine gl_ops 1 [(0, .func (.yield l) #[] #[]), (1, .pointer (some ⟨Bs, 0, none⟩)), (2, .pointer (some ⟨Bn, 0, none⟩)), (10, Ni (512 * k))] (by kernel_rfl) ?_
    refine gl_q rfl rfl rfl (rd_load (by kernel_rfl) rfl (hH.zin _ _ hn)) ?_
    refine gl_ops 1 [(0, .func (.yield l) #[] #[]), (1, .pointer (some ⟨Bs, 0, none⟩)), (2, .pointer (some ⟨Bn, 0, none⟩)), (12, .int .i64 (IntKind.i64.wrap (((512 * k : Nat) : Int) + 512)))] (by kernel_rfl) ?_
    refine gl_cv 12 (Ni ((512 * k) + 512)) (cv_i64 (by omega)) rfl ?_
    refine gl_ops 1 [(0, .func (.yield l) #[] #[]), (1, .pointer (some ⟨Bs, 0, none⟩)), (2, .pointer (some ⟨Bn, 0, none⟩)), (4, Ni ((512 * k) + 512))] (by kernel_rfl) ?_
    refine gl_done rfl ?_
    refine rnd_end (g := (k)) (k + 1) (by kernel_rfl) ?_ ?_
    · exact ⟨by unfold nch at *; omega, hJ, hH⟩
    · show nch b.length - (k + 1) < nch b.length - k; unfold nch at *; omega
  try simp only [decide_eq_false_iff_not, Int.not_lt, Int.not_le] at hc1
  refine sw_exit ?_
  refine thX ?_
  refine thX ?_
  refine bkH ?_
  refine end0 rfl ?_
  rw [show nch b.length = k from by unfold nch at *; omega]; exact hJ
theorem Chunk_ct (vb : Value) (b : List UInt8) (w : World) (hb : RB w.cell? vb b) :
    Fun Tryz.prog 50 [vb, .int .i64 512] w fun v w' => ∃ b1 b2, v = .func (.func 81) #[] #[.pointer (some ⟨b1, 0, none⟩), .pointer (some ⟨b2, 0, none⟩)] ∧ Fresh w w' [.blk b1 22 [vb], .blk b2 3 [.int .i64 512]] := by
  obtain ⟨Ab, cb, rfl, hb1, hb2⟩ := hb.row.form
  refine fun_of_sw Tryz.func50 rfl 9 rfl rfl ?_
  have hH := Hp.start w
  refine sw_sr ?_
  refine gl_st (st_boxH (cs := [.slice Ab b.length cb]) rfl rfl rfl rfl hH ?_)
  clear hH; intro b1 w2 hH
  refine gl_st (st_boxH (cs := [.int .i64 512]) rfl rfl rfl rfl hH ?_)
  clear hH; intro b3 w4 hH
  refine gl_ops 1 [(2, Pp b1 0), (3, Pp b3 0)] (by kernel_rfl) ?_
  refine gl_dn rfl ?_
  refine sw_seq ?_
  refine sw_sr ?_
  refine gl_q rfl rfl rfl (rd_loadK 1 (by kernel_rfl) hH rfl rfl rfl) ?_
  refine gl_ops 1 [(2, Pp b1 0), (3, Pp b3 0), (6, .bool false)] (by kernel_rfl) ?_
  refine gl_dn rfl ?_
  refine sw_false rfl rfl ?_
  refine sw_skip ?_
  refine sw_next ?_
  refine sw_sr ?_
  refine gl_ops 2 [(4, .func (.func 81) #[] #[Pp b1 0, Pp b3 0])] (by kernel_rfl) ?_
  refine gl_dn rfl ?_
  refine sw_ret ?_
  refine ret1 rfl rfl  ?_
  exact ⟨_, _, rfl, hH.fresh⟩
theorem AppendSeq_ct (Bs Bn : Nat) (A : Option Addr) (cap : Nat) (b : List UInt8) (w : World) (hb : RB w.cell? (.slice A b.length cap) b) (hbl : b.length ≤ 140737488355328) (hs : w.cell? ⟨Bs, 0, none⟩ = some (.slice A b.length cap)) (hn : w.cell? ⟨Bn, 0, none⟩ = some (.int .i64 512)) :
    Fun Tryz.prog 80 [.slice none 0 0, .func (.func 81) #[] #[.pointer (some ⟨Bs, 0, none⟩), .pointer (some ⟨Bn, 0, none⟩)]] w fun v w' => ∃ v1, v = v1 ∧ Fresh w w' [.row v1 22 1 (nch b.length) ((List.range (nch b.length)).map fun k => slv (chunkV A b.length k))] := by
  have hseq : SeqB Tryz.prog 81 #[.pointer (some ⟨Bs, 0, none⟩), .pointer (some ⟨Bn, 0, none⟩)] (fun ss => ss = (List.range (nch b.length)).map (chunkV A b.length)) (nch b.length) w := by
    intro l J W hW hA hJB hY h0
    refine callsIn_wide.2 ?_
    have h := Chunk1_ct l J Bs Bn A cap b w W hb hbl hs hn hW hA hJB hY h0
    refine Calls.mono h ?_
    rintro e W' ⟨v, rfl, hJ⟩
    exact ⟨⟨v, rfl⟩, _, rfl, hJ⟩
  have hin := appendSeq_in 81 #[.pointer (some ⟨Bs, 0, none⟩), .pointer (some ⟨Bn, 0, none⟩)] (run_callFunc_of (by kernel_rfl)) _ (nch b.length) (by unfold nch maxLen; omega) (by unfold nch; omega) w hseq
  refine Calls.mono (callsIn_wide.1 hin) ?_
  rintro e w' ⟨v, ss, rfl, rfl, hrow, -, hb⟩
  refine ⟨v, rfl, v, rfl, Fresh.row hb ?_⟩
  rw [List.length_map, List.length_range, List.map_map] at hrow
  exact hrow

theorem Collect_ct (Bs Bn : Nat) (A : Option Addr) (cap : Nat) (b : List UInt8) (w : World) (hb : RB w.cell? (.slice A b.length cap) b) (hbl : b.length ≤ 140737488355328) (hs : w.cell? ⟨Bs, 0, none⟩ = some (.slice A b.length cap)) (hn : w.cell? ⟨Bn, 0, none⟩ = some (.int .i64 512)) :
    Fun Tryz.prog 49 [.func (.func 81) #[] #[.pointer (some ⟨Bs, 0, none⟩), .pointer (some ⟨Bn, 0, none⟩)]] w fun v w' => ∃ v1, v = v1 ∧ Fresh w w' [.row v1 22 1 (nch b.length) ((List.range (nch b.length)).map fun k => slv (chunkV A b.length k))] := by
  refine fun_of_sw Tryz.func49 rfl 5 rfl rfl ?_
  have hH := Hp.start w
  refine sw_sr ?_
  refine gl_ops 1 [(0, .func (.func 81) #[] #[.pointer (some ⟨Bs, 0, none⟩), .pointer (some ⟨Bn, 0, none⟩)])] (by kernel_rfl) ?_
  refine gl_dn rfl ?_
  refine sw_sr ?_
  refine gl_ops 1 [(3, .func (.func 81) #[] #[.pointer (some ⟨Bs, 0, none⟩), .pointer (some ⟨Bn, 0, none⟩)])] (by kernel_rfl) ?_
  refine gl_st (st_call rfl rfl rfl (by kernel_rfl) rfl (AppendSeq_ct Bs Bn A cap b _ (hb.mono hH.zin) hbl (hH.zin _ _ hs) (hH.zin _ _ hn)) ?_)
  rintro _ w1 ⟨v9, rfl, hF2⟩
  replace hH := hH.call hF2; clear hF2
  obtain ⟨A3, c4, rfl, hl5, hm6⟩ := hH.row_form 0 rfl
  refine gl_ops 1 [(2, .slice A3 (nch b.length) c4)] (by kernel_rfl) ?_
  refine gl_dn rfl ?_
  refine sw_ret ?_
  refine ret1 rfl rfl  ?_
  exact ⟨_, rfl, hH.fresh⟩
theorem chunkRow_get (A : Option Addr) (n m j : Nat) (h : j < m) : ((List.range m).map fun k => slv (chunkV A n k))[j * 1 + 0]? = some (slv (chunkV A n j)) := by
  simp [h]

end Go.Proofs.YtjcchjgkkplamaaGreatDoor
