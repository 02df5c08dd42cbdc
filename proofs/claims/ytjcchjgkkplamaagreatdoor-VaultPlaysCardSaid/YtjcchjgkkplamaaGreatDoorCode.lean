/- api.Code: the code of an error: what it answers. -/
import Derived.Test.YtjcchjgkkplamaaGreatDoorCalc
import Derived.Test.YtjcchjgkkplamaaGreatDoorAs
set_option maxRecDepth 100000
set_option maxHeartbeats 2000000
set_option linter.unusedVariables false
set_option linter.unusedSimpArgs false
namespace Go.Proofs.YtjcchjgkkplamaaGreatDoor
open Go.RowKit Go.SW

theorem Code_ct (e : Nat) (w : World) (hG : w.cell? ⟨0, 0, none⟩ = some errTy) :
    Fun Tryz.prog 12 [errV e] w fun v w' => v = .int .i64 (e : Nat) ∧ Fresh w w' [] := by
  refine fun_of_sw Tryz.func12 rfl 10 rfl rfl ?_
  have hH := Hp.start w
  refine sw_sr ?_
  refine gl_ops 1 [(0, errV e)] (by kernel_rfl) ?_
  refine gl_dn rfl ?_
  refine sw_seq ?_
  refine sw_sr ?_
  refine gl_ops 1 [(0, errV e), (4, errV e)] (by kernel_rfl) ?_
  refine gl_q rfl rfl rfl (rd_err_eq (by kernel_rfl) rfl) ?_
  refine gl_dn rfl ?_
  refine sw_cond rfl rfl (fun hc1 => ?_) (fun hc1 => ?_)
  ·
    try simp only [beq_iff_eq] at hc1
    subst hc1
    refine sw_sr ?_
    refine gl_ops 1 [(2, .int .i64 0)] (by kernel_rfl) ?_
    refine gl_dn rfl ?_
    refine sw_ret ?_
    refine thR ?_
    refine ret1 rfl rfl  ?_
    exact ⟨rfl, hH.fresh⟩
  try simp only [beq_eq_false_iff_ne, ne_eq] at hc1
  refine sw_skip ?_
  refine sw_next ?_
  refine sw_sr ?_
  refine gl_st (st_allocH rfl rfl rfl (cs := [.int .i64 0]) (by kernel_rfl) hH ?_)
  clear hH; intro b1 w2 hH
  refine gl_dn rfl ?_
  refine sw_seq ?_
  refine sw_sr ?_
  refine gl_ops 1 [(3, Pp b1 0), (6, errV e)] (by kernel_rfl) ?_
  refine gl_cv 6 (.iface 37 (Ni e)) (errW_pos hc1) rfl ?_
  refine gl_ops 1 [(3, Pp b1 0), (6, .iface 37 (Ni e)), (7, .iface 89 (Pp b1 0))] (by kernel_rfl) ?_
  replace hH : Hp w w2 _ _ ([.blk b1 37 [.int .i64 0]] ++ []) := hH
  refine gl_st (st_call rfl rfl rfl (by kernel_rfl) rfl (As_ct _ _ _ hH.mine (hH.zoff _ _ hG)) ?_)
  rintro _ w3 ⟨rfl, hF4⟩
  replace hH := hH.turns hF4; clear hF4
  replace hH : Hp w w3 _ _ [.blk b1 37 [Ni e]] := hH
  refine gl_dn rfl ?_
  refine sw_true rfl rfl ?_
  refine sw_sr ?_
  refine gl_q rfl rfl rfl (rd_loadK 0 (by kernel_rfl) hH rfl rfl rfl) ?_
  refine gl_ops 1 [(2, Ni e)] (by kernel_rfl) ?_
  refine gl_dn rfl ?_
  refine sw_ret ?_
  refine thR ?_
  refine ret1 rfl rfl  ?_
  exact ⟨rfl, (hH.sublist (List.nil_sublist _)).fresh⟩
end Go.Proofs.YtjcchjgkkplamaaGreatDoor
