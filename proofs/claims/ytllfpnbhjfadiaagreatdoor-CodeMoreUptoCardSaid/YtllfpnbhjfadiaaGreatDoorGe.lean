/- Ge: several texts in one. -/
import Derived.Test.YtllfpnbhjfadiaaGreatDoorGd
import Derived.Test.YtllfpnbhjfadiaaGreatDoorGb
import Derived.Test.YtllfpnbhjfadiaaGreatDoorGa
import Derived.Test.YtllfpnbhjfadiaaGreatDoorIter
import Derived.Test.YtllfpnbhjfadiaaGreatDoorProg
/- Layer 5 (printer): a grammar's source: what the program's functions answer. -/
set_option maxRecDepth 100000
set_option maxHeartbeats 2000000
set_option linter.unusedVariables false
set_option linter.unusedSimpArgs false
namespace Go.Proofs.YtllfpnbhjfadiaaGreatDoor
open Go.RowKit Go.SW

theorem StrO_ct (g T q cap : Nat) (a : Value) (l : List UInt8) (cur : Array Value) (fz : Nat × Nat) (w : World) (hM : Mine w [.blk g T [a, .slice (some ⟨q, 0, none⟩) l.length cap], .obj q (.cells cur 5 fz)]) (h0 : l ≠ []) (hcap : cap ≠ 0) (hby : Byts cur l) :
    Fun Tryz.prog 123 [Pp g 0] w fun x w' => ∃ f2, x = .string (bs l) ∧ Turn w w' [.blk g T [a, .slice (some ⟨q, 0, none⟩) l.length cap], .obj q (.cells cur 5 fz)] [.blk g T [a, .slice (some ⟨q, 0, none⟩) l.length cap], .obj q (.cells cur 5 f2)] := by
 refine fun_of_sw Tryz.func123 rfl 14 rfl rfl ?_
 have hH := Hp.start_mine hM
 refine sw_sr <| Go0 1 <| Dn <| sw_seq <| Dr hH (slk sln) ?_
 clear hH; intro w1 hH hS9
 refine Gp1 3 [0,1,2] 5 (Pp g 1) hS9 <| Dq 3 rfl (fun _ hS => (Lk 0 hS rfl rfl rfl)) hS9 <| gdk [(0, Pp g 0), (6, .slice (some ⟨q, 0, none⟩) l.length cap)] <| Gp1 3 [5,6,7] 10 (Pp g 1) hS9 <| Dq 8 rfl (fun _ hS => (Lk 0 hS rfl rfl rfl)) hS9 <| gdk [(6, .slice (some ⟨q, 0, none⟩) l.length cap), (11, .slice (some ⟨q, 0, none⟩) l.length cap)] <| Dq 9 rfl (fun _ hS => (Ln (e := 5) rfl)) hS9 <| gds 4 (st_q rfl rfl rfl (rd_sliceData (e := 5) rfl hcap) ?_)
 refine Nl hS9 fun hS9 => gdk [(7, Pp q 0), (12, Ni l.length)] <| gds 10 (st_ustrO (e := 5) 1 rfl rfl rfl (by kernel_rfl) (by kernel_rfl) hH rfl rfl h0 rfl hby ?_)
 clear hH; intro f3 w2 hH
 refine Nl (hH.sb (slk sln)) fun hS9 => gdk [(13, .string (bs l))] <| Gp1 1 [11] 2 (.string (bs l)) hS9 <| gdn [(2, .string (bs l))] <| sw_next <| Rt1 rfl rfl ?_
 exact ⟨f3, rfl, hH.turned⟩
theorem printF_bad {rs : List Rv} (h : rs.length < 1 ∨ 64 < rs.length ∨ (rs.any fun r => !(ruleB r)) = true) : printF (rs.map Rv.rl) = .error 20 := by
  unfold printF
  rw [List.length_map, List.any_map]
  exact if_pos h
theorem printF_go {rs : List Rv} (h1 : ¬ rs.length < 1) (h2 : ¬ 64 < rs.length) (h3 : (rs.any fun r => !(ruleB r)) = false) : printF (rs.map Rv.rl) = match linesF (rs.map Rv.rl) [] with
  | none => .error 2
  | some t => match parseF t with
    | .error _ => .error 20
    | .ok _ => .ok t := by
  unfold printF
  rw [List.length_map, List.any_map]
  exact if_neg (fun h => h.elim h1 fun h => h.elim h2 fun h => by
    have h9 : (rs.any fun r => !(ruleB r)) = true := h
    rw [h3] at h9; cases h9)
theorem rules_all {rs : List Rv} (h3 : (rs.any fun r => !(ruleB r)) = false) : ∀ r ∈ rs, ruleB r = true := fun r hr => by
  cases e : ruleB r
  · have h9 : (rs.any fun r => !(ruleB r)) = true := List.any_eq_true.2 ⟨r, hr, by rw [e]; rfl⟩
    rw [h3] at h9; cases h9
  · rfl
theorem rule_parts {r : Rv} (h : ruleB r = true) : r.name.length ≤ 32 ∧ okNd r.body.nd = true := by
  unfold ruleB at h
  rw [Bool.and_eq_true] at h
  refine ⟨?_, h.2⟩
  have := h.1
  unfold nameB at this
  simp only [decide_eq_true_eq] at this
  omega
def PtPost (R : Except Nat (List UInt8)) (w : World) (v : Value) (w' : World) : Prop := v = .tuple #[.string (bs (okE R)), errV (codE R)] ∧ Fresh w w' []
theorem pt_bad {R : Except Nat (List UInt8)} {c : Nat} {w w' : World} {z : Zone} (hR : R = .error c) (h : Hp w w' z [] []) : PtPost R w (.tuple #[.string (bs []), errV c]) w' := by
  subst hR; exact ⟨rfl, h.fresh⟩

theorem PPrint_ct (rs : List Rv) (cap : Nat) (A : Option Addr) (c : Zone) (w : World) (hg0 : c ⟨0, 0, none⟩ = some errTy) (hc : c.le w.cell?) (hT : Row c (.slice A rs.length cap) 10 rs.length (rowC rvC rs)) (hok : RvsOk c rs) (hb : 2400 * Rv.sizes rs ≤ 70368744177664) :
    Fun Tryz.prog 200 [.agg #[.slice A rs.length cap]] w fun v w' => PtPost (printF (rs.map Rv.rl)) w v w' := by
 obtain ⟨Ax, cx, hx9, hx1, hx2⟩ := hT.form
 cases hx9
 have hml : maxLen ≤ 9223372036854775807 := by unfold maxLen; decide
 refine fun_of_sw Tryz.func200 rfl 56 rfl rfl ?_
 have hH := (Hp.start w).zsub hc
 refine sw_sr <| gl_st (Bx [.slice A rs.length cap] rfl hH ?_)
 clear hH; intro b1 w2 hH
 refine Go0 2 <| Dn <| sw_seq <| sw_sr <| Go1 1 9 (Pp b1 0) <| Gq rfl (Lk 0 hH rfl rfl rfl) <| Gq rfl (Ln (e := 43) rfl) <| Go1 2 13 (.bool (decide (((rs.length : Nat) : Int) < (1 : Int)))) <| Gi 13 rfl (fun hg1 => ?_) (fun hg1 => ?_)
 have hl1 : rs.length < 1 := by have := hg1; omega
 exact Go1 10 23 (.bool true) <| Dn <| It <| sw_sr <| Go2 3 2 (.string (bs [])) 3 (.iface 50 (.int .i64 20)) <| Dn <| Rt2 rfl rfl rfl <| pt_bad (printF_bad (.inl hl1)) (hH.sb sln)
 have hl1 : ¬ rs.length < 1 := by have := hg1; omega
 refine Go1 1 14 (Pp b1 0) <| Gq rfl (Lk 0 hH rfl rfl rfl) <| Gq rfl (Ln (e := 43) rfl) <| Go1 3 19 (.bool (decide (((rs.length : Nat) : Int) > (64 : Int)))) <| Gi 19 rfl (fun hg3 => ?_) (fun hg3 => ?_)
 have hl2 : 64 < rs.length := by have := hg3; omega
 exact Go1 4 23 (.bool true) <| Dn <| It <| sw_sr <| Go2 3 2 (.string (bs [])) 3 (.iface 50 (.int .i64 20)) <| Dn <| Rt2 rfl rfl rfl <| pt_bad (printF_bad (.inr (.inl hl2))) (hH.sb sln)
 have hl2 : ¬ 64 < rs.length := by have := hg3; omega
 refine Go1 1 20 (Pp b1 0) <| Gq rfl (Lk 0 hH rfl rfl rfl) <| gl_st (Sc rfl rfl (CtnRl0 234 [] (fun r => !(ruleB r)) cap A rs c _ (by kernel_rfl) hH.zin hT (fun r hr w9 hle => PRuleC_ct r c w9 (hok r hr) hle)) ?_)
 rintro _ w3 ⟨rfl, hF4⟩
 replace hH := hH.call hF4
 refine Go1 1 23 (.bool (rs.any fun r => !(ruleB r))) <| Dn <| If rfl (fun hc5 => ?_) (fun hc5 => ?_)
 have hbad := hc5
 exact sw_sr <| Go2 3 2 (.string (bs [])) 3 (.iface 50 (.int .i64 20)) <| Dn <| Rt2 rfl rfl rfl <| pt_bad (printF_bad (.inr (.inr hbad))) (hH.sb sln)
 have hbad := hc5
 refine Sk <| sw_sr <| gl_st (Alc [.pointer none, .slice none 0 0] rfl hH ?_)
 clear hH; intro b5 w6 hH
 refine Dn <| sw_seq <| sw_sr <| Go1 1 25 (Pp b1 0) <| Gq rfl (Lk 0 hH rfl rfl rfl) <| Gq rfl (Ln (e := 43) rfl) <| Go1 1 28 (.int .i64 0) <| Dn <| sw_block ?_
 replace hH := hH.nilRow 5 1
 replace hH := hH.fr3.fr3
 replace hH := (hH.sb (slk (slk sln))).n2
 refine Lp (γ := Nat × Value × Value × List UInt8) hH (fun (i, aN, vN, acc) => [(4, Pp b5 0), (26, .slice A rs.length cap), (27, Ni rs.length), (28, Ni i)]) (fun (i, aN, vN, acc) w_ H_ => (linesF (rs.map Rv.rl) [] = linesF ((rs.drop i).map Rv.rl) acc) ∧ (AdB aN b5) ∧ (i ≤ rs.length) ∧ (acc.length + 2400 * Rv.sizes (rs.drop i) ≤ 70368744177664) ∧ (i = 0 ∨ acc ≠ []) ∧ H_ [.blk b5 320 [aN, vN], .row vN 5 1 acc.length (bv acc)]) (fun (i, aN, vN, acc) => rs.length - i) (0, .pointer none, .slice none 0 0, []) ?_ ?_
 · exact ⟨rfl, .inl rfl, Nat.zero_le _, (by show 0 + _ ≤ _; rw [Nat.zero_add]; exact hb), .inl rfl, hH⟩
 clear hH
 rintro ⟨i, aN, vN, acc⟩ w7 ⟨hm, haN, hi, hbN, hne, hH⟩
 refine swk [(4, Pp b5 0), (26, .slice A rs.length cap), (27, Ni rs.length), (28, Ni i)] <| sw_sr <| Go1 1 29 (.bool (decide ((i : Int) < ((rs.length : Nat) : Int)))) <| Dn <| sw_seq <| If rfl (fun hc6 => ?_) (fun hc6 => ?_)
 refine Sk <| sw_seq <| sw_block ?_
 obtain ⟨r, hx⟩ : ∃ r, rs[i]? = some r := ⟨_, List.getElem?_eq_getElem (by omega)⟩
 have hxm := List.mem_of_getElem? hx
 have hrb := hok r hxm
 have hrp := rule_parts (rules_all hbad r hxm)
 have hsz := Rv.sizes_at hx
 have hel := exprF_len r.body.nd (acc ++ (r.name ++ [32, 60, 45, 32])) hrp.2
 simp only [List.length_append, List.length_cons, List.length_nil, Tv.nd_size] at hel
 have hll : (lineF r.rl acc).length = (exprF r.body.nd (acc ++ (r.name ++ [32, 60, 45, 32]))).length + 1 := by unfold lineF; rw [List.length_append]; rfl
 refine sw_sr ?_
 obtain ⟨p8, hi10, hp9⟩ := hT.idx i (by omega) (by decide)
 refine Gq rfl (Ix (e := 43) 10 rfl rfl hi10) <| Gq rfl (rd_loadZA (by kernel_rfl) hH hp9 rfl 0 rfl [.string (bs r.name), .int .i64 r.body.kind, .string (bs r.body.text), .int .u64 ((r.body.cl.a : Nat) : Int), .int .u64 ((r.body.cl.b : Nat) : Int), .int .u64 ((r.body.cl.c : Nat) : Int), .int .u64 ((r.body.cl.d : Nat) : Int), .slice r.body.A r.body.subs.length r.body.cap, .int .i64 r.body.pos, .int .i64 r.pos] (by kernel_rfl) (rowC_all rvC_len hx 0 _ rfl)) <| gl_st (Alc [.string (bs []), .int .i64 0, .string (bs []), .int .u64 0, .int .u64 0, .int .u64 0, .int .u64 0, .slice none 0 0, .int .i64 0, .int .i64 0] rfl hH ?_)
 clear hH; intro b11 w12 hH
 refine gl_st (Ka 2 [.string (bs r.name), .int .i64 r.body.kind, .string (bs r.body.text), .int .u64 ((r.body.cl.a : Nat) : Int), .int .u64 ((r.body.cl.b : Nat) : Int), .int .u64 ((r.body.cl.c : Nat) : Int), .int .u64 ((r.body.cl.d : Nat) : Int), .slice r.body.A r.body.subs.length r.body.cap, .int .i64 r.body.pos, .int .i64 r.pos] [.string (bs r.name), .int .i64 r.body.kind, .string (bs r.body.text), .int .u64 ((r.body.cl.a : Nat) : Int), .int .u64 ((r.body.cl.b : Nat) : Int), .int .u64 ((r.body.cl.c : Nat) : Int), .int .u64 ((r.body.cl.d : Nat) : Int), .slice r.body.A r.body.subs.length r.body.cap, .int .i64 r.body.pos, .int .i64 r.pos] rfl hH rfl rfl ?_)
 clear hH; intro w13 hH
 refine Dn <| sw_sr <| Go2 2 32 (Pp b5 0) 33 (Pp b11 0) <| Gq rfl (Lk 2 hH rfl rfl rfl) <| Gq rfl (rd_sadd (by kernel_rfl) rfl rfl (by simp only [List.length_cons, List.length_nil]; omega)) ?_
 replace hH : Hp w w13 _ _ ([_, _] ++ [_]) := hH
 refine gl_st (Sc rfl rfl (WriteString_ct b5 320 (aN) vN acc (r.name ++ [32, 60, 45, 32]) _ haN hH.mine lies_pg (by simp only [List.length_append, List.length_cons, List.length_nil]; omega)) ?_)
 rintro _ w15 ⟨v14, rfl, hF16⟩
 replace hH := hH.turns hF16
 replace hH := hH.n3
 refine Dn <| sw_sr <| Go1 1 37 (Pp b11 1) <| Gq rfl (La 0 [.int .i64 r.body.kind, .string (bs r.body.text), .int .u64 ((r.body.cl.a : Nat) : Int), .int .u64 ((r.body.cl.b : Nat) : Int), .int .u64 ((r.body.cl.c : Nat) : Int), .int .u64 ((r.body.cl.d : Nat) : Int), .slice r.body.A r.body.subs.length r.body.cap, .int .i64 r.body.pos] hH rfl rfl) ?_
 replace hH : Hp w w15 _ _ ([_, _] ++ [_]) := hH.fr3.fr3
 refine gl_st (Sc rfl rfl (PExpr_ct r.body b5 (Pp b5 0) v14 (acc ++ (r.name ++ [32, 60, 45, 32])) c _ (.inr rfl) hrb.body hrp.2 (by simp only [List.length_append, List.length_cons, List.length_nil]; omega) hH.zoff hH.mine) ?_)
 rintro _ w20 ⟨a17, v18, rfl, ha19, hF21⟩
 replace hH := hH.turns hF21
 replace hH := hH.n3
 refine Dn <| sw_sr <| Go1 1 40 (Pp b5 0) ?_
 replace hH : Hp w w20 _ _ ([_, _] ++ [_]) := hH.fr3.fr3
 refine gl_st (Sc rfl rfl (WriteByte_ct b5 320 (a17) v18 (exprF r.body.nd (acc ++ (r.name ++ [32, 60, 45, 32]))) 10 _ ha19 hH.mine lies_pg (by omega) (by omega)) ?_)
 rintro _ w23 ⟨v22, rfl, hF24⟩
 replace hH := hH.turns hF24
 replace hH := hH.n3
 refine Dn <| sw_sr <| gl_st (Sc rfl rfl (PWide_ct b5 (((exprF r.body.nd (acc ++ (r.name ++ [32, 60, 45, 32]))) ++ [UInt8.ofNat 10]).length) v22 _ (hH.blk_cell 1 rfl rfl) (by obtain ⟨A9, c9, h9, _⟩ := hH.row_form 2 rfl; exact ⟨A9, c9, h9⟩)) ?_)
 rintro _ w25 ⟨rfl, hF26⟩
 replace hH := hH.call hF26
 refine Dn <| If rfl (fun hc7 => ?_) (fun hc7 => ?_)
 have hw : 8192 < (lineF r.rl acc).length := by rw [hll]; have := hc7; simp only [List.length_append, List.length_cons, List.length_nil] at this; omega
 exact sw_sr <| Go2 3 2 (.string (bs [])) 3 (.iface 50 (.int .i64 2)) <| Dn <| Rt2 rfl rfl rfl <| pt_bad ((printF_go hl1 hl2 hbad).trans (by rw [hm, linesF_at hx, if_pos hw])) (hH.sb sln)
 have hw : ¬ 8192 < (lineF r.rl acc).length := by rw [hll]; have := hc7; simp only [List.length_append, List.length_cons, List.length_nil] at this; omega
 refine sw_skip <| bkN <| sw_next <| sw_region <| Gw0 1 44 ((i : Int) + 1) ((i + 1 : Nat) : Int) <| Go1 1 28 (Ni (i + 1)) <| Dd <| rnd_end (g := (i, aN, vN, acc)) (i + 1, Pp b5 0, v22, lineF r.rl acc) (by kernel_rfl) ?_ ?_
 replace hH := hH.fr3.fr3
 replace hH := (hH.sb (slk (slk sln))).n2
 · exact ⟨by rw [hm, linesF_at hx, if_neg hw], (.inr rfl), by omega, by omega, .inr (by unfold lineF; simp), hH⟩
 · show rs.length - (i + 1) < rs.length - i; omega
 refine sw_exit <| thX <| thX <| bkH <| sw_next <| sw_seq ?_
 have hie : i = rs.length := by omega
 have h0 : acc ≠ [] := hne.resolve_left (by omega)
 replace hH := hH.fr2
 obtain ⟨q, capq, cur, hvq, hcap, hby, hH9⟩ := rowObj hH h0
 clear hH
 have hH := hH9
 clear hH9
 subst hvq
 refine sw_sr <| Go1 1 46 (Pp b5 0) ?_
 replace hH : Hp w w7 _ _ ([_, _] ++ []) := hH.fr2
 refine gl_st (Sc rfl rfl (StrO_ct b5 320 q capq (aN) acc cur (0, 0) _ hH.mine h0 hcap hby) ?_)
 rintro _ w28 ⟨f27, rfl, hF29⟩
 replace hH := hH.turns hF29
 replace hH := hH.n2
 refine gl_st (Sc rfl rfl (YParse_ct acc _ (hH.zin _ _ hg0) (by omega)) ?_)
 rintro _ w36 ⟨A30, c31, rs32, fb33, pl34, rfl, hgr35, hF37⟩
 replace hH := hH.call hF37
 refine Go2 3 49 (.agg #[.slice A30 rs32.length c31]) 50 (fltV (erT (parseF acc)) fb33) <| gl_st (Alc [.slice none 0 0] rfl hH ?_)
 clear hH; intro b38 w39 hH
 refine gl_st (Ka 4 [.slice A30 rs32.length c31] [.slice A30 rs32.length c31] rfl hH rfl rfl ?_)
 clear hH; intro w40 hH
 refine Go1 1 8 (fltV (erT (parseF acc)) fb33) <| Dn <| sw_sr <| Go1 1 51 (fltV (erT (parseF acc)) fb33) <| Gq rfl (rd_if_ne (by kernel_rfl) rfl) <| Dn <| If rfl (fun hc8 => ?_) (fun hc8 => ?_)
 obtain ⟨er, hR⟩ : ∃ er, parseF acc = .error er := by
   rcases hgr35 with ⟨er, h, _⟩ | ⟨h, _⟩
   · exact ⟨er, h⟩
   · rw [h] at hc8; cases hc8
 exact sw_sr <| Go2 3 2 (.string (bs [])) 3 (.iface 50 (.int .i64 20)) <| Dn <| Rt2 rfl rfl rfl <| pt_bad ((printF_go hl1 hl2 hbad).trans (by rw [hm, List.drop_eq_nil_of_le (by omega)]; simp only [List.map_nil, linesF]; rw [hR])) (hH.sb sln)
 obtain ⟨gl, hR⟩ : ∃ gl, parseF acc = .ok gl := by
   rcases hgr35 with ⟨er, h, _⟩ | ⟨h, _⟩
   · rw [h] at hc8; cases hc8
   · exact ⟨_, h⟩
 refine Sk <| sw_sr <| Go1 1 54 (Pp b5 0) ?_
 replace hH : Hp w w40 _ _ ([_, _] ++ [_, _, _]) := hH
 refine gl_st (Sc rfl rfl (StrO_ct b5 320 q capq (aN) acc cur f27 _ hH.mine h0 hcap hby) ?_)
 rintro _ w42 ⟨f41, rfl, hF43⟩
 replace hH := hH.turns hF43
 replace hH := hH.n5
 refine Go2 2 2 (.string (bs acc)) 3 (.nilIface) <| Dn <| Rt2 rfl rfl rfl ?_
 have hpo : printF (rs.map Rv.rl) = .ok acc := ((printF_go hl1 hl2 hbad).trans (by rw [hm, List.drop_eq_nil_of_le (by omega)]; simp only [List.map_nil, linesF]; rw [hR]))
 unfold PtPost
 rw [hpo]
 exact ⟨rfl, (hH.sb sln).fresh⟩
end Go.Proofs.YtllfpnbhjfadiaaGreatDoor
/- Layer 6 (scope): plain mathematics. -/
set_option linter.unusedVariables false
namespace Go.Proofs.YtllfpnbhjfadiaaGreatDoor
open Go.RowKit Go.SW
mutual
/-- Through the names in a tree, from the front, until p says no. -/
def refsF {σ : Type} (p : σ → Nd → Bool × σ) : Nd → σ → Bool × σ
  | .mk k t c s q, st => if k = 5 then (if (p st (.mk k t c s q)).1 then refsFs p s (p st (.mk k t c s q)).2 else (false, (p st (.mk k t c s q)).2)) else refsFs p s st
def refsFs {σ : Type} (p : σ → Nd → Bool × σ) : List Nd → σ → Bool × σ
  | [], st => (true, st)
  | x :: s, st => if (refsF p x st).1 then refsFs p s (refsF p x st).2 else (false, (refsF p x st).2)
end
section
variable {σ : Type} {p : σ → Nd → Bool × σ} {st : σ} {t x : Tv}
theorem refsF_no (h : t.kind = 5) (hp : (p st t.nd).1 = false) : refsF p t.nd st = (false, (p st t.nd).2) := by
  cases t with
  | mk k tx c A cap s q =>
    have h : k = 5 := h
    rw [Tv.nd] at hp ⊢
    rw [refsF, if_pos h, hp]; rfl
theorem refsF_yes (h : t.kind = 5) (hp : (p st t.nd).1 = true) : refsF p t.nd st = refsFs p (Tv.nds t.subs) (p st t.nd).2 := by
  cases t with
  | mk k tx c A cap s q =>
    have h : k = 5 := h
    rw [Tv.nd] at hp ⊢
    rw [refsF, if_pos h, hp]; rfl
theorem refsF_other (h : ¬ t.kind = 5) : refsF p t.nd st = refsFs p (Tv.nds t.subs) st := by
  cases t with
  | mk k tx c A cap s q =>
    have h : ¬ k = 5 := h
    rw [Tv.nd, refsF, if_neg h]; rfl
theorem refsFs_at {s : List Tv} {i : Nat} (h : s[i]? = some x) : refsFs p (Tv.nds (s.drop i)) st = if (refsF p x.nd st).1 then refsFs p (Tv.nds (s.drop (i + 1))) (refsF p x.nd st).2 else (false, (refsF p x.nd st).2) := by
  obtain ⟨hi, rfl⟩ := List.getElem?_eq_some_iff.1 h
  rw [List.drop_eq_getElem_cons hi, Tv.nds, refsFs]
end
abbrev Names := List (List UInt8 × Nat)
def placesF : Nat → List Rl → Names → Names
  | _, [], m => m
  | i, r :: rs, m => placesF (i + 1) rs (if (getT m r.name).isSome then m else putT m r.name i)
theorem placesF_at {s : List Rv} {i : Nat} {x : Rv} (h : s[i]? = some x) (m : Names) : placesF i ((s.drop i).map Rv.rl) m = placesF (i + 1) ((s.drop (i + 1)).map Rv.rl) (if (getT m x.name).isSome then m else putT m x.name i) := by
  obtain ⟨hi, rfl⟩ := List.getElem?_eq_some_iff.1 h
  rw [List.drop_eq_getElem_cons hi, List.map_cons, placesF]; rfl
/-- An error: none, a code, a fault with a code and a place. -/
inductive Er5 where
  | nil
  | no (c : Nat)
  | flt (c : Nat) (a : Int)
def Er5.isNil : Er5 → Bool
  | .nil => true
  | _ => false
def erV : Er5 → Nat → Value
  | .nil, _ => .nilIface
  | .no c, _ => .iface 50 (.int .i64 ((c : Nat) : Int))
  | .flt _ _, fb => .iface 94 (.pointer (some ⟨fb, 0, none⟩))
def erO (e : Er5) (fb : Nat) : Own := .grp (match e with | .flt c a => [.blk fb 97 [.int .i64 ((c : Nat) : Int), .int .i64 a]] | _ => [])
theorem er_flt {w0 w : World} {z : Zone} {F : List Nat} {r : List Own} {fb c : Nat} {a : Int} (h : Hp w0 w z F (.blk fb 97 [.int .i64 ((c : Nat) : Int), .int .i64 a] :: r)) : Hp w0 w z F (erO (.flt c a) fb :: r) := Hp.close (l := [.blk fb 97 [.int .i64 ((c : Nat) : Int), .int .i64 a]]) h
theorem er_nil {w0 w : World} {z : Zone} {F : List Nat} {r : List Own} (fb : Nat) (h : Hp w0 w z F r) : Hp w0 w z F (erO .nil fb :: r) := Hp.close (l := []) h
theorem er_no {w0 w : World} {z : Zone} {F : List Nat} {r : List Own} (c fb : Nat) (h : Hp w0 w z F r) : Hp w0 w z F (erO (.no c) fb :: r) := Hp.close (l := []) h
def codeEr (c : Nat) : Er5 := if c = 0 then .nil else .no c
theorem codeEr_V (c fb : Nat) : erV (codeEr c) fb = errV c := by
  unfold codeEr errV errW
  split
  · rfl
  · rfl
def doubleF (m : Names) : Nat → List Rl → Er5
  | _, [] => .nil
  | i, r :: rs => if ((getT m r.name).getD 0) = i then doubleF m (i + 1) rs else .flt 30 r.pos
theorem doubleF_at {s : List Rv} {i : Nat} {x : Rv} (h : s[i]? = some x) (m : Names) : doubleF m i ((s.drop i).map Rv.rl) = if ((getT m x.name).getD 0) = i then doubleF m (i + 1) ((s.drop (i + 1)).map Rv.rl) else .flt 30 x.pos := by
  obtain ⟨hi, rfl⟩ := List.getElem?_eq_some_iff.1 h
  rw [List.drop_eq_getElem_cons hi, List.map_cons, doubleF]; rfl
def knownP (m : Names) : Int → Nd → Bool × Int := fun _ n => ((getT m n.text).isSome, n.pos)
def namesF (m : Names) : List Rl → Er5
  | [] => .nil
  | r :: rs => if (refsF (knownP m) r.body 0).1 then namesF m rs else .flt 31 (refsF (knownP m) r.body 0).2
theorem namesF_at {s : List Rv} {i : Nat} {x : Rv} (h : s[i]? = some x) (m : Names) : namesF m ((s.drop i).map Rv.rl) = if (refsF (knownP m) x.body.nd 0).1 then namesF m ((s.drop (i + 1)).map Rv.rl) else .flt 31 (refsF (knownP m) x.body.nd 0).2 := by
  obtain ⟨hi, rfl⟩ := List.getElem?_eq_some_iff.1 h
  rw [List.drop_eq_getElem_cons hi, List.map_cons, namesF]; rfl
def scopeF (rs : List Rl) : Er5 :=
  if codE (printF rs) = 0 then
    (if (doubleF (placesF 0 rs []) 0 rs).isNil then namesF (placesF 0 rs []) rs else doubleF (placesF 0 rs []) 0 rs)
  else .no (codE (printF rs))
theorem Tv.nd_text (t : Tv) : t.nd.text = t.text := by cases t; rfl
end Go.Proofs.YtllfpnbhjfadiaaGreatDoor
/- Layer 6 (scope): names: what the program's functions answer. -/
set_option maxRecDepth 100000
set_option maxHeartbeats 2000000
set_option linter.unusedVariables false
set_option linter.unusedSimpArgs false
namespace Go.Proofs.YtllfpnbhjfadiaaGreatDoor
open Go.RowKit Go.SW

theorem PRight_ct (rs : List Rv) (cap : Nat) (A : Option Addr) (c : Zone) (w : World) (hg0 : c ⟨0, 0, none⟩ = some errTy) (hc : c.le w.cell?) (hT : Row c (.slice A rs.length cap) 10 rs.length (rowC rvC rs)) (hok : RvsOk c rs) (hb : 2400 * Rv.sizes rs ≤ 70368744177664) :
    Fun Tryz.prog 173 [.agg #[.slice A rs.length cap]] w fun v w' => v = errV (codE (printF (rs.map Rv.rl))) ∧ Fresh w w' [] := by
 refine fun_of_sw Tryz.func173 rfl 11 rfl rfl ?_
 have hH := (Hp.start w).zsub hc
 refine sw_sr <| gl_st (Bx [.slice A rs.length cap] rfl hH ?_)
 clear hH; intro b1 w2 hH
 refine Go0 1 <| Dn <| sw_sr <| Gq rfl (La 0 [.slice A rs.length cap] hH rfl rfl) <| gl_st (Sc rfl rfl (PPrint_ct rs cap A c _ hg0 hH.zin hT hok hb) ?_)
 rintro _ w3 ⟨rfl, hF4⟩
 replace hH := hH.call hF4
 refine Go1 5 4 (errV (codE (printF (rs.map Rv.rl)))) <| Dn <| sw_sr <| Go1 2 2 (errV (codE (printF (rs.map Rv.rl)))) <| Dn <| Rt1 rfl rfl ?_
 exact ⟨rfl, (hH.sb sln).fresh⟩
theorem SPlaces_ct (rs : List Rv) (cap : Nat) (A : Option Addr) (c : Zone) (w : World) (hc : c.le w.cell?) (hT : Row c (.slice A rs.length cap) 10 rs.length (rowC rvC rs)) (hok : RvsOk c rs) :
    Fun Tryz.prog 174 [.agg #[.slice A rs.length cap]] w fun v w' => ∃ m, v = .map (some m) ∧ Fresh w w' [.kmap m strK (vmap nI (placesF 0 (rs.map Rv.rl) []))] := by
 obtain ⟨Ax, cx, hx9, hx1, hx2⟩ := hT.form
 cases hx9
 have hml : maxLen ≤ 9223372036854775807 := by unfold maxLen; decide
 refine fun_of_sw Tryz.func174 rfl 32 rfl rfl ?_
 have hH := (Hp.start w).zsub hc
 refine sw_sr <| gl_st (Bx [.slice A rs.length cap] rfl hH ?_)
 clear hH; intro b1 w2 hH
 refine Go0 1 <| Dn <| sw_sr <| gl_st (st_makeMap rfl rfl rfl strK hH ?_)
 clear hH; intro m3 w4 hH
 refine Go1 1 3 (.map (some m3)) <| Dn <| sw_seq <| sw_sr <| Go1 1 9 (Pp b1 0) <| Gq rfl (Lk 0 hH rfl rfl rfl) <| Gq rfl (Ln (e := 43) rfl) <| Go1 1 12 (.int .i64 0) <| Dn <| sw_block ?_
 replace hH := hH.fr2
 replace hH := (hH.sb (slk sln)).n1
 refine Lp (γ := Nat × Names) hH (fun (i, pm) => [(3, .map (some m3)), (10, .slice A rs.length cap), (11, Ni rs.length), (12, Ni i)]) (fun (i, pm) w_ H_ => (placesF 0 (rs.map Rv.rl) [] = placesF i ((rs.drop i).map Rv.rl) pm) ∧ (i ≤ rs.length) ∧ H_ [.kmap m3 strK (vmap nI pm)]) (fun (i, pm) => rs.length - i) (0, []) ?_ ?_
 · exact ⟨rfl, Nat.zero_le _, hH⟩
 clear hH
 rintro ⟨i, pm⟩ w5 ⟨hm, hi, hH⟩
 refine swk [(3, .map (some m3)), (10, .slice A rs.length cap), (11, Ni rs.length), (12, Ni i)] <| sw_sr <| Go1 1 13 (.bool (decide ((i : Int) < ((rs.length : Nat) : Int)))) <| Dn <| sw_seq <| If rfl (fun hc1 => ?_) (fun hc1 => ?_)
 refine Sk <| sw_seq <| sw_block ?_
 obtain ⟨r, hx⟩ : ∃ r, rs[i]? = some r := ⟨_, List.getElem?_eq_getElem (by omega)⟩
 have hxm := List.mem_of_getElem? hx
 have hrb := hok r hxm
 refine sw_sr ?_
 obtain ⟨p6, hi8, hp7⟩ := hT.idx i (by omega) (by decide)
 refine Go1 1 14 (Ni i) <| Gq rfl (Ix (e := 43) 10 rfl rfl hi8) <| Gq rfl (rd_loadZA (by kernel_rfl) hH hp7 rfl 0 rfl [.string (bs r.name), .int .i64 r.body.kind, .string (bs r.body.text), .int .u64 ((r.body.cl.a : Nat) : Int), .int .u64 ((r.body.cl.b : Nat) : Int), .int .u64 ((r.body.cl.c : Nat) : Int), .int .u64 ((r.body.cl.d : Nat) : Int), .slice r.body.A r.body.subs.length r.body.cap, .int .i64 r.body.pos, .int .i64 r.pos] (by kernel_rfl) (rowC_all rvC_len hx 0 _ rfl)) <| gl_st (Alc [.string (bs []), .int .i64 0, .string (bs []), .int .u64 0, .int .u64 0, .int .u64 0, .int .u64 0, .slice none 0 0, .int .i64 0, .int .i64 0] rfl hH ?_)
 clear hH; intro b9 w10 hH
 refine Go1 1 4 (Ni i) <| gl_st (Ka 1 [.string (bs r.name), .int .i64 r.body.kind, .string (bs r.body.text), .int .u64 ((r.body.cl.a : Nat) : Int), .int .u64 ((r.body.cl.b : Nat) : Int), .int .u64 ((r.body.cl.c : Nat) : Int), .int .u64 ((r.body.cl.d : Nat) : Int), .slice r.body.A r.body.subs.length r.body.cap, .int .i64 r.body.pos, .int .i64 r.pos] [.string (bs r.name), .int .i64 r.body.kind, .string (bs r.body.text), .int .u64 ((r.body.cl.a : Nat) : Int), .int .u64 ((r.body.cl.b : Nat) : Int), .int .u64 ((r.body.cl.c : Nat) : Int), .int .u64 ((r.body.cl.d : Nat) : Int), .slice r.body.A r.body.subs.length r.body.cap, .int .i64 r.body.pos, .int .i64 r.pos] rfl hH rfl rfl ?_)
 clear hH; intro w11 hH
 refine Dn <| sw_sr <| Go2 2 18 (.map (some m3)) 19 (Pp b9 0) <| Gq rfl (Lk 1 hH rfl rfl rfl) <| Gq rfl (rd_mapgetOk (kt := 9) (e := 3) (zv := .int .i64 0) 0 (by kernel_rfl) (by kernel_rfl) strK_key (by kernel_rfl) hH rfl rfl r.name rfl) <| Go1 5 7 (.bool ((kget (vmap nI pm) r.name).isSome)) <| Dn <| sw_sr <| Go1 2 25 (.bool (!((kget (vmap nI pm) r.name).isSome))) <| Dn <| If rfl (fun hc2 => ?_) (fun hc2 => ?_)
 have hs := hc2
 rw [kget_some] at hs
 refine sw_region <| Go2 2 26 (.map (some m3)) 27 (Pp b9 0) <| Gq rfl (Lk 1 hH rfl rfl rfl) <| Go1 1 29 (Ni i) <| gl_st (st_mapset (kt := 9) (e := 3) (v := Ni i) 0 rfl rfl rfl (by kernel_rfl) (by kernel_rfl) strK_key hH rfl rfl r.name rfl rfl ?_)
 clear hH; intro w12 hH
 replace hH := hH.cast (os' := [.kmap m3 strK (vmap nI (putT pm r.name i)), .blk b9 43 [.string (bs r.name), .int .i64 r.body.kind, .string (bs r.body.text), .int .u64 ((r.body.cl.a : Nat) : Int), .int .u64 ((r.body.cl.b : Nat) : Int), .int .u64 ((r.body.cl.c : Nat) : Int), .int .u64 ((r.body.cl.d : Nat) : Int), .slice r.body.A r.body.subs.length r.body.cap, .int .i64 r.body.pos, .int .i64 r.pos]]) (by rw [show Ni i = nI i from rfl, kputK_vmap]; rfl)
 refine Dd <| bkN <| sw_next <| sw_region <| Gw0 1 30 ((i : Int) + 1) ((i + 1 : Nat) : Int) <| Go1 1 12 (Ni (i + 1)) <| Dd <| rnd_end (g := (i, pm)) (i + 1, putT pm r.name i) (by kernel_rfl) ?_ ?_
 replace hH := (hH.sb (slk sln)).n1
 · exact ⟨by rw [hm, placesF_at hx, hs]; rfl, by omega, hH⟩
 · show rs.length - (i + 1) < rs.length - i; omega
 have hs := hc2
 rw [kget_some] at hs
 refine sw_skip <| bkN <| sw_next <| sw_region <| Gw0 1 30 ((i : Int) + 1) ((i + 1 : Nat) : Int) <| Go1 1 12 (Ni (i + 1)) <| Dd <| rnd_end (g := (i, pm)) (i + 1, pm) (by kernel_rfl) ?_ ?_
 replace hH := (hH.sb (slk sln)).n1
 · exact ⟨by rw [hm, placesF_at hx, hs]; rfl, by omega, hH⟩
 · show rs.length - (i + 1) < rs.length - i; omega
 refine sw_exit <| thX <| thX <| bkH <| sw_next <| sw_sr <| Go1 2 2 (.map (some m3)) <| Dn <| Rt1 rfl rfl ?_
 exact ⟨m3, rfl, by rw [hm, List.drop_eq_nil_of_le (by omega)]; exact (hH.sb (slk sln)).fresh⟩
def RfC (t : Tv) : Prop := ∀ {σ : Type} (f : FuncId) (cl : List Value) (M : σ → Own) (p : σ → Nd → Bool × σ) (st : σ) (c : Zone) (w : World), callable Tryz.prog f = true → TvOk c t → c.le (off w (blksOf [M st])) → Mine w [M st] → (∀ x, TvOk c x → SaysC f cl tvC c M (fun s x => p s x.nd) x) →
  Fun Tryz.prog 175 [.agg (tvC t).toArray, .func (.func f) #[] cl.toArray] w fun v w' => v = .bool (refsF p t.nd st).1 ∧ Turn w w' [M st] [M (refsF p t.nd st).2]

theorem SRefs_step (t : Tv) (IH : ∀ x ∈ t.subs, RfC x) : RfC t := by
 intro σ f cl M p st c w hcal hok hc hM hf
 obtain ⟨Ax, cx, hx9, hx1, hx2⟩ := hok.row.form
 have hml : maxLen ≤ 9223372036854775807 := by unfold maxLen; decide
 refine fun_of_sw Tryz.func175 rfl 28 rfl rfl ?_
 have hH := (Hp.start_mine hM).zsub hc
 refine sw_sr <| gl_st (Bx [.int .i64 t.kind, .string (bs t.text), .int .u64 ((t.cl.a : Nat) : Int), .int .u64 ((t.cl.b : Nat) : Int), .int .u64 ((t.cl.c : Nat) : Int), .int .u64 ((t.cl.d : Nat) : Int), .slice t.A t.subs.length t.cap, .int .i64 t.pos] rfl hH ?_)
 clear hH; intro b1 w2 hH
 refine Go0 1 <| Dn <| Cu (γ := σ) hH (fun s1 => [(1, .func (.func f) #[] cl.toArray), (2, Pp b1 0)]) (fun s1 w_ H_ => (refsF p t.nd st = refsFs p (Tv.nds t.subs) s1) ∧ H_ [M s1, .blk b1 41 [.int .i64 t.kind, .string (bs t.text), .int .u64 ((t.cl.a : Nat) : Int), .int .u64 ((t.cl.b : Nat) : Int), .int .u64 ((t.cl.c : Nat) : Int), .int .u64 ((t.cl.d : Nat) : Int), .slice t.A t.subs.length t.cap, .int .i64 t.pos]]) ?_ ?_
 ·
  refine sw_sr <| Go1 1 7 (Pp b1 0) <| Gq rfl (Lk 1 hH rfl rfl rfl) <| Go1 2 10 (.bool ((t.kind : Int) == (5 : Int))) <| Gi 10 rfl (fun hg1 => ?_) (fun hg1 => ?_)
  have hk5 : t.kind = 5 := hg1
  refine Go1 1 11 (.func (.func f) #[] cl.toArray) <| Gq rfl (La 1 [.int .i64 t.kind, .string (bs t.text), .int .u64 ((t.cl.a : Nat) : Int), .int .u64 ((t.cl.b : Nat) : Int), .int .u64 ((t.cl.c : Nat) : Int), .int .u64 ((t.cl.d : Nat) : Int), .slice t.A t.subs.length t.cap, .int .i64 t.pos] hH rfl rfl) ?_
  replace hH : Hp w w2 _ _ ([_] ++ [_]) := hH
  refine gl_st (st_callv rfl rfl rfl hcal rfl rfl (hf t hok st _ hH.zoff hH.mine) ?_)
  rintro _ w3 ⟨rfl, hF4⟩
  replace hH := hH.turns hF4
  replace hH := hH.n2
  refine Go1 2 15 (.bool (!((p st t.nd).1))) <| Dn <| If rfl (fun hc2 => ?_) (fun hc2 => ?_)
  have hp : (p st t.nd).1 = false := hc2
  refine sw_sr <| Go1 1 4 (.bool false) <| Dn <| Rt1 rfl rfl ?_
  replace hH := hH.fr2
  replace hH := (hH.sb (slk sln)).n1
  exact ⟨by rw [refsF_no hk5 hp], by rw [refsF_no hk5 hp]; exact hH.turned⟩
  have hp : (p st t.nd).1 = true := hc2
  refine sw_skip <| Ce ((p st t.nd).2) ?_
  replace hH := hH.fr2
  exact ⟨refsF_yes hk5 hp, hH⟩
  have hk5 : ¬ t.kind = 5 := hg1
  refine Go1 5 15 (.bool false) <| Dn <| Iz <| sw_skip <| Ce (st) ?_
  exact ⟨refsF_other hk5, hH⟩
 clear hH
 rintro s1 w5 ⟨hm1, hH⟩
 refine swk [(1, .func (.func f) #[] cl.toArray), (2, Pp b1 0)] <| sw_seq <| sw_sr <| Go1 1 16 (Pp b1 6) <| Gq rfl (Lk 1 hH rfl rfl rfl) <| Gq rfl (Ln (e := 41) rfl) <| Go1 1 19 (.int .i64 0) <| Dn <| sw_block ?_
 replace hH := (hH.sb (slk sln)).n1
 refine Lp (γ := Nat × σ) hH (fun (i, s) => [(1, .func (.func f) #[] cl.toArray), (17, .slice t.A t.subs.length t.cap), (18, Ni t.subs.length), (19, Ni i)]) (fun (i, s) w_ H_ => (refsF p t.nd st = refsFs p (Tv.nds (t.subs.drop i)) s) ∧ (i ≤ t.subs.length) ∧ H_ [M s]) (fun (i, s) => t.subs.length - i) (0, s1) ?_ ?_
 · exact ⟨hm1, Nat.zero_le _, hH⟩
 clear hH
 rintro ⟨i, s⟩ w6 ⟨hm, hi, hH⟩
 refine swk [(1, .func (.func f) #[] cl.toArray), (17, .slice t.A t.subs.length t.cap), (18, Ni t.subs.length), (19, Ni i)] <| sw_sr <| Go1 1 20 (.bool (decide ((i : Int) < ((t.subs.length : Nat) : Int)))) <| Dn <| sw_seq <| If rfl (fun hc4 => ?_) (fun hc4 => ?_)
 refine Sk <| sw_seq <| sw_block ?_
 obtain ⟨x, hx⟩ : ∃ x, t.subs[i]? = some x := ⟨_, List.getElem?_eq_getElem (by omega)⟩
 have hxm := List.mem_of_getElem? hx
 refine sw_sr ?_
 obtain ⟨p7, hi9, hp8⟩ := hok.row.idx i (by omega) (by decide)
 refine Gq rfl (Ix (e := 41) 8 rfl rfl hi9) <| Gq rfl (rd_loadZA (by kernel_rfl) hH hp8 rfl 0 rfl [.int .i64 x.kind, .string (bs x.text), .int .u64 ((x.cl.a : Nat) : Int), .int .u64 ((x.cl.b : Nat) : Int), .int .u64 ((x.cl.c : Nat) : Int), .int .u64 ((x.cl.d : Nat) : Int), .slice x.A x.subs.length x.cap, .int .i64 x.pos] (by kernel_rfl) (rowC_all tvC_len hx 0 _ rfl)) <| gl_st (Alc [.int .i64 0, .string (bs []), .int .u64 0, .int .u64 0, .int .u64 0, .int .u64 0, .slice none 0 0, .int .i64 0] rfl hH ?_)
 clear hH; intro b10 w11 hH
 refine gl_st (Ka 1 [.int .i64 x.kind, .string (bs x.text), .int .u64 ((x.cl.a : Nat) : Int), .int .u64 ((x.cl.b : Nat) : Int), .int .u64 ((x.cl.c : Nat) : Int), .int .u64 ((x.cl.d : Nat) : Int), .slice x.A x.subs.length x.cap, .int .i64 x.pos] [.int .i64 x.kind, .string (bs x.text), .int .u64 ((x.cl.a : Nat) : Int), .int .u64 ((x.cl.b : Nat) : Int), .int .u64 ((x.cl.c : Nat) : Int), .int .u64 ((x.cl.d : Nat) : Int), .slice x.A x.subs.length x.cap, .int .i64 x.pos] rfl hH rfl rfl ?_)
 clear hH; intro w12 hH
 refine Dn <| sw_sr <| Gq rfl (La 1 [.int .i64 x.kind, .string (bs x.text), .int .u64 ((x.cl.a : Nat) : Int), .int .u64 ((x.cl.b : Nat) : Int), .int .u64 ((x.cl.c : Nat) : Int), .int .u64 ((x.cl.d : Nat) : Int), .slice x.A x.subs.length x.cap, .int .i64 x.pos] hH rfl rfl) <| Go1 1 24 (.func (.func f) #[] cl.toArray) ?_
 replace hH : Hp w w12 _ _ ([_] ++ [_]) := hH
 refine gl_st (Sc rfl rfl (IH x hxm f cl M p s c _ hcal (hok.subs x hxm) hH.zoff hH.mine hf) ?_)
 rintro _ w13 ⟨rfl, hF14⟩
 replace hH := hH.turns hF14
 replace hH := hH.n2
 refine Go1 1 26 (.bool (!((refsF p x.nd s).1))) <| Dn <| If rfl (fun hc5 => ?_) (fun hc5 => ?_)
 have hq : (refsF p x.nd s).1 = false := hc5
 refine sw_sr <| Go1 1 4 (.bool false) <| Dn <| Rt1 rfl rfl ?_
 replace hH := hH.fr2
 replace hH := (hH.sb (slk sln)).n1
 exact ⟨by rw [hm, refsFs_at hx, hq]; rfl, by rw [hm, refsFs_at hx, hq]; exact hH.turned⟩
 have hq : (refsF p x.nd s).1 = true := hc5
 refine sw_skip <| bkN <| sw_next <| sw_region <| Gw0 1 27 ((i : Int) + 1) ((i + 1 : Nat) : Int) <| Go1 1 19 (Ni (i + 1)) <| Dd <| rnd_end (g := (i, s)) (i + 1, (refsF p x.nd s).2) (by kernel_rfl) ?_ ?_
 replace hH := hH.fr2
 replace hH := (hH.sb (slk sln)).n1
 · exact ⟨by rw [hm, refsFs_at hx, hq]; rfl, by omega, hH⟩
 · show t.subs.length - (i + 1) < t.subs.length - i; omega
 refine sw_exit <| thX <| thX <| bkH <| sw_next <| sw_sr <| Go1 1 4 (.bool true) <| Dn <| Rt1 rfl rfl ?_
 replace hH := (hH.sb (slk sln)).n1
 exact ⟨by rw [hm, List.drop_eq_nil_of_le (by omega)]; rfl, by rw [hm, List.drop_eq_nil_of_le (by omega)]; exact hH.turned⟩
theorem SRefs_ct (t : Tv) : RfC t := Tv.ind (P := RfC) SRefs_step t

end Go.Proofs.YtllfpnbhjfadiaaGreatDoor
/- Layer 6 (scope): Check, Find: what the program's functions answer. -/
set_option maxRecDepth 100000
set_option maxHeartbeats 2000000
set_option linter.unusedVariables false
set_option linter.unusedSimpArgs false
namespace Go.Proofs.YtllfpnbhjfadiaaGreatDoor
open Go.RowKit Go.SW
def ckL (mb m ab : Nat) (pm : Names) (at_ : Int) : List Own := [.blk mb 80 [.map (some m)], .kmap m strK (vmap nI pm), .blk ab 3 [.int .i64 at_]]
def ckM (mb m ab : Nat) (pm : Names) (at_ : Int) : Own := .grp (ckL mb m ab pm at_)
theorem sc_pr {rs : List Rl} (h : ¬ codE (printF rs) = 0) : scopeF rs = .no (codE (printF rs)) := if_neg h
theorem sc_dbl {rs : List Rl} {c : Nat} {a : Int} (h : codE (printF rs) = 0) (hd : doubleF (placesF 0 rs []) 0 rs = .flt c a) : scopeF rs = .flt c a := by unfold scopeF; rw [if_pos h, hd]; rfl
theorem sc_nm {rs : List Rl} (h : codE (printF rs) = 0) (hd : doubleF (placesF 0 rs []) 0 rs = .nil) : scopeF rs = namesF (placesF 0 rs []) rs := by unfold scopeF; rw [if_pos h, hd]; rfl
def ErPost (e : Er5) (w : World) (v : Value) (w' : World) : Prop := ∃ fb, v = erV e fb ∧ Fresh w w' [erO e fb]
theorem ep_flt {e : Er5} {c fb : Nat} {a : Int} {w w' : World} {z : Zone} (he : e = .flt c a) (h : Hp w w' z [] [.blk fb 97 [.int .i64 ((c : Nat) : Int), .int .i64 a]]) : ErPost e w (.iface 94 (.pointer (some ⟨fb, 0, none⟩))) w' := by
  subst he; exact ⟨fb, rfl, (er_flt h).fresh⟩
theorem ep_nil {e : Er5} {w w' : World} {z : Zone} (he : e = .nil) (h : Hp w w' z [] []) : ErPost e w .nilIface w' := by
  subst he; exact ⟨0, rfl, (er_nil 0 h).fresh⟩
theorem ep_no {e : Er5} {c : Nat} {w w' : World} {z : Zone} (he : e = .no c) (hc : ¬ c = 0) (h : Hp w w' z [] []) : ErPost e w (errV c) w' := by
  subst he
  refine ⟨0, ?_, (er_no c 0 h).fresh⟩
  have := codeEr_V c 0
  rw [codeEr, if_neg hc] at this
  exact this.symm
def findF (name : List UInt8) (rs : List Rl) : Int := if (rs.any fun r => r.name == name) then ((rs.findIdx fun r => r.name == name : Nat) : Int) else -1
theorem findF_rv (name : List UInt8) (rs : List Rv) : findF name (rs.map Rv.rl) = if (rs.any fun r => r.name == name) then ((rs.findIdx fun r => r.name == name : Nat) : Int) else -1 := by
  unfold findF
  rw [List.any_map, List.findIdx_map]
  rfl

theorem SCk1_ct (mb m ab : Nat) (pm : Names) (c : Zone) (x : Tv) (hok : TvOk c x) : SaysC 176 [Pp mb 0, Pp ab 0] tvC c (ckM mb m ab pm) (fun s y => knownP pm s y.nd) x := by
 intro s w hc hM
 refine fun_of_sw Tryz.func176 rfl 17 rfl rfl ?_
 have hH := Hp.open_ (l := ckL mb m ab pm s) ((Hp.start_mine hM).zsub hc)
 refine sw_sr <| gl_st (Bx [.int .i64 x.kind, .string (bs x.text), .int .u64 ((x.cl.a : Nat) : Int), .int .u64 ((x.cl.b : Nat) : Int), .int .u64 ((x.cl.c : Nat) : Int), .int .u64 ((x.cl.d : Nat) : Int), .slice x.A x.subs.length x.cap, .int .i64 x.pos] rfl hH ?_)
 clear hH; intro b1 w2 hH
 refine Go0 1 <| Dn <| sw_sr <| Gq rfl (Lk 0 hH rfl rfl rfl) <| Go1 1 9 (Pp b1 1) <| Gq rfl (Lk 3 hH rfl rfl rfl) <| Gq rfl (rd_mapgetOk (kt := 9) (e := 3) (zv := .int .i64 0) 1 (by kernel_rfl) (by kernel_rfl) strK_key (by kernel_rfl) hH rfl rfl x.text rfl) <| Go1 5 6 (.bool ((kget (vmap nI pm) x.text).isSome)) <| Dn <| sw_sr <| Go1 1 14 (Pp b1 7) <| Gq rfl (Lk 3 hH rfl rfl rfl) <| gl_st (Ks 2 (.int .i64 x.pos) rfl hH rfl rfl ?_)
 clear hH; intro w3 hH
 refine Dn <| sw_sr <| Go1 2 4 (.bool ((kget (vmap nI pm) x.text).isSome)) <| Dn <| Rt1 rfl rfl ?_
 replace hH := (hH.sb (slk (slk (slk sln)))).n3
 exact ⟨by rw [kget_some]; show Value.bool _ = Value.bool (getT pm x.nd.text).isSome; rw [Tv.nd_text], by unfold knownP; cases x; exact (Hp.close (l := ckL mb m ab pm _) (r := []) hH).turned⟩
theorem SCheck_ct (rs : List Rv) (cap : Nat) (A : Option Addr) (c : Zone) (w : World) (hg0 : c ⟨0, 0, none⟩ = some errTy) (hc : c.le w.cell?) (hT : Row c (.slice A rs.length cap) 10 rs.length (rowC rvC rs)) (hok : RvsOk c rs) (hb : 2400 * Rv.sizes rs ≤ 70368744177664) :
    Fun Tryz.prog 143 [.agg #[.slice A rs.length cap]] w fun v w' => ErPost (scopeF (rs.map Rv.rl)) w v w' := by
 obtain ⟨Ax, cx, hx9, hx1, hx2⟩ := hT.form
 cases hx9
 have hml : maxLen ≤ 9223372036854775807 := by unfold maxLen; decide
 refine fun_of_sw Tryz.func143 rfl 56 rfl rfl ?_
 have hH := (Hp.start w).zsub hc
 refine sw_sr <| gl_st (Bx [.slice A rs.length cap] rfl hH ?_)
 clear hH; intro b1 w2 hH
 refine Go0 1 <| Dn <| sw_seq <| sw_sr <| Gq rfl (La 0 [.slice A rs.length cap] hH rfl rfl) <| gl_st (Sc rfl rfl (PRight_ct rs cap A c _ hg0 hH.zin hT hok hb) ?_)
 rintro _ w3 ⟨rfl, hF4⟩
 replace hH := hH.call hF4
 refine Go1 1 3 (errV (codE (printF (rs.map Rv.rl)))) <| Dn <| sw_sr <| Go1 1 13 (errV (codE (printF (rs.map Rv.rl)))) <| Gq rfl (rd_err_ne (by kernel_rfl) rfl) <| Dn <| If rfl (fun hc1 => ?_) (fun hc1 => ?_)
 have hpr : ¬ codE (printF (rs.map Rv.rl)) = 0 := hc1
 exact sw_sr <| Go1 2 2 (errV (codE (printF (rs.map Rv.rl)))) <| Dn <| Rt1 rfl rfl <| ep_no (sc_pr hpr) hpr (hH.sb sln)
 have hpr : codE (printF (rs.map Rv.rl)) = 0 := by simpa using hc1
 refine Sk <| sw_sr <| Gq rfl (La 0 [.slice A rs.length cap] hH rfl rfl) <| gl_st (Sc rfl rfl (SPlaces_ct rs cap A c _ hH.zin hT hok) ?_)
 rintro _ w6 ⟨m5, rfl, hF7⟩
 replace hH := hH.call hF7
 refine gl_st (Alc [.map none] rfl hH ?_)
 clear hH; intro b8 w9 hH
 refine gl_st (Ks 2 (.map (some m5)) rfl hH rfl rfl ?_)
 clear hH; intro w10 hH
 refine Dn <| sw_seq <| sw_sr <| Go1 1 18 (Pp b1 0) <| Gq rfl (Lk 0 hH rfl rfl rfl) <| Gq rfl (Ln (e := 43) rfl) <| Go1 1 21 (.int .i64 0) <| Dn <| sw_block ?_
 obtain ⟨pm, hpm⟩ : ∃ pm, placesF 0 (rs.map Rv.rl) [] = pm := ⟨_, rfl⟩
 replace hH := hH.fr2.fr3
 replace hH := (hH.sb (slk (slk (slk sln)))).n3
 replace hH := hH.cast (os' := [.blk b8 80 [.map (some m5)], .kmap m5 strK (vmap nI pm), .blk b1 24 [.slice A rs.length cap]]) (by rw [hpm]; rfl)
 refine Lp (γ := Nat) hH (fun i => [(1, Pp b1 0), (4, Pp b8 0), (19, .slice A rs.length cap), (20, Ni rs.length), (21, Ni i)]) (fun i w_ H_ => (doubleF pm 0 (rs.map Rv.rl) = doubleF pm i ((rs.drop i).map Rv.rl)) ∧ (i ≤ rs.length) ∧ H_ [.blk b8 80 [.map (some m5)], .kmap m5 strK (vmap nI pm), .blk b1 24 [.slice A rs.length cap]]) (fun i => rs.length - i) (0) ?_ ?_
 · exact ⟨rfl, Nat.zero_le _, hH⟩
 clear hH
 rintro i w11 ⟨hm, hi, hH⟩
 refine swk [(1, Pp b1 0), (4, Pp b8 0), (19, .slice A rs.length cap), (20, Ni rs.length), (21, Ni i)] <| sw_sr <| Go1 1 22 (.bool (decide ((i : Int) < ((rs.length : Nat) : Int)))) <| Dn <| sw_seq <| If rfl (fun hc2 => ?_) (fun hc2 => ?_)
 refine Sk <| sw_seq <| sw_block ?_
 obtain ⟨r, hx⟩ : ∃ r, rs[i]? = some r := ⟨_, List.getElem?_eq_getElem (by omega)⟩
 have hxm := List.mem_of_getElem? hx
 have hrb := hok r hxm
 refine sw_sr ?_
 obtain ⟨p12, hi14, hp13⟩ := hT.idx i (by omega) (by decide)
 refine Go1 1 23 (Ni i) <| Gq rfl (Ix (e := 43) 10 rfl rfl hi14) <| Gq rfl (rd_loadZA (by kernel_rfl) hH hp13 rfl 0 rfl [.string (bs r.name), .int .i64 r.body.kind, .string (bs r.body.text), .int .u64 ((r.body.cl.a : Nat) : Int), .int .u64 ((r.body.cl.b : Nat) : Int), .int .u64 ((r.body.cl.c : Nat) : Int), .int .u64 ((r.body.cl.d : Nat) : Int), .slice r.body.A r.body.subs.length r.body.cap, .int .i64 r.body.pos, .int .i64 r.pos] (by kernel_rfl) (rowC_all rvC_len hx 0 _ rfl)) <| gl_st (Alc [.string (bs []), .int .i64 0, .string (bs []), .int .u64 0, .int .u64 0, .int .u64 0, .int .u64 0, .slice none 0 0, .int .i64 0, .int .i64 0] rfl hH ?_)
 clear hH; intro b15 w16 hH
 refine Go1 1 5 (Ni i) <| gl_st (Ka 3 [.string (bs r.name), .int .i64 r.body.kind, .string (bs r.body.text), .int .u64 ((r.body.cl.a : Nat) : Int), .int .u64 ((r.body.cl.b : Nat) : Int), .int .u64 ((r.body.cl.c : Nat) : Int), .int .u64 ((r.body.cl.d : Nat) : Int), .slice r.body.A r.body.subs.length r.body.cap, .int .i64 r.body.pos, .int .i64 r.pos] [.string (bs r.name), .int .i64 r.body.kind, .string (bs r.body.text), .int .u64 ((r.body.cl.a : Nat) : Int), .int .u64 ((r.body.cl.b : Nat) : Int), .int .u64 ((r.body.cl.c : Nat) : Int), .int .u64 ((r.body.cl.d : Nat) : Int), .slice r.body.A r.body.subs.length r.body.cap, .int .i64 r.body.pos, .int .i64 r.pos] rfl hH rfl rfl ?_)
 clear hH; intro w17 hH
 refine Dn <| sw_sr <| Gq rfl (Lk 0 hH rfl rfl rfl) <| Go1 1 27 (Pp b15 0) <| Gq rfl (Lk 3 hH rfl rfl rfl) <| Gq rfl (rd_mapget (kt := 9) (e := 3) (zv := .int .i64 0) 1 (by kernel_rfl) (by kernel_rfl) strK_key (by kernel_rfl) hH rfl rfl r.name rfl) <| gl_cv 29 (Ni ((getT pm r.name).getD 0)) (kget_D nI _ _ 0) rfl <| Go1 2 31 (.bool ((((getT pm r.name).getD 0 : Nat) : Int) != (i : Int))) <| Dn <| If rfl (fun hc3 => ?_) (fun hc3 => ?_)
 have hq : ¬ (getT pm r.name).getD 0 = i := by have := hc3; omega
 refine sw_sr <| Go1 1 32 (Pp b15 9) <| Gq rfl (Lk 3 hH rfl rfl rfl) <| Go1 1 34 (.agg #[.int .i64 30, .int .i64 r.pos]) <| gl_st (Bx [.int .i64 30, .int .i64 r.pos] rfl hH ?_)
 clear hH; intro b18 w19 hH
 exact Go1 2 2 (.iface 94 (Pp b18 0)) <| Dn <| Rt1 rfl rfl <| ep_flt (sc_dbl (c := 30) (a := r.pos) hpr (by rw [hpm, hm, doubleF_at hx, if_neg hq])) (hH.sb (slc (slc (slc (slc (slk sln))))))
 have hq : (getT pm r.name).getD 0 = i := by have := hc3; omega
 refine sw_skip <| bkN <| sw_next <| sw_region <| Gw0 1 37 ((i : Int) + 1) ((i + 1 : Nat) : Int) <| Go1 1 21 (Ni (i + 1)) <| Dd <| rnd_end (g := (i)) (i + 1) (by kernel_rfl) ?_ ?_
 replace hH := (hH.sb (slk (slk (slk sln)))).n3
 · exact ⟨by rw [hm, doubleF_at hx, if_pos hq], by omega, hH⟩
 · show rs.length - (i + 1) < rs.length - i; omega
 refine sw_exit <| thX <| thX <| bkH <| sw_next <| sw_seq <| sw_sr <| Go1 1 38 (Pp b1 0) <| Gq rfl (Lk 2 hH rfl rfl rfl) <| Gq rfl (Ln (e := 43) rfl) <| Go1 1 41 (.int .i64 0) <| Dn <| sw_block ?_
 have hdn : doubleF (placesF 0 (rs.map Rv.rl) []) 0 (rs.map Rv.rl) = .nil := by rw [hpm, hm, List.drop_eq_nil_of_le (by omega)]; rfl
 clear hm hi
 replace hH := (hH.sb (slk (slk sln))).n2
 refine Lp (γ := Nat) hH (fun j => [(4, Pp b8 0), (39, .slice A rs.length cap), (40, Ni rs.length), (41, Ni j)]) (fun j w_ H_ => (namesF pm (rs.map Rv.rl) = namesF pm ((rs.drop j).map Rv.rl)) ∧ (j ≤ rs.length) ∧ H_ [.blk b8 80 [.map (some m5)], .kmap m5 strK (vmap nI pm)]) (fun j => rs.length - j) (0) ?_ ?_
 · exact ⟨rfl, Nat.zero_le _, hH⟩
 clear hH
 rintro j w20 ⟨hm, hi, hH⟩
 refine swk [(4, Pp b8 0), (39, .slice A rs.length cap), (40, Ni rs.length), (41, Ni j)] <| sw_sr <| Go1 1 42 (.bool (decide ((j : Int) < ((rs.length : Nat) : Int)))) <| Dn <| sw_seq <| If rfl (fun hc4 => ?_) (fun hc4 => ?_)
 refine Sk <| sw_seq <| sw_block ?_
 obtain ⟨r, hx⟩ : ∃ r, rs[j]? = some r := ⟨_, List.getElem?_eq_getElem (by omega)⟩
 have hxm := List.mem_of_getElem? hx
 have hrb := hok r hxm
 refine sw_sr ?_
 obtain ⟨p21, hi23, hp22⟩ := hT.idx j (by omega) (by decide)
 refine Gq rfl (Ix (e := 43) 10 rfl rfl hi23) <| Gq rfl (rd_loadZA (by kernel_rfl) hH hp22 rfl 0 rfl [.string (bs r.name), .int .i64 r.body.kind, .string (bs r.body.text), .int .u64 ((r.body.cl.a : Nat) : Int), .int .u64 ((r.body.cl.b : Nat) : Int), .int .u64 ((r.body.cl.c : Nat) : Int), .int .u64 ((r.body.cl.d : Nat) : Int), .slice r.body.A r.body.subs.length r.body.cap, .int .i64 r.body.pos, .int .i64 r.pos] (by kernel_rfl) (rowC_all rvC_len hx 0 _ rfl)) <| gl_st (Alc [.string (bs []), .int .i64 0, .string (bs []), .int .u64 0, .int .u64 0, .int .u64 0, .int .u64 0, .slice none 0 0, .int .i64 0, .int .i64 0] rfl hH ?_)
 clear hH; intro b24 w25 hH
 refine gl_st (Ka 2 [.string (bs r.name), .int .i64 r.body.kind, .string (bs r.body.text), .int .u64 ((r.body.cl.a : Nat) : Int), .int .u64 ((r.body.cl.b : Nat) : Int), .int .u64 ((r.body.cl.c : Nat) : Int), .int .u64 ((r.body.cl.d : Nat) : Int), .slice r.body.A r.body.subs.length r.body.cap, .int .i64 r.body.pos, .int .i64 r.pos] [.string (bs r.name), .int .i64 r.body.kind, .string (bs r.body.text), .int .u64 ((r.body.cl.a : Nat) : Int), .int .u64 ((r.body.cl.b : Nat) : Int), .int .u64 ((r.body.cl.c : Nat) : Int), .int .u64 ((r.body.cl.d : Nat) : Int), .slice r.body.A r.body.subs.length r.body.cap, .int .i64 r.body.pos, .int .i64 r.pos] rfl hH rfl rfl ?_)
 clear hH; intro w26 hH
 refine Dn <| sw_sr <| gl_st (Alc [.int .i64 0] rfl hH ?_)
 clear hH; intro b27 w28 hH
 refine gl_st (Ks 3 (.int .i64 0) rfl hH rfl rfl ?_)
 clear hH; intro w29 hH
 refine Dn <| sw_sr <| Go1 1 45 (Pp b24 1) <| Gq rfl (La 2 [.int .i64 r.body.kind, .string (bs r.body.text), .int .u64 ((r.body.cl.a : Nat) : Int), .int .u64 ((r.body.cl.b : Nat) : Int), .int .u64 ((r.body.cl.c : Nat) : Int), .int .u64 ((r.body.cl.d : Nat) : Int), .slice r.body.A r.body.subs.length r.body.cap, .int .i64 r.body.pos] hH rfl rfl) ?_
 replace hH := hH.fr4.fr3.fr3
 replace hH := Hp.close (l := ckL b8 m5 b27 pm 0) hH
 refine Go1 1 47 (.func (.func 176) #[] #[Pp b8 0, Pp b27 0]) ?_
 replace hH : Hp w w29 _ _ ([_] ++ [_]) := hH
 refine gl_st (Sc rfl rfl (SRefs_ct r.body 176 [Pp b8 0, Pp b27 0] (ckM b8 m5 b27 pm) (knownP pm) 0 c _ (by kernel_rfl) hrb.body hH.zoff hH.mine (fun x hx9 => SCk1_ct b8 m5 b27 pm c x hx9)) ?_)
 rintro _ w30 ⟨rfl, hF31⟩
 replace hH := hH.turns hF31
 replace hH := hH.n2
 replace hH := hH.fr2
 replace hH := Hp.open_ (l := ckL b8 m5 b27 pm (refsF (knownP pm) r.body.nd 0).2) hH
 refine Go1 1 10 (.bool ((refsF (knownP pm) r.body.nd 0).1)) <| Dn <| sw_sr <| Go1 2 50 (.bool (!((refsF (knownP pm) r.body.nd 0).1))) <| Dn <| If rfl (fun hc5 => ?_) (fun hc5 => ?_)
 have hq : (refsF (knownP pm) r.body.nd 0).1 = false := hc5
 refine sw_sr <| Gq rfl (Lk 2 hH rfl rfl rfl) <| Go1 1 52 (.agg #[.int .i64 31, .int .i64 ((refsF (knownP pm) r.body.nd 0).2)]) <| gl_st (Bx [.int .i64 31, .int .i64 ((refsF (knownP pm) r.body.nd 0).2)] rfl hH ?_)
 clear hH; intro b32 w33 hH
 exact Go1 2 2 (.iface 94 (Pp b32 0)) <| Dn <| Rt1 rfl rfl <| ep_flt (c := 31) (a := (refsF (knownP pm) r.body.nd 0).2) (by rw [sc_nm hpr hdn, hpm, hm, namesF_at hx, hq]; rfl) (hH.sb (slc (slc (slc (slc (slk sln))))))
 have hq : (refsF (knownP pm) r.body.nd 0).1 = true := hc5
 refine sw_skip <| bkN <| sw_next <| sw_region <| Gw0 1 55 ((j : Int) + 1) ((j + 1 : Nat) : Int) <| Go1 1 41 (Ni (j + 1)) <| Dd <| rnd_end (g := (j)) (j + 1) (by kernel_rfl) ?_ ?_
 replace hH := (hH.sb (slk (slk sln))).n2
 · exact ⟨by rw [hm, namesF_at hx, hq]; rfl, by omega, hH⟩
 · show rs.length - (j + 1) < rs.length - j; omega
 exact sw_exit <| thX <| thX <| bkH <| sw_next <| sw_sr <| Go1 1 2 (.nilIface) <| Dn <| Rt1 rfl rfl <| ep_nil (by rw [sc_nm hpr hdn, hpm, hm, List.drop_eq_nil_of_le (by omega)]; rfl) (hH.sb sln)
theorem SFindC_ct (nb : Nat) (name : List UInt8) (r : Rv) (w : World) (h1 : w.cell? ⟨nb, 0, none⟩ = some (.string (bs name))) :
    Fun Tryz.prog 118 [.agg (rvC r).toArray, Pp nb 0] w fun v w' => v = .bool (r.name == name) ∧ Fresh w w' [] := by
 refine fun_of_sw Tryz.func118 rfl 8 rfl rfl ?_
 have hH := Hp.start w
 refine sw_sr <| gl_st (Bx [.string (bs r.name), .int .i64 r.body.kind, .string (bs r.body.text), .int .u64 ((r.body.cl.a : Nat) : Int), .int .u64 ((r.body.cl.b : Nat) : Int), .int .u64 ((r.body.cl.c : Nat) : Int), .int .u64 ((r.body.cl.d : Nat) : Int), .slice r.body.A r.body.subs.length r.body.cap, .int .i64 r.body.pos, .int .i64 r.pos] rfl hH ?_)
 clear hH; intro b1 w2 hH
 refine Go0 1 <| Dn <| sw_sr <| Go1 1 4 (Pp b1 0) <| Gq rfl (Lk 0 hH rfl rfl rfl) <| Gq rfl (rd_load (by kernel_rfl) rfl (hH.zin _ _ h1)) <| Gq rfl (rd_seql (by kernel_rfl) rfl rfl) <| Go1 1 3 (.bool (r.name == name)) <| Dn <| Rt1 rfl rfl ?_
 exact ⟨rfl, (hH.sb sln).fresh⟩
theorem SFind_ct (rs : List Rv) (name : List UInt8) (cap : Nat) (A : Option Addr) (c : Zone) (w : World) (hc : c.le w.cell?) (hT : Row c (.slice A rs.length cap) 10 rs.length (rowC rvC rs)) :
    Fun Tryz.prog 69 [.agg #[.slice A rs.length cap], .string (bs name)] w fun v w' => v = .int .i64 (findF name (rs.map Rv.rl)) ∧ Fresh w w' [] := by
 refine fun_of_sw Tryz.func69 rfl 9 rfl rfl ?_
 have hH := (Hp.start w).zsub hc
 refine sw_sr <| gl_st (Bx [.slice A rs.length cap] rfl hH ?_)
 clear hH; intro b1 w2 hH
 refine gl_st (Bx [.string (bs name)] rfl hH ?_)
 clear hH; intro b3 w4 hH
 refine Go0 1 <| Dn <| sw_sr <| Go1 1 5 (Pp b1 0) <| Gq rfl (Lk 0 hH rfl rfl rfl) <| Go1 1 7 (.func (.func 118) #[] #[Pp b3 0]) <| gl_st (Sc rfl rfl (IdxRl0 118 [Pp b3 0] (fun r => r.name == name) cap A rs _ _ (by kernel_rfl) (Zone.le.refl _) (hT.mono hH.zin) (fun x hx w9 hle => SFindC_ct b3 name x w9 (hle _ _ (hH.blk_cell 1 rfl rfl)))) ?_)
 rintro _ w5 ⟨rfl, hF6⟩
 replace hH := hH.call hF6
 refine Go1 1 4 (.int .i64 (if (rs.any fun r => r.name == name) then ((rs.findIdx fun r => r.name == name : Nat) : Int) else -1)) <| Dn <| Rt1 rfl rfl ?_
 exact ⟨by rw [findF_rv], (hH.sb sln).fresh⟩
end Go.Proofs.YtllfpnbhjfadiaaGreatDoor
/- Layer 7 (nullable): plain mathematics: what an expression may come to. -/
set_option linter.unusedVariables false
namespace Go.Proofs.YtllfpnbhjfadiaaGreatDoor
open Go.RowKit Go.SW
structure Ou where
  z : Bool
  s : Bool
  f : Bool
  deriving DecidableEq
def Ou.no : Ou := ⟨false, false, false⟩
def ouC (o : Ou) : List Value := [.bool o.z, .bool o.s, .bool o.f]
def ouV (o : Ou) : Value := .agg (ouC o).toArray
def behindF (a b : Ou) : Ou := ⟨a.z && b.z, (a.s && (b.z || b.s)) || ((a.z || a.s) && b.s), a.f || ((a.z || a.s) && b.f)⟩
def insteadF (a b : Ou) : Ou := if a.f then ⟨a.z || b.z, a.s || b.s, b.f⟩ else a
def aloneF (k : Int) (a : Ou) : Ou :=
  if k = 8 then ⟨a.z || a.f, a.s, false⟩ else if k = 9 then ⟨a.f, a.s, false⟩ else if k = 10 then ⟨a.z && a.f, a.s, a.f⟩ else if k = 11 then ⟨a.z || a.s, false, a.f⟩ else if k = 12 then ⟨a.f, false, a.z || a.s⟩ else Ou.no
abbrev Tab := List (List UInt8 × Ou)
mutual
/-- What an expression may come to, of what is known of rules. -/
def outF (T : Tab) : Nd → Ou
  | .mk k t c s _ =>
    if k = 1 then ⟨true, false, false⟩ else if k = 5 then (getT T t).getD Ou.no else if k = 2 then ⟨t == [], !(t == []), !(t == [])⟩ else if k = 3 then ⟨false, !c.isZ, true⟩ else if k = 4 then ⟨false, true, true⟩ else
    if k = 6 then outSeq T s ⟨true, false, false⟩ else if k = 7 then outAlt T s ⟨false, false, true⟩ else aloneF k (outHd T s)
def outHd (T : Tab) : List Nd → Ou
  | [] => Ou.no
  | x :: _ => outF T x
def outSeq (T : Tab) : List Nd → Ou → Ou
  | [], o => o
  | x :: s, o => outSeq T s (behindF o (outF T x))
def outAlt (T : Tab) : List Nd → Ou → Ou
  | [], o => o
  | x :: s, o => outAlt T s (insteadF o (outF T x))
end
theorem outF_eq (T : Tab) (t : Tv) : outF T t.nd =
    if t.kind = 1 then ⟨true, false, false⟩ else if t.kind = 5 then (getT T t.text).getD Ou.no else if t.kind = 2 then ⟨t.text == [], !(t.text == []), !(t.text == [])⟩ else if t.kind = 3 then ⟨false, !t.cl.isZ, true⟩ else if t.kind = 4 then ⟨false, true, true⟩ else
    if t.kind = 6 then outSeq T (Tv.nds t.subs) ⟨true, false, false⟩ else if t.kind = 7 then outAlt T (Tv.nds t.subs) ⟨false, false, true⟩ else aloneF t.kind (outHd T (Tv.nds t.subs)) := by
  cases t with
  | mk k t c A cap s p => rw [Tv.nd, outF]; rfl
section
variable {T : Tab} {s : List Tv} {i : Nat} {x : Tv} {o : Ou}
theorem outSeq_at (h : s[i]? = some x) : outSeq T (Tv.nds (s.drop i)) o = outSeq T (Tv.nds (s.drop (i + 1))) (behindF o (outF T x.nd)) := by
  obtain ⟨hi, rfl⟩ := List.getElem?_eq_some_iff.1 h
  rw [List.drop_eq_getElem_cons hi, Tv.nds, outSeq]
theorem outAlt_at (h : s[i]? = some x) : outAlt T (Tv.nds (s.drop i)) o = outAlt T (Tv.nds (s.drop (i + 1))) (insteadF o (outF T x.nd)) := by
  obtain ⟨hi, rfl⟩ := List.getElem?_eq_some_iff.1 h
  rw [List.drop_eq_getElem_cons hi, Tv.nds, outAlt]
theorem outHd_at (h : s[0]? = some x) : outHd T (Tv.nds s) = outF T x.nd := by
  cases s with
  | nil => simp at h
  | cons a s => cases h; rw [Tv.nds, outHd]
end
def passF : List Rl → Tab → Bool → Tab × Bool
  | [], T, a => (T, a)
  | r :: rs, T, a => if outF T r.body ≠ (getT T r.name).getD Ou.no then passF rs (putT T r.name (outF T r.body)) true else passF rs T a
def iterF (rs : List Rl) : Nat → Tab → Tab
  | 0, T => T
  | k + 1, T => if (passF rs T false).2 then iterF rs k (passF rs T false).1 else (passF rs T false).1
def rulesT (rs : List Rl) : Tab := iterF rs (3 * rs.length + 1) []
theorem passF_at {s : List Rv} {i : Nat} {x : Rv} (h : s[i]? = some x) (T : Tab) (a : Bool) : passF ((s.drop i).map Rv.rl) T a = if outF T x.body.nd ≠ (getT T x.name).getD Ou.no then passF ((s.drop (i + 1)).map Rv.rl) (putT T x.name (outF T x.body.nd)) true else passF ((s.drop (i + 1)).map Rv.rl) T a := by
  obtain ⟨hi, rfl⟩ := List.getElem?_eq_some_iff.1 h
  rw [List.drop_eq_getElem_cons hi, List.map_cons, passF]; rfl
def Ou.le (a b : Ou) : Prop := (a.z = true → b.z = true) ∧ (a.s = true → b.s = true) ∧ (a.f = true → b.f = true)
theorem Ou.le_refl (a : Ou) : a.le a := ⟨id, id, id⟩
theorem Ou.le_trans {a b c : Ou} (h : a.le b) (k : b.le c) : a.le c := ⟨fun e => k.1 (h.1 e), fun e => k.2.1 (h.2.1 e), fun e => k.2.2 (h.2.2 e)⟩
theorem Ou.no_le (a : Ou) : Ou.no.le a := by unfold Ou.no Ou.le; simp
theorem behind_mono {a a' b b' : Ou} (h : a.le a') (k : b.le b') : (behindF a b).le (behindF a' b') := by
  obtain ⟨az, aq, af⟩ := a
  obtain ⟨az', aq', af'⟩ := a'
  obtain ⟨bz, bq, bf⟩ := b
  obtain ⟨bz', bq', bf'⟩ := b'
  simp only [Ou.le, behindF] at *
  revert h k
  revert az aq af az' aq' af' bz bq bf bz' bq' bf'
  decide +kernel
theorem instead_mono {a a' b b' : Ou} (h : a.le a') (k : b.le b') : (insteadF a b).le (insteadF a' b') := by
  obtain ⟨az, aq, af⟩ := a
  obtain ⟨az', aq', af'⟩ := a'
  obtain ⟨bz, bq, bf⟩ := b
  obtain ⟨bz', bq', bf'⟩ := b'
  simp only [Ou.le, insteadF] at *
  revert h k
  revert az aq af az' aq' af' bz bq bf bz' bq' bf'
  decide +kernel
theorem alone_mono (k : Int) {a a' : Ou} (h : a.le a') : (aloneF k a).le (aloneF k a') := by
  obtain ⟨az, aq, af⟩ := a
  obtain ⟨az', aq', af'⟩ := a'
  unfold aloneF
  simp only [Ou.le] at h
  repeat' split
  all_goals
    simp only [Ou.le, Ou.no]
    revert h
    revert az aq af az' aq' af'
    decide +kernel
def Tab.le (T T' : Tab) : Prop := ∀ k, ((getT T k).getD Ou.no).le ((getT T' k).getD Ou.no)
def MonoN (n : Nd) : Prop := ∀ T T' : Tab, T.le T' → (outF T n).le (outF T' n)
theorem seq_mono {T T' : Tab} (h : T.le T') : ∀ (s : List Nd), (∀ x ∈ s, MonoN x) → ∀ o o' : Ou, o.le o' → (outSeq T s o).le (outSeq T' s o')
  | [], _, o, o', ho => by rw [outSeq, outSeq]; exact ho
  | x :: s, H, o, o', ho => by
    rw [outSeq, outSeq]
    exact seq_mono h s (fun y hy => H y (List.mem_cons_of_mem x hy)) _ _ (behind_mono ho (H x (List.mem_cons_self ..) T T' h))
theorem alt_mono {T T' : Tab} (h : T.le T') : ∀ (s : List Nd), (∀ x ∈ s, MonoN x) → ∀ o o' : Ou, o.le o' → (outAlt T s o).le (outAlt T' s o')
  | [], _, o, o', ho => by rw [outAlt, outAlt]; exact ho
  | x :: s, H, o, o', ho => by
    rw [outAlt, outAlt]
    exact alt_mono h s (fun y hy => H y (List.mem_cons_of_mem x hy)) _ _ (instead_mono ho (H x (List.mem_cons_self ..) T T' h))
theorem mono_mk {k : Int} {t : List UInt8} {c : Cl} {s : List Nd} {p : Int} (H : ∀ x ∈ s, MonoN x) : MonoN (.mk k t c s p) := by
  intro T T' h
  rw [outF, outF]
  repeat' split
  all_goals first
    | exact Ou.le_refl _
    | exact h t
    | exact seq_mono h s H _ _ (Ou.le_refl _)
    | exact alt_mono h s H _ _ (Ou.le_refl _)
    | skip
  refine alone_mono k ?_
  cases s with
  | nil => rw [outHd, outHd]; exact Ou.le_refl _
  | cons x s => rw [outHd, outHd]; exact H x (List.mem_cons_self ..) T T' h
theorem outF_mono (n : Nd) : MonoN n := by
  suffices ∀ N, ∀ n : Nd, n.size ≤ N → MonoN n from this _ n (Nat.le_refl _)
  intro N
  induction N with
  | zero => intro n hn; cases n; rw [Nd.size] at hn; omega
  | succ N ih =>
    intro n hn
    cases n with
    | mk k t c s p =>
      rw [Nd.size] at hn
      exact mono_mk fun x hx => ih x (by have := Nd.size_mem hx; omega)
def Good (rs : List Rl) (T : Tab) : Prop := ∀ r ∈ rs, ((getT T r.name).getD Ou.no).le (outF T r.body)
def Ou.wt (o : Ou) : Nat := (if o.z then 0 else 1) + (if o.s then 0 else 1) + (if o.f then 0 else 1)
def wtT (T : Tab) : List Rl → Nat
  | [] => 0
  | r :: rs => ((getT T r.name).getD Ou.no).wt + wtT T rs
theorem Ou.wt_le {a b : Ou} (h : a.le b) : b.wt ≤ a.wt := by
  obtain ⟨az, aq, af⟩ := a
  obtain ⟨bz, bq, bf⟩ := b
  simp only [Ou.le, Ou.wt] at *
  revert h
  revert az aq af bz bq bf
  decide +kernel
theorem Ou.wt_lt {a b : Ou} (h : a.le b) (hn : b ≠ a) : b.wt < a.wt := by
  obtain ⟨az, aq, af⟩ := a
  obtain ⟨bz, bq, bf⟩ := b
  simp only [Ou.le, Ou.wt, ne_eq, Ou.mk.injEq] at *
  revert h hn
  revert az aq af bz bq bf
  decide +kernel
theorem wtT_le {T T' : Tab} (h : T.le T') : ∀ rs : List Rl, wtT T' rs ≤ wtT T rs
  | [] => Nat.le_refl _
  | r :: rs => by
    have h1 := Ou.wt_le (h r.name)
    have h2 := wtT_le h rs
    rw [wtT, wtT]; omega
theorem wtT_lt {T T' : Tab} (h : T.le T') {r : Rl} (hn : (getT T' r.name).getD Ou.no ≠ (getT T r.name).getD Ou.no) : ∀ {rs : List Rl}, r ∈ rs → wtT T' rs < wtT T rs
  | a :: rs, hr => by
    rw [wtT, wtT]
    rcases List.mem_cons.1 hr with rfl | hr
    · have h1 := Ou.wt_lt (h r.name) hn
      have h2 := wtT_le h rs
      omega
    · have h1 := Ou.wt_le (h a.name)
      have h2 := wtT_lt h hn hr
      omega
theorem put_le {T : Tab} {k : List UInt8} {o : Ou} (h : ((getT T k).getD Ou.no).le o) : T.le (putT T k o) := fun q => by
  rw [getT_put]
  split
  · rename_i e; rw [← e]; exact h
  · exact Ou.le_refl _
def Uniq (rs : List Rl) : Prop := (rs.map (·.name)).Nodup
theorem uniq_body {rs : List Rl} (hu : Uniq rs) {r q : Rl} (hr : r ∈ rs) (hq : q ∈ rs) (e : r.name = q.name) : r = q := by
  unfold Uniq at hu
  induction rs with
  | nil => cases hr
  | cons a rs ih =>
    rw [List.map_cons, List.nodup_cons] at hu
    rcases List.mem_cons.1 hr with e1 | hr <;> rcases List.mem_cons.1 hq with e2 | hq
    · rw [e1, e2]
    · exact absurd (List.mem_map.2 ⟨q, hq, by rw [← e, e1]⟩) hu.1
    · exact absurd (List.mem_map.2 ⟨r, hr, by rw [e, e2]⟩) hu.1
    · exact ih hu.2 hr hq
theorem good_put {rs : List Rl} (hu : Uniq rs) {T : Tab} (hg : Good rs T) {r : Rl} (hr : r ∈ rs) : Good rs (putT T r.name (outF T r.body)) := fun q hq => by
  have hle := put_le (hg r hr)
  rw [getT_put]
  split
  · rename_i e
    obtain rfl := uniq_body hu hr hq e
    exact outF_mono r.body _ _ hle
  · exact Ou.le_trans (hg q hq) (outF_mono q.body _ _ hle)
/-- One rule of a pass: what holds behind it. -/
structure PassI (rs : List Rl) (T0 T : Tab) (a : Bool) : Prop where
  good : Good rs T
  le : T0.le T
  lt : a = true → wtT T rs < wtT T0 rs
theorem PassI.start {rs : List Rl} {T : Tab} (h : Good rs T) : PassI rs T T false := ⟨h, fun _ => Ou.le_refl _, fun e => by cases e⟩
theorem PassI.put {rs : List Rl} (hu : Uniq rs) {T0 T : Tab} {a : Bool} (h : PassI rs T0 T a) {r : Rl} (hr : r ∈ rs) (hn : outF T r.body ≠ (getT T r.name).getD Ou.no) : PassI rs T0 (putT T r.name (outF T r.body)) true := by
  have hle := put_le (h.good r hr)
  refine ⟨good_put hu h.good hr, fun k => Ou.le_trans (h.le k) (hle k), fun _ => ?_⟩
  have h1 : wtT (putT T r.name (outF T r.body)) rs < wtT T rs := wtT_lt hle (r := r) (by rw [getT_put, if_pos rfl]; exact hn) hr
  have h2 := wtT_le h.le rs
  omega
theorem good_nil (rs : List Rl) : Good rs [] := fun r _ => Ou.no_le _
theorem wt_nil : ∀ rs : List Rl, wtT [] rs ≤ 3 * rs.length
  | [] => Nat.le_refl _
  | r :: rs => by
    have := wt_nil rs
    have h3 : ∀ o : Ou, o.wt ≤ 3 := fun o => by unfold Ou.wt; split <;> split <;> split <;> omega
    have := h3 ((getT ([] : Tab) r.name).getD Ou.no)
    rw [wtT, List.length_cons]; omega
end Go.Proofs.YtllfpnbhjfadiaaGreatDoor
/- Layer 7 (nullable): what expressions may come to: what the program's functions answer. -/
set_option maxRecDepth 100000
set_option maxHeartbeats 2000000
set_option linter.unusedVariables false
set_option linter.unusedSimpArgs false
namespace Go.Proofs.YtllfpnbhjfadiaaGreatDoor
open Go.RowKit Go.SW
theorem okHd_one {k : Int} {t : List UInt8} {n : Nat} (h : okHd k t n = true) (h8 : 8 ≤ k) : n = 1 := by
  unfold okHd at h
  have hk := okHd_kind (k := k) (t := t) (n := n) h
  rw [if_neg (by omega), if_neg (by omega), if_neg (by omega), if_neg (by omega), if_pos (by omega)] at h
  simp only [Bool.and_eq_true, beq_iff_eq] at h
  omega

theorem NBehind_ct (a b : Ou) (w : World) :
    Fun Tryz.prog 201 [ouV a, ouV b] w fun v w' => v = ouV (behindF a b) ∧ Fresh w w' [] := by
 obtain ⟨az, aq, af⟩ := a
 obtain ⟨bz, bq, bf⟩ := b
 refine fun_of_sw Tryz.func201 rfl 47 rfl rfl ?_
 have hH := Hp.start w
 refine sw_sr <| gl_st (Bx [.bool az, .bool aq, .bool af] rfl hH ?_)
 clear hH; intro b1 w2 hH
 refine gl_st (Bx [.bool bz, .bool bq, .bool bf] rfl hH ?_)
 clear hH; intro b3 w4 hH
 refine gl_st (Alc [.bool false, .bool false, .bool false] rfl hH ?_)
 clear hH; intro b5 w6 hH
 refine Dn <| sw_seq <| Dr hH (slk (slk (slk sln))) ?_
 clear hH; intro w7 hH hS9
 refine Gp1 1 [0] 7 (Pp b1 0) hS9 <| Dq 1 rfl (fun _ hS => (Lk 0 hS rfl rfl rfl)) hS9 <| Gp1 1 [2] 9 (.bool az) hS9 <| gd_split 9 (b := az) rfl (fun hg1 => ?_) (fun hg1 => ?_)
 obtain rfl : az = true := by simpa using hg1
 refine Gp2 4 [3,4,5,6] 12 (.bool true) 13 (Pp b3 0) hS9 <| Dq 7 rfl (fun _ hS => (Lk 1 hS rfl rfl rfl)) hS9 <| Gp1 1 [8] 15 (.bool bz) hS9 <| gd_split 15 (b := bz) rfl (fun hg2 => ?_) (fun hg2 => ?_)
 obtain rfl : bz = true := by simpa using hg2
 refine Gp2 5 [9,10,11,12,13] 5 (.bool true) 6 (.bool true) hS9 <| gdn [(2, Pp b1 0), (3, Pp b3 0), (4, Pp b5 0), (5, .bool true), (6, .bool true)] <| sw_next <| sw_sr <| Go1 1 19 (Pp b1 0) <| Gq rfl (Lk 0 hH rfl rfl rfl) <| Go2 2 21 (.bool true) 22 (Pp b3 0) <| Gq rfl (Lk 1 hH rfl rfl rfl) <| Go2 2 24 (.bool true) 25 (Pp b1 1) <| Gq rfl (Lk 0 hH rfl rfl rfl) <| Go1 1 27 (.bool aq) <| gl_split 27 (b := aq) rfl (fun hg3 => ?_) (fun hg3 => ?_)
 obtain rfl : aq = true := by simpa using hg3
 refine Go2 10 36 (.bool true) 37 (Pp b1 2) <| Gq rfl (Lk 0 hH rfl rfl rfl) <| Go1 1 39 (.bool af) <| gl_split 39 (b := af) rfl (fun hg4 => ?_) (fun hg4 => ?_)
 obtain rfl : af = true := by simpa using hg4
 refine Go1 7 46 (.agg #[.bool true, .bool true, .bool true]) <| gl_st (Ka 2 [.bool true, .bool true, .bool true] [.bool true, .bool true, .bool true] rfl hH rfl rfl ?_)
 clear hH; intro w8 hH
 refine Dn <| sw_ret <| retC1 rfl (RS.cellA hH 2 (by kernel_rfl) rfl rfl (by kernel_rfl) [.bool true, .bool true, .bool true] rfl rfl) ?_
 exact ⟨by first | rfl | (simp [ouV, ouC, behindF, insteadF, aloneF]), (hH.sb sln).fresh⟩
 obtain rfl : af = false := by simpa using hg4
 refine Go2 3 41 (.bool true) 42 (Pp b3 2) <| Gq rfl (Lk 1 hH rfl rfl rfl) <| Go1 3 46 (.agg #[.bool true, .bool true, .bool bf]) <| gl_st (Ka 2 [.bool true, .bool true, .bool bf] [.bool true, .bool true, .bool bf] rfl hH rfl rfl ?_)
 clear hH; intro w9 hH
 refine Dn <| sw_ret <| retC1 rfl (RS.cellA hH 2 (by kernel_rfl) rfl rfl (by kernel_rfl) [.bool true, .bool true, .bool bf] rfl rfl) ?_
 exact ⟨by first | rfl | (simp [ouV, ouC, behindF, insteadF, aloneF]), (hH.sb sln).fresh⟩
 obtain rfl : aq = false := by simpa using hg3
 refine Go3 6 30 (.bool false) 32 (.bool true) 33 (Pp b3 1) <| Gq rfl (Lk 1 hH rfl rfl rfl) <| Go2 3 36 (.bool bq) 37 (Pp b1 2) <| Gq rfl (Lk 0 hH rfl rfl rfl) <| Go1 1 39 (.bool af) <| gl_split 39 (b := af) rfl (fun hg5 => ?_) (fun hg5 => ?_)
 obtain rfl : af = true := by simpa using hg5
 refine Go1 7 46 (.agg #[.bool true, .bool bq, .bool true]) <| gl_st (Ka 2 [.bool true, .bool bq, .bool true] [.bool true, .bool bq, .bool true] rfl hH rfl rfl ?_)
 clear hH; intro w10 hH
 refine Dn <| sw_ret <| retC1 rfl (RS.cellA hH 2 (by kernel_rfl) rfl rfl (by kernel_rfl) [.bool true, .bool bq, .bool true] rfl rfl) ?_
 exact ⟨by first | rfl | (simp [ouV, ouC, behindF, insteadF, aloneF]), (hH.sb sln).fresh⟩
 obtain rfl : af = false := by simpa using hg5
 refine Go2 3 41 (.bool true) 42 (Pp b3 2) <| Gq rfl (Lk 1 hH rfl rfl rfl) <| Go1 3 46 (.agg #[.bool true, .bool bq, .bool bf]) <| gl_st (Ka 2 [.bool true, .bool bq, .bool bf] [.bool true, .bool bq, .bool bf] rfl hH rfl rfl ?_)
 clear hH; intro w11 hH
 refine Dn <| sw_ret <| retC1 rfl (RS.cellA hH 2 (by kernel_rfl) rfl rfl (by kernel_rfl) [.bool true, .bool bq, .bool bf] rfl rfl) ?_
 exact ⟨by first | rfl | (simp [ouV, ouC, behindF, insteadF, aloneF]), (hH.sb sln).fresh⟩
 obtain rfl : bz = false := by simpa using hg2
 refine Gp1 1 [9] 16 (Pp b3 1) hS9 <| Dq 10 rfl (fun _ hS => (Lk 1 hS rfl rfl rfl)) hS9 <| Gp2 3 [11,12,13] 5 (.bool true) 6 (.bool bq) hS9 <| gdn [(2, Pp b1 0), (3, Pp b3 0), (4, Pp b5 0), (5, .bool true), (6, .bool bq)] <| sw_next <| sw_sr <| Go1 1 19 (Pp b1 0) <| Gq rfl (Lk 0 hH rfl rfl rfl) <| Go2 2 21 (.bool true) 22 (Pp b3 0) <| Gq rfl (Lk 1 hH rfl rfl rfl) <| Go2 2 24 (.bool false) 25 (Pp b1 1) <| Gq rfl (Lk 0 hH rfl rfl rfl) <| Go1 1 27 (.bool aq) <| gl_split 27 (b := aq) rfl (fun hg6 => ?_) (fun hg6 => ?_)
 obtain rfl : aq = true := by simpa using hg6
 refine Go1 3 30 (.bool bq) <| gl_split 30 (b := bq) rfl (fun hg7 => ?_) (fun hg7 => ?_)
 obtain rfl : bq = true := by simpa using hg7
 refine Go2 7 36 (.bool true) 37 (Pp b1 2) <| Gq rfl (Lk 0 hH rfl rfl rfl) <| Go1 1 39 (.bool af) <| gl_split 39 (b := af) rfl (fun hg8 => ?_) (fun hg8 => ?_)
 obtain rfl : af = true := by simpa using hg8
 refine Go1 7 46 (.agg #[.bool false, .bool true, .bool true]) <| gl_st (Ka 2 [.bool false, .bool true, .bool true] [.bool false, .bool true, .bool true] rfl hH rfl rfl ?_)
 clear hH; intro w12 hH
 refine Dn <| sw_ret <| retC1 rfl (RS.cellA hH 2 (by kernel_rfl) rfl rfl (by kernel_rfl) [.bool false, .bool true, .bool true] rfl rfl) ?_
 exact ⟨by first | rfl | (simp [ouV, ouC, behindF, insteadF, aloneF]), (hH.sb sln).fresh⟩
 obtain rfl : af = false := by simpa using hg8
 refine Go2 3 41 (.bool true) 42 (Pp b3 2) <| Gq rfl (Lk 1 hH rfl rfl rfl) <| Go1 3 46 (.agg #[.bool false, .bool true, .bool bf]) <| gl_st (Ka 2 [.bool false, .bool true, .bool bf] [.bool false, .bool true, .bool bf] rfl hH rfl rfl ?_)
 clear hH; intro w13 hH
 refine Dn <| sw_ret <| retC1 rfl (RS.cellA hH 2 (by kernel_rfl) rfl rfl (by kernel_rfl) [.bool false, .bool true, .bool bf] rfl rfl) ?_
 exact ⟨by first | rfl | (simp [ouV, ouC, behindF, insteadF, aloneF]), (hH.sb sln).fresh⟩
 obtain rfl : bq = false := by simpa using hg7
 refine Go2 3 32 (.bool true) 33 (Pp b3 1) <| Gq rfl (Lk 1 hH rfl rfl rfl) <| Go2 3 36 (.bool false) 37 (Pp b1 2) <| Gq rfl (Lk 0 hH rfl rfl rfl) <| Go1 1 39 (.bool af) <| gl_split 39 (b := af) rfl (fun hg9 => ?_) (fun hg9 => ?_)
 obtain rfl : af = true := by simpa using hg9
 refine Go1 7 46 (.agg #[.bool false, .bool false, .bool true]) <| gl_st (Ka 2 [.bool false, .bool false, .bool true] [.bool false, .bool false, .bool true] rfl hH rfl rfl ?_)
 clear hH; intro w14 hH
 refine Dn <| sw_ret <| retC1 rfl (RS.cellA hH 2 (by kernel_rfl) rfl rfl (by kernel_rfl) [.bool false, .bool false, .bool true] rfl rfl) ?_
 exact ⟨by first | rfl | (simp [ouV, ouC, behindF, insteadF, aloneF]), (hH.sb sln).fresh⟩
 obtain rfl : af = false := by simpa using hg9
 refine Go2 3 41 (.bool true) 42 (Pp b3 2) <| Gq rfl (Lk 1 hH rfl rfl rfl) <| Go1 3 46 (.agg #[.bool false, .bool false, .bool bf]) <| gl_st (Ka 2 [.bool false, .bool false, .bool bf] [.bool false, .bool false, .bool bf] rfl hH rfl rfl ?_)
 clear hH; intro w15 hH
 refine Dn <| sw_ret <| retC1 rfl (RS.cellA hH 2 (by kernel_rfl) rfl rfl (by kernel_rfl) [.bool false, .bool false, .bool bf] rfl rfl) ?_
 exact ⟨by first | rfl | (simp [ouV, ouC, behindF, insteadF, aloneF]), (hH.sb sln).fresh⟩
 obtain rfl : aq = false := by simpa using hg6
 refine Go3 6 30 (.bool false) 32 (.bool true) 33 (Pp b3 1) <| Gq rfl (Lk 1 hH rfl rfl rfl) <| Go2 3 36 (.bool bq) 37 (Pp b1 2) <| Gq rfl (Lk 0 hH rfl rfl rfl) <| Go1 1 39 (.bool af) <| gl_split 39 (b := af) rfl (fun hg10 => ?_) (fun hg10 => ?_)
 obtain rfl : af = true := by simpa using hg10
 refine Go1 7 46 (.agg #[.bool false, .bool bq, .bool true]) <| gl_st (Ka 2 [.bool false, .bool bq, .bool true] [.bool false, .bool bq, .bool true] rfl hH rfl rfl ?_)
 clear hH; intro w16 hH
 refine Dn <| sw_ret <| retC1 rfl (RS.cellA hH 2 (by kernel_rfl) rfl rfl (by kernel_rfl) [.bool false, .bool bq, .bool true] rfl rfl) ?_
 exact ⟨by first | rfl | (simp [ouV, ouC, behindF, insteadF, aloneF]), (hH.sb sln).fresh⟩
 obtain rfl : af = false := by simpa using hg10
 refine Go2 3 41 (.bool true) 42 (Pp b3 2) <| Gq rfl (Lk 1 hH rfl rfl rfl) <| Go1 3 46 (.agg #[.bool false, .bool bq, .bool bf]) <| gl_st (Ka 2 [.bool false, .bool bq, .bool bf] [.bool false, .bool bq, .bool bf] rfl hH rfl rfl ?_)
 clear hH; intro w17 hH
 refine Dn <| sw_ret <| retC1 rfl (RS.cellA hH 2 (by kernel_rfl) rfl rfl (by kernel_rfl) [.bool false, .bool bq, .bool bf] rfl rfl) ?_
 exact ⟨by first | rfl | (simp [ouV, ouC, behindF, insteadF, aloneF]), (hH.sb sln).fresh⟩
 obtain rfl : az = false := by simpa using hg1
 refine Gp1 1 [3] 10 (Pp b1 1) hS9 <| Dq 4 rfl (fun _ hS => (Lk 0 hS rfl rfl rfl)) hS9 <| Gp2 2 [5,6] 12 (.bool aq) 13 (Pp b3 0) hS9 <| Dq 7 rfl (fun _ hS => (Lk 1 hS rfl rfl rfl)) hS9 <| Gp1 1 [8] 15 (.bool bz) hS9 <| gd_split 15 (b := bz) rfl (fun hg11 => ?_) (fun hg11 => ?_)
 obtain rfl : bz = true := by simpa using hg11
 refine Gp2 5 [9,10,11,12,13] 5 (.bool aq) 6 (.bool true) hS9 <| gdn [(2, Pp b1 0), (3, Pp b3 0), (4, Pp b5 0), (5, .bool aq), (6, .bool true)] <| sw_next <| sw_sr <| Go1 1 19 (Pp b1 0) <| Gq rfl (Lk 0 hH rfl rfl rfl) <| Go2 5 24 (.bool false) 25 (Pp b1 1) <| Gq rfl (Lk 0 hH rfl rfl rfl) <| Go1 1 27 (.bool aq) <| gl_split 27 (b := aq) rfl (fun hg12 => ?_) (fun hg12 => ?_)
 obtain rfl : aq = true := by simpa using hg12
 refine Go2 10 36 (.bool true) 37 (Pp b1 2) <| Gq rfl (Lk 0 hH rfl rfl rfl) <| Go1 1 39 (.bool af) <| gl_split 39 (b := af) rfl (fun hg13 => ?_) (fun hg13 => ?_)
 obtain rfl : af = true := by simpa using hg13
 refine Go1 7 46 (.agg #[.bool false, .bool true, .bool true]) <| gl_st (Ka 2 [.bool false, .bool true, .bool true] [.bool false, .bool true, .bool true] rfl hH rfl rfl ?_)
 clear hH; intro w18 hH
 refine Dn <| sw_ret <| retC1 rfl (RS.cellA hH 2 (by kernel_rfl) rfl rfl (by kernel_rfl) [.bool false, .bool true, .bool true] rfl rfl) ?_
 exact ⟨by first | rfl | (simp [ouV, ouC, behindF, insteadF, aloneF]), (hH.sb sln).fresh⟩
 obtain rfl : af = false := by simpa using hg13
 refine Go2 3 41 (.bool true) 42 (Pp b3 2) <| Gq rfl (Lk 1 hH rfl rfl rfl) <| Go1 3 46 (.agg #[.bool false, .bool true, .bool bf]) <| gl_st (Ka 2 [.bool false, .bool true, .bool bf] [.bool false, .bool true, .bool bf] rfl hH rfl rfl ?_)
 clear hH; intro w19 hH
 refine Dn <| sw_ret <| retC1 rfl (RS.cellA hH 2 (by kernel_rfl) rfl rfl (by kernel_rfl) [.bool false, .bool true, .bool bf] rfl rfl) ?_
 exact ⟨by first | rfl | (simp [ouV, ouC, behindF, insteadF, aloneF]), (hH.sb sln).fresh⟩
 obtain rfl : aq = false := by simpa using hg12
 refine Go2 10 36 (.bool false) 37 (Pp b1 2) <| Gq rfl (Lk 0 hH rfl rfl rfl) <| Go1 1 39 (.bool af) <| gl_split 39 (b := af) rfl (fun hg14 => ?_) (fun hg14 => ?_)
 obtain rfl : af = true := by simpa using hg14
 refine Go1 7 46 (.agg #[.bool false, .bool false, .bool true]) <| gl_st (Ka 2 [.bool false, .bool false, .bool true] [.bool false, .bool false, .bool true] rfl hH rfl rfl ?_)
 clear hH; intro w20 hH
 refine Dn <| sw_ret <| retC1 rfl (RS.cellA hH 2 (by kernel_rfl) rfl rfl (by kernel_rfl) [.bool false, .bool false, .bool true] rfl rfl) ?_
 exact ⟨by first | rfl | (simp [ouV, ouC, behindF, insteadF, aloneF]), (hH.sb sln).fresh⟩
 obtain rfl : af = false := by simpa using hg14
 refine Go1 7 46 (.agg #[.bool false, .bool false, .bool false]) <| gl_st (Ka 2 [.bool false, .bool false, .bool false] [.bool false, .bool false, .bool false] rfl hH rfl rfl ?_)
 clear hH; intro w21 hH
 refine Dn <| sw_ret <| retC1 rfl (RS.cellA hH 2 (by kernel_rfl) rfl rfl (by kernel_rfl) [.bool false, .bool false, .bool false] rfl rfl) ?_
 exact ⟨by first | rfl | (simp [ouV, ouC, behindF, insteadF, aloneF]), (hH.sb sln).fresh⟩
 obtain rfl : bz = false := by simpa using hg11
 refine Gp1 1 [9] 16 (Pp b3 1) hS9 <| Dq 10 rfl (fun _ hS => (Lk 1 hS rfl rfl rfl)) hS9 <| Gp2 3 [11,12,13] 5 (.bool aq) 6 (.bool bq) hS9 <| gdn [(2, Pp b1 0), (3, Pp b3 0), (4, Pp b5 0), (5, .bool aq), (6, .bool bq)] <| sw_next <| sw_sr <| Go1 1 19 (Pp b1 0) <| Gq rfl (Lk 0 hH rfl rfl rfl) <| Go2 5 24 (.bool false) 25 (Pp b1 1) <| Gq rfl (Lk 0 hH rfl rfl rfl) <| Go1 1 27 (.bool aq) <| gl_split 27 (b := aq) rfl (fun hg15 => ?_) (fun hg15 => ?_)
 obtain rfl : aq = true := by simpa using hg15
 refine Go1 3 30 (.bool bq) <| gl_split 30 (b := bq) rfl (fun hg16 => ?_) (fun hg16 => ?_)
 obtain rfl : bq = true := by simpa using hg16
 refine Go2 7 36 (.bool true) 37 (Pp b1 2) <| Gq rfl (Lk 0 hH rfl rfl rfl) <| Go1 1 39 (.bool af) <| gl_split 39 (b := af) rfl (fun hg17 => ?_) (fun hg17 => ?_)
 obtain rfl : af = true := by simpa using hg17
 refine Go1 7 46 (.agg #[.bool false, .bool true, .bool true]) <| gl_st (Ka 2 [.bool false, .bool true, .bool true] [.bool false, .bool true, .bool true] rfl hH rfl rfl ?_)
 clear hH; intro w22 hH
 refine Dn <| sw_ret <| retC1 rfl (RS.cellA hH 2 (by kernel_rfl) rfl rfl (by kernel_rfl) [.bool false, .bool true, .bool true] rfl rfl) ?_
 exact ⟨by first | rfl | (simp [ouV, ouC, behindF, insteadF, aloneF]), (hH.sb sln).fresh⟩
 obtain rfl : af = false := by simpa using hg17
 refine Go2 3 41 (.bool true) 42 (Pp b3 2) <| Gq rfl (Lk 1 hH rfl rfl rfl) <| Go1 3 46 (.agg #[.bool false, .bool true, .bool bf]) <| gl_st (Ka 2 [.bool false, .bool true, .bool bf] [.bool false, .bool true, .bool bf] rfl hH rfl rfl ?_)
 clear hH; intro w23 hH
 refine Dn <| sw_ret <| retC1 rfl (RS.cellA hH 2 (by kernel_rfl) rfl rfl (by kernel_rfl) [.bool false, .bool true, .bool bf] rfl rfl) ?_
 exact ⟨by first | rfl | (simp [ouV, ouC, behindF, insteadF, aloneF]), (hH.sb sln).fresh⟩
 obtain rfl : bq = false := by simpa using hg16
 refine Go2 3 32 (.bool true) 33 (Pp b3 1) <| Gq rfl (Lk 1 hH rfl rfl rfl) <| Go2 3 36 (.bool false) 37 (Pp b1 2) <| Gq rfl (Lk 0 hH rfl rfl rfl) <| Go1 1 39 (.bool af) <| gl_split 39 (b := af) rfl (fun hg18 => ?_) (fun hg18 => ?_)
 obtain rfl : af = true := by simpa using hg18
 refine Go1 7 46 (.agg #[.bool false, .bool false, .bool true]) <| gl_st (Ka 2 [.bool false, .bool false, .bool true] [.bool false, .bool false, .bool true] rfl hH rfl rfl ?_)
 clear hH; intro w24 hH
 refine Dn <| sw_ret <| retC1 rfl (RS.cellA hH 2 (by kernel_rfl) rfl rfl (by kernel_rfl) [.bool false, .bool false, .bool true] rfl rfl) ?_
 exact ⟨by first | rfl | (simp [ouV, ouC, behindF, insteadF, aloneF]), (hH.sb sln).fresh⟩
 obtain rfl : af = false := by simpa using hg18
 refine Go2 3 41 (.bool true) 42 (Pp b3 2) <| Gq rfl (Lk 1 hH rfl rfl rfl) <| Go1 3 46 (.agg #[.bool false, .bool false, .bool bf]) <| gl_st (Ka 2 [.bool false, .bool false, .bool bf] [.bool false, .bool false, .bool bf] rfl hH rfl rfl ?_)
 clear hH; intro w25 hH
 refine Dn <| sw_ret <| retC1 rfl (RS.cellA hH 2 (by kernel_rfl) rfl rfl (by kernel_rfl) [.bool false, .bool false, .bool bf] rfl rfl) ?_
 exact ⟨by first | rfl | (simp [ouV, ouC, behindF, insteadF, aloneF]), (hH.sb sln).fresh⟩
 obtain rfl : aq = false := by simpa using hg15
 refine Go2 10 36 (.bool false) 37 (Pp b1 2) <| Gq rfl (Lk 0 hH rfl rfl rfl) <| Go1 1 39 (.bool af) <| gl_split 39 (b := af) rfl (fun hg19 => ?_) (fun hg19 => ?_)
 obtain rfl : af = true := by simpa using hg19
 refine Go1 7 46 (.agg #[.bool false, .bool false, .bool true]) <| gl_st (Ka 2 [.bool false, .bool false, .bool true] [.bool false, .bool false, .bool true] rfl hH rfl rfl ?_)
 clear hH; intro w26 hH
 refine Dn <| sw_ret <| retC1 rfl (RS.cellA hH 2 (by kernel_rfl) rfl rfl (by kernel_rfl) [.bool false, .bool false, .bool true] rfl rfl) ?_
 exact ⟨by first | rfl | (simp [ouV, ouC, behindF, insteadF, aloneF]), (hH.sb sln).fresh⟩
 obtain rfl : af = false := by simpa using hg19
 refine Go1 7 46 (.agg #[.bool false, .bool false, .bool false]) <| gl_st (Ka 2 [.bool false, .bool false, .bool false] [.bool false, .bool false, .bool false] rfl hH rfl rfl ?_)
 clear hH; intro w27 hH
 refine Dn <| sw_ret <| retC1 rfl (RS.cellA hH 2 (by kernel_rfl) rfl rfl (by kernel_rfl) [.bool false, .bool false, .bool false] rfl rfl) ?_
 exact ⟨by first | rfl | (simp [ouV, ouC, behindF, insteadF, aloneF]), (hH.sb sln).fresh⟩
theorem NInstead_ct (a b : Ou) (w : World) :
    Fun Tryz.prog 202 [ouV a, ouV b] w fun v w' => v = ouV (insteadF a b) ∧ Fresh w w' [] := by
 obtain ⟨az, aq, af⟩ := a
 obtain ⟨bz, bq, bf⟩ := b
 refine fun_of_sw Tryz.func202 rfl 24 rfl rfl ?_
 have hH := Hp.start w
 refine sw_sr <| gl_st (Bx [.bool az, .bool aq, .bool af] rfl hH ?_)
 clear hH; intro b1 w2 hH
 refine gl_st (Bx [.bool bz, .bool bq, .bool bf] rfl hH ?_)
 clear hH; intro b3 w4 hH
 refine gl_st (Alc [.bool false, .bool false, .bool false] rfl hH ?_)
 clear hH; intro b5 w6 hH
 refine Dn <| sw_seq <| sw_sr <| Go1 1 5 (Pp b1 2) <| Gq rfl (Lk 0 hH rfl rfl rfl) <| Go1 1 7 (.bool (!af)) <| Dn <| sw_cond rfl rfl (fun hc1 => ?_) (fun hc1 => ?_)
 obtain rfl : af = false := by simpa using hc1
 refine sw_sr <| Gq rfl (La 0 [.bool az, .bool aq, .bool false] hH rfl rfl) <| gl_st (Ka 2 [.bool az, .bool aq, .bool false] [.bool az, .bool aq, .bool false] rfl hH rfl rfl ?_)
 clear hH; intro w7 hH
 refine Dn <| sw_ret <| thR <| retC1 rfl (RS.cellA hH 2 (by kernel_rfl) rfl rfl (by kernel_rfl) [.bool az, .bool aq, .bool false] rfl rfl) ?_
 exact ⟨by first | rfl | (simp [ouV, ouC, behindF, insteadF, aloneF]), (hH.sb sln).fresh⟩
 obtain rfl : af = true := by simpa using hc1
 refine Sk <| sw_sr <| Go1 1 9 (Pp b1 0) <| Gq rfl (Lk 0 hH rfl rfl rfl) <| Go1 1 11 (.bool az) <| gl_split 11 (b := az) rfl (fun hg2 => ?_) (fun hg2 => ?_)
 obtain rfl : az = true := by simpa using hg2
 refine Go2 4 14 (.bool true) 15 (Pp b1 1) <| Gq rfl (Lk 0 hH rfl rfl rfl) <| Go1 1 17 (.bool aq) <| gl_split 17 (b := aq) rfl (fun hg3 => ?_) (fun hg3 => ?_)
 obtain rfl : aq = true := by simpa using hg3
 refine Go2 4 20 (.bool true) 21 (Pp b3 2) <| Gq rfl (Lk 1 hH rfl rfl rfl) <| Go1 1 23 (.agg #[.bool true, .bool true, .bool bf]) <| gl_st (Ka 2 [.bool true, .bool true, .bool bf] [.bool true, .bool true, .bool bf] rfl hH rfl rfl ?_)
 clear hH; intro w8 hH
 refine Dn <| sw_ret <| retC1 rfl (RS.cellA hH 2 (by kernel_rfl) rfl rfl (by kernel_rfl) [.bool true, .bool true, .bool bf] rfl rfl) ?_
 exact ⟨by first | rfl | (simp [ouV, ouC, behindF, insteadF, aloneF]), (hH.sb sln).fresh⟩
 obtain rfl : aq = false := by simpa using hg3
 refine Go1 1 18 (Pp b3 1) <| Gq rfl (Lk 1 hH rfl rfl rfl) <| Go2 2 20 (.bool bq) 21 (Pp b3 2) <| Gq rfl (Lk 1 hH rfl rfl rfl) <| Go1 1 23 (.agg #[.bool true, .bool bq, .bool bf]) <| gl_st (Ka 2 [.bool true, .bool bq, .bool bf] [.bool true, .bool bq, .bool bf] rfl hH rfl rfl ?_)
 clear hH; intro w9 hH
 refine Dn <| sw_ret <| retC1 rfl (RS.cellA hH 2 (by kernel_rfl) rfl rfl (by kernel_rfl) [.bool true, .bool bq, .bool bf] rfl rfl) ?_
 exact ⟨by first | rfl | (simp [ouV, ouC, behindF, insteadF, aloneF]), (hH.sb sln).fresh⟩
 obtain rfl : az = false := by simpa using hg2
 refine Go1 1 12 (Pp b3 0) <| Gq rfl (Lk 1 hH rfl rfl rfl) <| Go2 2 14 (.bool bz) 15 (Pp b1 1) <| Gq rfl (Lk 0 hH rfl rfl rfl) <| Go1 1 17 (.bool aq) <| gl_split 17 (b := aq) rfl (fun hg4 => ?_) (fun hg4 => ?_)
 obtain rfl : aq = true := by simpa using hg4
 refine Go2 4 20 (.bool true) 21 (Pp b3 2) <| Gq rfl (Lk 1 hH rfl rfl rfl) <| Go1 1 23 (.agg #[.bool bz, .bool true, .bool bf]) <| gl_st (Ka 2 [.bool bz, .bool true, .bool bf] [.bool bz, .bool true, .bool bf] rfl hH rfl rfl ?_)
 clear hH; intro w10 hH
 refine Dn <| sw_ret <| retC1 rfl (RS.cellA hH 2 (by kernel_rfl) rfl rfl (by kernel_rfl) [.bool bz, .bool true, .bool bf] rfl rfl) ?_
 exact ⟨by first | rfl | (simp [ouV, ouC, behindF, insteadF, aloneF]), (hH.sb sln).fresh⟩
 obtain rfl : aq = false := by simpa using hg4
 refine Go1 1 18 (Pp b3 1) <| Gq rfl (Lk 1 hH rfl rfl rfl) <| Go2 2 20 (.bool bq) 21 (Pp b3 2) <| Gq rfl (Lk 1 hH rfl rfl rfl) <| Go1 1 23 (.agg #[.bool bz, .bool bq, .bool bf]) <| gl_st (Ka 2 [.bool bz, .bool bq, .bool bf] [.bool bz, .bool bq, .bool bf] rfl hH rfl rfl ?_)
 clear hH; intro w11 hH
 refine Dn <| sw_ret <| retC1 rfl (RS.cellA hH 2 (by kernel_rfl) rfl rfl (by kernel_rfl) [.bool bz, .bool bq, .bool bf] rfl rfl) ?_
 exact ⟨by first | rfl | (simp [ouV, ouC, behindF, insteadF, aloneF]), (hH.sb sln).fresh⟩
theorem NAlone_ct (k : Int) (a : Ou) (w : World) :
    Fun Tryz.prog 203 [.int .i64 k, ouV a] w fun v w' => v = ouV (aloneF k a) ∧ Fresh w w' [] := by
 obtain ⟨az, aq, af⟩ := a
 refine fun_of_sw Tryz.func203 rfl 56 rfl rfl ?_
 have hH := Hp.start w
 refine sw_sr <| gl_st (Bx [.bool az, .bool aq, .bool af] rfl hH ?_)
 clear hH; intro b1 w2 hH
 refine gl_st (Alc [.bool false, .bool false, .bool false] rfl hH ?_)
 clear hH; intro b3 w4 hH
 refine Dn <| sw_sr <| Go1 1 6 (Pp b1 0) <| Gq rfl (Lk 0 hH rfl rfl rfl) <| Go1 1 8 (.bool az) <| gl_split 8 (b := az) rfl (fun hg1 => ?_) (fun hg1 => ?_)
 obtain rfl : az = true := by simpa using hg1
 refine Go1 4 5 (.bool true) <| Dn <| sw_seq <| sw_sr <| Go1 1 12 (.int .i64 k) <| Dn <| sw_block <| sw_seq <| sw_block <| sw_seq <| sw_block <| sw_seq <| sw_block <| sw_seq <| sw_block <| sw_seq <| sw_block <| sw_seq <| sw_seq <| sw_sr <| Go1 2 13 (.bool ((k : Int) == (8 : Int))) <| Dn <| If rfl (fun hc2 => ?_) (fun hc2 => ?_)
 have hk8 : k = 8 := hc2
 refine sw_exit <| thX <| thX <| bkH <| sw_next <| sw_region <| Go1 1 23 (Pp b1 0) <| Gq rfl (Lk 0 hH rfl rfl rfl) <| Go1 1 25 (Pp b3 0) <| gl_st (Ks 1 (.bool true) rfl hH rfl rfl ?_)
 clear hH; intro w5 hH
 refine Dd <| bkN <| sw_next <| sw_seq <| sw_sr <| Go1 1 26 (Pp b3 0) <| Gq rfl (Lk 1 hH rfl rfl rfl) <| Go2 5 31 (.bool true) 32 (Pp b3 0) <| gl_st (Ks 1 (.bool true) rfl hH rfl rfl ?_)
 clear hH; intro w6 hH
 refine Dn <| sw_region <| Go1 1 33 (Pp b1 1) <| Gq rfl (Lk 0 hH rfl rfl rfl) <| Go1 1 35 (Pp b3 1) <| gl_st (Ks 1 (.bool aq) rfl hH rfl rfl ?_)
 clear hH; intro w7 hH
 refine Dd <| sw_next <| sw_exit <| bkX rfl <| thX <| bkX rfl <| thX <| bkX rfl <| thX <| bkH <| sw_next <| sw_sr <| Gq rfl (La 1 [.bool true, .bool aq, .bool false] hH rfl rfl) <| gl_st (Ka 1 [.bool true, .bool aq, .bool false] [.bool true, .bool aq, .bool false] rfl hH rfl rfl ?_)
 clear hH; intro w8 hH
 refine Dn <| sw_ret <| retC1 rfl (RS.cellA hH 1 (by kernel_rfl) rfl rfl (by kernel_rfl) [.bool true, .bool aq, .bool false] rfl rfl) ?_
 exact ⟨by unfold aloneF; rw [if_pos hk8]; first | rfl | (simp [ouV, ouC, Ou.no]), (hH.sb sln).fresh⟩
 have hk8 : ¬ k = 8 := hc2
 refine Sk <| sw_seq <| sw_sr <| Go1 2 15 (.bool ((k : Int) == (9 : Int))) <| Dn <| If rfl (fun hc3 => ?_) (fun hc3 => ?_)
 have hk9 : k = 9 := hc3
 refine sw_exit <| thX <| thX <| bkX rfl <| thX <| bkH <| sw_next <| sw_seq <| sw_sr <| Go1 1 26 (Pp b3 0) <| Gq rfl (Lk 1 hH rfl rfl rfl) <| Go2 2 28 (.bool false) 29 (Pp b1 2) <| Gq rfl (Lk 0 hH rfl rfl rfl) <| Go2 2 31 (.bool af) 32 (Pp b3 0) <| gl_st (Ks 1 (.bool af) rfl hH rfl rfl ?_)
 clear hH; intro w9 hH
 refine Dn <| sw_region <| Go1 1 33 (Pp b1 1) <| Gq rfl (Lk 0 hH rfl rfl rfl) <| Go1 1 35 (Pp b3 1) <| gl_st (Ks 1 (.bool aq) rfl hH rfl rfl ?_)
 clear hH; intro w10 hH
 refine Dd <| sw_next <| sw_exit <| bkX rfl <| thX <| bkX rfl <| thX <| bkX rfl <| thX <| bkH <| sw_next <| sw_sr <| Gq rfl (La 1 [.bool af, .bool aq, .bool false] hH rfl rfl) <| gl_st (Ka 1 [.bool af, .bool aq, .bool false] [.bool af, .bool aq, .bool false] rfl hH rfl rfl ?_)
 clear hH; intro w11 hH
 refine Dn <| sw_ret <| retC1 rfl (RS.cellA hH 1 (by kernel_rfl) rfl rfl (by kernel_rfl) [.bool af, .bool aq, .bool false] rfl rfl) ?_
 exact ⟨by unfold aloneF; rw [if_neg hk8, if_pos hk9]; first | rfl | (simp [ouV, ouC, Ou.no]), (hH.sb sln).fresh⟩
 have hk9 : ¬ k = 9 := hc3
 refine Sk <| sw_seq <| sw_sr <| Go1 2 17 (.bool ((k : Int) == (10 : Int))) <| Dn <| If rfl (fun hc4 => ?_) (fun hc4 => ?_)
 have hk10 : k = 10 := hc4
 refine sw_exit <| thX <| thX <| bkX rfl <| thX <| bkX rfl <| thX <| bkH <| sw_next <| sw_sr <| Go1 1 36 (Pp b1 0) <| Gq rfl (Lk 0 hH rfl rfl rfl) <| Go2 2 38 (.bool true) 39 (Pp b1 2) <| Gq rfl (Lk 0 hH rfl rfl rfl) <| Go2 2 41 (.bool af) 42 (Pp b1 1) <| Gq rfl (Lk 0 hH rfl rfl rfl) <| Go1 1 44 (Pp b1 2) <| Gq rfl (Lk 0 hH rfl rfl rfl) <| Go1 1 46 (.agg #[.bool af, .bool aq, .bool af]) <| gl_st (Ka 1 [.bool af, .bool aq, .bool af] [.bool af, .bool aq, .bool af] rfl hH rfl rfl ?_)
 clear hH; intro w12 hH
 refine Dn <| sw_exit <| bkX rfl <| thX <| bkX rfl <| thX <| bkH <| sw_next <| sw_sr <| Gq rfl (La 1 [.bool af, .bool aq, .bool af] hH rfl rfl) <| gl_st (Ka 1 [.bool af, .bool aq, .bool af] [.bool af, .bool aq, .bool af] rfl hH rfl rfl ?_)
 clear hH; intro w13 hH
 refine Dn <| sw_ret <| retC1 rfl (RS.cellA hH 1 (by kernel_rfl) rfl rfl (by kernel_rfl) [.bool af, .bool aq, .bool af] rfl rfl) ?_
 exact ⟨by unfold aloneF; rw [if_neg hk8, if_neg hk9, if_pos hk10]; first | rfl | (simp [ouV, ouC, Ou.no]), (hH.sb sln).fresh⟩
 have hk10 : ¬ k = 10 := hc4
 refine Sk <| sw_seq <| sw_sr <| Go1 2 19 (.bool ((k : Int) == (11 : Int))) <| Dn <| If rfl (fun hc5 => ?_) (fun hc5 => ?_)
 have hk11 : k = 11 := hc5
 refine sw_exit <| thX <| thX <| bkX rfl <| thX <| bkX rfl <| thX <| bkX rfl <| thX <| bkH <| sw_next <| sw_sr <| Go2 2 47 (.bool true) 48 (Pp b1 2) <| Gq rfl (Lk 0 hH rfl rfl rfl) <| Go1 1 50 (.agg #[.bool true, .bool false, .bool af]) <| gl_st (Ka 1 [.bool true, .bool false, .bool af] [.bool true, .bool false, .bool af] rfl hH rfl rfl ?_)
 clear hH; intro w14 hH
 refine Dn <| sw_exit <| bkX rfl <| thX <| bkH <| sw_next <| sw_sr <| Gq rfl (La 1 [.bool true, .bool false, .bool af] hH rfl rfl) <| gl_st (Ka 1 [.bool true, .bool false, .bool af] [.bool true, .bool false, .bool af] rfl hH rfl rfl ?_)
 clear hH; intro w15 hH
 refine Dn <| sw_ret <| retC1 rfl (RS.cellA hH 1 (by kernel_rfl) rfl rfl (by kernel_rfl) [.bool true, .bool false, .bool af] rfl rfl) ?_
 exact ⟨by unfold aloneF; rw [if_neg hk8, if_neg hk9, if_neg hk10, if_pos hk11]; first | rfl | (simp [ouV, ouC, Ou.no]), (hH.sb sln).fresh⟩
 have hk11 : ¬ k = 11 := hc5
 refine Sk <| sw_sr <| Go1 2 21 (.bool ((k : Int) == (12 : Int))) <| Dn <| If rfl (fun hc6 => ?_) (fun hc6 => ?_)
 have hk12 : k = 12 := hc6
 refine sw_exit <| thX <| bkX rfl <| thX <| bkX rfl <| thX <| bkX rfl <| thX <| bkX rfl <| thX <| bkH <| sw_next <| sw_sr <| Go1 1 51 (Pp b1 2) <| Gq rfl (Lk 0 hH rfl rfl rfl) <| Go1 2 54 (.agg #[.bool af, .bool false, .bool true]) <| gl_st (Ka 1 [.bool af, .bool false, .bool true] [.bool af, .bool false, .bool true] rfl hH rfl rfl ?_)
 clear hH; intro w16 hH
 refine Dn <| sw_exit <| bkH <| sw_next <| sw_sr <| Gq rfl (La 1 [.bool af, .bool false, .bool true] hH rfl rfl) <| gl_st (Ka 1 [.bool af, .bool false, .bool true] [.bool af, .bool false, .bool true] rfl hH rfl rfl ?_)
 clear hH; intro w17 hH
 refine Dn <| sw_ret <| retC1 rfl (RS.cellA hH 1 (by kernel_rfl) rfl rfl (by kernel_rfl) [.bool af, .bool false, .bool true] rfl rfl) ?_
 exact ⟨by unfold aloneF; rw [if_neg hk8, if_neg hk9, if_neg hk10, if_neg hk11, if_pos hk12]; first | rfl | (simp [ouV, ouC, Ou.no]), (hH.sb sln).fresh⟩
 have hk12 : ¬ k = 12 := hc6
 refine Sk <| sw_exit <| bkX rfl <| thX <| bkX rfl <| thX <| bkX rfl <| thX <| bkX rfl <| thX <| bkX rfl <| thX <| bkH <| sw_next <| sw_sr <| Gq rfl (La 1 [.bool false, .bool false, .bool false] hH rfl rfl) <| gl_st (Ka 1 [.bool false, .bool false, .bool false] [.bool false, .bool false, .bool false] rfl hH rfl rfl ?_)
 clear hH; intro w18 hH
 refine Dn <| sw_ret <| retC1 rfl (RS.cellA hH 1 (by kernel_rfl) rfl rfl (by kernel_rfl) [.bool false, .bool false, .bool false] rfl rfl) ?_
 exact ⟨by unfold aloneF; rw [if_neg hk8, if_neg hk9, if_neg hk10, if_neg hk11, if_neg hk12]; first | rfl | (simp [ouV, ouC, Ou.no]), (hH.sb sln).fresh⟩
 obtain rfl : az = false := by simpa using hg1
 refine Go1 1 9 (Pp b1 1) <| Gq rfl (Lk 0 hH rfl rfl rfl) <| Go1 2 5 (.bool aq) <| Dn <| sw_seq <| sw_sr <| Go1 1 12 (.int .i64 k) <| Dn <| sw_block <| sw_seq <| sw_block <| sw_seq <| sw_block <| sw_seq <| sw_block <| sw_seq <| sw_block <| sw_seq <| sw_block <| sw_seq <| sw_seq <| sw_sr <| Go1 2 13 (.bool ((k : Int) == (8 : Int))) <| Dn <| If rfl (fun hc7 => ?_) (fun hc7 => ?_)
 have hk8 : k = 8 := hc7
 refine sw_exit <| thX <| thX <| bkH <| sw_next <| sw_region <| Go1 1 23 (Pp b1 0) <| Gq rfl (Lk 0 hH rfl rfl rfl) <| Go1 1 25 (Pp b3 0) <| gl_st (Ks 1 (.bool false) rfl hH rfl rfl ?_)
 clear hH; intro w19 hH
 refine Dd <| bkN <| sw_next <| sw_seq <| sw_sr <| Go1 1 26 (Pp b3 0) <| Gq rfl (Lk 1 hH rfl rfl rfl) <| Go2 2 28 (.bool false) 29 (Pp b1 2) <| Gq rfl (Lk 0 hH rfl rfl rfl) <| Go2 2 31 (.bool af) 32 (Pp b3 0) <| gl_st (Ks 1 (.bool af) rfl hH rfl rfl ?_)
 clear hH; intro w20 hH
 refine Dn <| sw_region <| Go1 1 33 (Pp b1 1) <| Gq rfl (Lk 0 hH rfl rfl rfl) <| Go1 1 35 (Pp b3 1) <| gl_st (Ks 1 (.bool aq) rfl hH rfl rfl ?_)
 clear hH; intro w21 hH
 refine Dd <| sw_next <| sw_exit <| bkX rfl <| thX <| bkX rfl <| thX <| bkX rfl <| thX <| bkH <| sw_next <| sw_sr <| Gq rfl (La 1 [.bool af, .bool aq, .bool false] hH rfl rfl) <| gl_st (Ka 1 [.bool af, .bool aq, .bool false] [.bool af, .bool aq, .bool false] rfl hH rfl rfl ?_)
 clear hH; intro w22 hH
 refine Dn <| sw_ret <| retC1 rfl (RS.cellA hH 1 (by kernel_rfl) rfl rfl (by kernel_rfl) [.bool af, .bool aq, .bool false] rfl rfl) ?_
 exact ⟨by unfold aloneF; rw [if_pos hk8]; first | rfl | (simp [ouV, ouC, Ou.no]), (hH.sb sln).fresh⟩
 have hk8 : ¬ k = 8 := hc7
 refine Sk <| sw_seq <| sw_sr <| Go1 2 15 (.bool ((k : Int) == (9 : Int))) <| Dn <| If rfl (fun hc8 => ?_) (fun hc8 => ?_)
 have hk9 : k = 9 := hc8
 refine sw_exit <| thX <| thX <| bkX rfl <| thX <| bkH <| sw_next <| sw_seq <| sw_sr <| Go1 1 26 (Pp b3 0) <| Gq rfl (Lk 1 hH rfl rfl rfl) <| Go2 2 28 (.bool false) 29 (Pp b1 2) <| Gq rfl (Lk 0 hH rfl rfl rfl) <| Go2 2 31 (.bool af) 32 (Pp b3 0) <| gl_st (Ks 1 (.bool af) rfl hH rfl rfl ?_)
 clear hH; intro w23 hH
 refine Dn <| sw_region <| Go1 1 33 (Pp b1 1) <| Gq rfl (Lk 0 hH rfl rfl rfl) <| Go1 1 35 (Pp b3 1) <| gl_st (Ks 1 (.bool aq) rfl hH rfl rfl ?_)
 clear hH; intro w24 hH
 refine Dd <| sw_next <| sw_exit <| bkX rfl <| thX <| bkX rfl <| thX <| bkX rfl <| thX <| bkH <| sw_next <| sw_sr <| Gq rfl (La 1 [.bool af, .bool aq, .bool false] hH rfl rfl) <| gl_st (Ka 1 [.bool af, .bool aq, .bool false] [.bool af, .bool aq, .bool false] rfl hH rfl rfl ?_)
 clear hH; intro w25 hH
 refine Dn <| sw_ret <| retC1 rfl (RS.cellA hH 1 (by kernel_rfl) rfl rfl (by kernel_rfl) [.bool af, .bool aq, .bool false] rfl rfl) ?_
 exact ⟨by unfold aloneF; rw [if_neg hk8, if_pos hk9]; first | rfl | (simp [ouV, ouC, Ou.no]), (hH.sb sln).fresh⟩
 have hk9 : ¬ k = 9 := hc8
 refine Sk <| sw_seq <| sw_sr <| Go1 2 17 (.bool ((k : Int) == (10 : Int))) <| Dn <| If rfl (fun hc9 => ?_) (fun hc9 => ?_)
 have hk10 : k = 10 := hc9
 refine sw_exit <| thX <| thX <| bkX rfl <| thX <| bkX rfl <| thX <| bkH <| sw_next <| sw_sr <| Go1 1 36 (Pp b1 0) <| Gq rfl (Lk 0 hH rfl rfl rfl) <| Go2 5 41 (.bool false) 42 (Pp b1 1) <| Gq rfl (Lk 0 hH rfl rfl rfl) <| Go1 1 44 (Pp b1 2) <| Gq rfl (Lk 0 hH rfl rfl rfl) <| Go1 1 46 (.agg #[.bool false, .bool aq, .bool af]) <| gl_st (Ka 1 [.bool false, .bool aq, .bool af] [.bool false, .bool aq, .bool af] rfl hH rfl rfl ?_)
 clear hH; intro w26 hH
 refine Dn <| sw_exit <| bkX rfl <| thX <| bkX rfl <| thX <| bkH <| sw_next <| sw_sr <| Gq rfl (La 1 [.bool false, .bool aq, .bool af] hH rfl rfl) <| gl_st (Ka 1 [.bool false, .bool aq, .bool af] [.bool false, .bool aq, .bool af] rfl hH rfl rfl ?_)
 clear hH; intro w27 hH
 refine Dn <| sw_ret <| retC1 rfl (RS.cellA hH 1 (by kernel_rfl) rfl rfl (by kernel_rfl) [.bool false, .bool aq, .bool af] rfl rfl) ?_
 exact ⟨by unfold aloneF; rw [if_neg hk8, if_neg hk9, if_pos hk10]; first | rfl | (simp [ouV, ouC, Ou.no]), (hH.sb sln).fresh⟩
 have hk10 : ¬ k = 10 := hc9
 refine Sk <| sw_seq <| sw_sr <| Go1 2 19 (.bool ((k : Int) == (11 : Int))) <| Dn <| If rfl (fun hc10 => ?_) (fun hc10 => ?_)
 have hk11 : k = 11 := hc10
 refine sw_exit <| thX <| thX <| bkX rfl <| thX <| bkX rfl <| thX <| bkX rfl <| thX <| bkH <| sw_next <| sw_sr <| Go2 2 47 (.bool aq) 48 (Pp b1 2) <| Gq rfl (Lk 0 hH rfl rfl rfl) <| Go1 1 50 (.agg #[.bool aq, .bool false, .bool af]) <| gl_st (Ka 1 [.bool aq, .bool false, .bool af] [.bool aq, .bool false, .bool af] rfl hH rfl rfl ?_)
 clear hH; intro w28 hH
 refine Dn <| sw_exit <| bkX rfl <| thX <| bkH <| sw_next <| sw_sr <| Gq rfl (La 1 [.bool aq, .bool false, .bool af] hH rfl rfl) <| gl_st (Ka 1 [.bool aq, .bool false, .bool af] [.bool aq, .bool false, .bool af] rfl hH rfl rfl ?_)
 clear hH; intro w29 hH
 refine Dn <| sw_ret <| retC1 rfl (RS.cellA hH 1 (by kernel_rfl) rfl rfl (by kernel_rfl) [.bool aq, .bool false, .bool af] rfl rfl) ?_
 exact ⟨by unfold aloneF; rw [if_neg hk8, if_neg hk9, if_neg hk10, if_pos hk11]; first | rfl | (simp [ouV, ouC, Ou.no]), (hH.sb sln).fresh⟩
 have hk11 : ¬ k = 11 := hc10
 refine Sk <| sw_sr <| Go1 2 21 (.bool ((k : Int) == (12 : Int))) <| Dn <| If rfl (fun hc11 => ?_) (fun hc11 => ?_)
 have hk12 : k = 12 := hc11
 refine sw_exit <| thX <| bkX rfl <| thX <| bkX rfl <| thX <| bkX rfl <| thX <| bkX rfl <| thX <| bkH <| sw_next <| sw_sr <| Go1 1 51 (Pp b1 2) <| Gq rfl (Lk 0 hH rfl rfl rfl) <| Go1 2 54 (.agg #[.bool af, .bool false, .bool aq]) <| gl_st (Ka 1 [.bool af, .bool false, .bool aq] [.bool af, .bool false, .bool aq] rfl hH rfl rfl ?_)
 clear hH; intro w30 hH
 refine Dn <| sw_exit <| bkH <| sw_next <| sw_sr <| Gq rfl (La 1 [.bool af, .bool false, .bool aq] hH rfl rfl) <| gl_st (Ka 1 [.bool af, .bool false, .bool aq] [.bool af, .bool false, .bool aq] rfl hH rfl rfl ?_)
 clear hH; intro w31 hH
 refine Dn <| sw_ret <| retC1 rfl (RS.cellA hH 1 (by kernel_rfl) rfl rfl (by kernel_rfl) [.bool af, .bool false, .bool aq] rfl rfl) ?_
 exact ⟨by unfold aloneF; rw [if_neg hk8, if_neg hk9, if_neg hk10, if_neg hk11, if_pos hk12]; first | rfl | (simp [ouV, ouC, Ou.no]), (hH.sb sln).fresh⟩
 have hk12 : ¬ k = 12 := hc11
 refine Sk <| sw_exit <| bkX rfl <| thX <| bkX rfl <| thX <| bkX rfl <| thX <| bkX rfl <| thX <| bkX rfl <| thX <| bkH <| sw_next <| sw_sr <| Gq rfl (La 1 [.bool false, .bool false, .bool false] hH rfl rfl) <| gl_st (Ka 1 [.bool false, .bool false, .bool false] [.bool false, .bool false, .bool false] rfl hH rfl rfl ?_)
 clear hH; intro w32 hH
 refine Dn <| sw_ret <| retC1 rfl (RS.cellA hH 1 (by kernel_rfl) rfl rfl (by kernel_rfl) [.bool false, .bool false, .bool false] rfl rfl) ?_
 exact ⟨by unfold aloneF; rw [if_neg hk8, if_neg hk9, if_neg hk10, if_neg hk11, if_neg hk12]; first | rfl | (simp [ouV, ouC, Ou.no]), (hH.sb sln).fresh⟩
def NxC (t : Tv) : Prop := ∀ (m : Nat) (T : Tab) (c : Zone) (w : World), TvOk c t → okNd t.nd = true → c.le (off w (blksOf [.kmap m strK (vmap ouV T)])) → Mine w [.kmap m strK (vmap ouV T)] →
  Fun Tryz.prog 177 [.map (some m), .agg (tvC t).toArray] w fun v w' => v = ouV (outF T t.nd) ∧ Turn w w' [.kmap m strK (vmap ouV T)] [.kmap m strK (vmap ouV T)]

theorem NExpr_step (t : Tv) (IH : ∀ x ∈ t.subs, NxC x) : NxC t := by
 intro m T c w hok hnd hc hM
 have hpa := okNd_parts hnd
 have hkk := okHd_kind hpa.1
 obtain ⟨Ax, cx, hx9, hx1, hx2⟩ := hok.row.form
 have hml : maxLen ≤ 9223372036854775807 := by unfold maxLen; decide
 refine fun_of_sw Tryz.func177 rfl 86 rfl rfl ?_
 have hH := (Hp.start_mine hM).zsub hc
 refine sw_sr <| gl_st (Bx [.int .i64 t.kind, .string (bs t.text), .int .u64 ((t.cl.a : Nat) : Int), .int .u64 ((t.cl.b : Nat) : Int), .int .u64 ((t.cl.c : Nat) : Int), .int .u64 ((t.cl.d : Nat) : Int), .slice t.A t.subs.length t.cap, .int .i64 t.pos] rfl hH ?_)
 clear hH; intro b1 w2 hH
 refine gl_st (Alc [.bool false, .bool false, .bool false] rfl hH ?_)
 clear hH; intro b3 w4 hH
 refine Dn <| sw_sr <| gl_st (Alc [.bool false, .bool false, .bool false] rfl hH ?_)
 clear hH; intro b5 w6 hH
 refine Dn <| sw_seq <| sw_sr <| Go1 1 11 (Pp b1 0) <| Gq rfl (Lk 1 hH rfl rfl rfl) <| Dn <| sw_block <| sw_sr <| Go1 2 22 (.bool ((t.kind : Int) == (1 : Int))) <| Dn <| If rfl (fun hc1 => ?_) (fun hc1 => ?_)
 have hk1 : t.kind = 1 := hc1
 refine sw_region <| Go1 1 24 (Pp b5 0) <| gl_st (Ks 3 (.bool true) rfl hH rfl rfl ?_)
 clear hH; intro w7 hH
 refine Dd <| bkN <| sw_next <| sw_sr <| Gq rfl (La 3 [.bool true, .bool false, .bool false] hH rfl rfl) <| gl_st (Ka 2 [.bool true, .bool false, .bool false] [.bool true, .bool false, .bool false] rfl hH rfl rfl ?_)
 clear hH; intro w8 hH
 refine Dn <| sw_ret <| retC1 rfl (RS.cellA hH 2 (by kernel_rfl) rfl rfl (by kernel_rfl) [.bool true, .bool false, .bool false] rfl rfl) ?_
 replace hH := (hH.sb (slk sln)).n1
 exact ⟨by rw [outF_eq T t, if_pos hk1]; rfl, hH.turned⟩
 have hk1 : ¬ t.kind = 1 := hc1
 refine sw_sr <| Go1 2 25 (.bool ((t.kind : Int) == (5 : Int))) <| Dn <| If rfl (fun hc2 => ?_) (fun hc2 => ?_)
 have hk5 : t.kind = 5 := hc2
 refine sw_region <| Go2 2 27 (.map (some m)) 28 (Pp b1 1) <| Gq rfl (Lk 1 hH rfl rfl rfl) <| Gq rfl (rd_mapget (kt := 9) (e := 142) (zv := .agg #[.bool false, .bool false, .bool false]) 0 (by kernel_rfl) (by kernel_rfl) strK_key (by kernel_rfl) hH rfl rfl t.text rfl) <| gl_cv 30 (.agg #[.bool (((getT T t.text).getD Ou.no).z), .bool (((getT T t.text).getD Ou.no).s), .bool (((getT T t.text).getD Ou.no).f)]) (kget_D ouV _ _ Ou.no) rfl <| gl_st (Ka 3 [.bool (((getT T t.text).getD Ou.no).z), .bool (((getT T t.text).getD Ou.no).s), .bool (((getT T t.text).getD Ou.no).f)] [.bool (((getT T t.text).getD Ou.no).z), .bool (((getT T t.text).getD Ou.no).s), .bool (((getT T t.text).getD Ou.no).f)] rfl hH rfl rfl ?_)
 clear hH; intro w9 hH
 refine Dd <| bkN <| sw_next <| sw_sr <| Gq rfl (La 3 [.bool (((getT T t.text).getD Ou.no).z), .bool (((getT T t.text).getD Ou.no).s), .bool (((getT T t.text).getD Ou.no).f)] hH rfl rfl) <| gl_st (Ka 2 [.bool (((getT T t.text).getD Ou.no).z), .bool (((getT T t.text).getD Ou.no).s), .bool (((getT T t.text).getD Ou.no).f)] [.bool (((getT T t.text).getD Ou.no).z), .bool (((getT T t.text).getD Ou.no).s), .bool (((getT T t.text).getD Ou.no).f)] rfl hH rfl rfl ?_)
 clear hH; intro w10 hH
 refine Dn <| sw_ret <| retC1 rfl (RS.cellA hH 2 (by kernel_rfl) rfl rfl (by kernel_rfl) [.bool (((getT T t.text).getD Ou.no).z), .bool (((getT T t.text).getD Ou.no).s), .bool (((getT T t.text).getD Ou.no).f)] rfl rfl) ?_
 replace hH := (hH.sb (slk sln)).n1
 exact ⟨by rw [outF_eq T t, if_neg hk1, if_pos hk5]; rfl, hH.turned⟩
 have hk5 : ¬ t.kind = 5 := hc2
 refine sw_sr <| Go1 2 31 (.bool ((t.kind : Int) == (2 : Int))) <| Dn <| If rfl (fun hc3 => ?_) (fun hc3 => ?_)
 have hk2 : t.kind = 2 := hc3
 refine sw_sr <| Go1 1 33 (Pp b1 1) <| Gq rfl (Lk 1 hH rfl rfl rfl) <| Gq rfl (rd_sneq (by kernel_rfl) rfl rfl) <| Go1 1 6 (.bool (!(t.text == []))) <| Dn <| sw_region <| Go1 5 40 (.agg #[.bool (!(!(t.text == []))), .bool (!(t.text == [])), .bool (!(t.text == []))]) <| gl_st (Ka 3 [.bool (!(!(t.text == []))), .bool (!(t.text == [])), .bool (!(t.text == []))] [.bool (!(!(t.text == []))), .bool (!(t.text == [])), .bool (!(t.text == []))] rfl hH rfl rfl ?_)
 clear hH; intro w11 hH
 refine Dd <| bkN <| sw_next <| sw_sr <| Gq rfl (La 3 [.bool (!(!(t.text == []))), .bool (!(t.text == [])), .bool (!(t.text == []))] hH rfl rfl) <| gl_st (Ka 2 [.bool (!(!(t.text == []))), .bool (!(t.text == [])), .bool (!(t.text == []))] [.bool (!(!(t.text == []))), .bool (!(t.text == [])), .bool (!(t.text == []))] rfl hH rfl rfl ?_)
 clear hH; intro w12 hH
 refine Dn <| sw_ret <| retC1 rfl (RS.cellA hH 2 (by kernel_rfl) rfl rfl (by kernel_rfl) [.bool (!(!(t.text == []))), .bool (!(t.text == [])), .bool (!(t.text == []))] rfl rfl) ?_
 replace hH := (hH.sb (slk sln)).n1
 exact ⟨by rw [outF_eq T t, if_neg hk1, if_neg hk5, if_pos hk2]; simp [ouV, ouC], hH.turned⟩
 have hk2 : ¬ t.kind = 2 := hc3
 refine sw_sr <| Go1 2 41 (.bool ((t.kind : Int) == (3 : Int))) <| Dn <| If rfl (fun hc4 => ?_) (fun hc4 => ?_)
 have hk3 : t.kind = 3 := hc4
 refine sw_region <| Go1 1 43 (Pp b1 2) <| Gq rfl (La 1 [.int .u64 ((t.cl.a : Nat) : Int), .int .u64 ((t.cl.b : Nat) : Int), .int .u64 ((t.cl.c : Nat) : Int), .int .u64 ((t.cl.d : Nat) : Int)] hH rfl rfl) <| Go1 1 45 (.agg #[.int .u64 0, .int .u64 0, .int .u64 0, .int .u64 0]) <| Gq rfl (rd_arr4_neq (e := 36) (by kernel_rfl) (by kernel_rfl) (by kernel_rfl) (by kernel_rfl) (k0 := .u64) (by kernel_rfl) rfl rfl) <| gl_cv 46 (.bool (!t.cl.isZ)) (by rw [isZ_int]) rfl <| Go1 1 47 (Pp b5 1) <| gl_st (Ks 3 (.bool (!t.cl.isZ)) rfl hH rfl rfl ?_)
 clear hH; intro w13 hH
 refine Go1 1 48 (Pp b5 2) <| gl_st (Ks 3 (.bool true) rfl hH rfl rfl ?_)
 clear hH; intro w14 hH
 refine Dd <| bkN <| sw_next <| sw_sr <| Gq rfl (La 3 [.bool false, .bool (!t.cl.isZ), .bool true] hH rfl rfl) <| gl_st (Ka 2 [.bool false, .bool (!t.cl.isZ), .bool true] [.bool false, .bool (!t.cl.isZ), .bool true] rfl hH rfl rfl ?_)
 clear hH; intro w15 hH
 refine Dn <| sw_ret <| retC1 rfl (RS.cellA hH 2 (by kernel_rfl) rfl rfl (by kernel_rfl) [.bool false, .bool (!t.cl.isZ), .bool true] rfl rfl) ?_
 replace hH := (hH.sb (slk sln)).n1
 exact ⟨by rw [outF_eq T t, if_neg hk1, if_neg hk5, if_neg hk2, if_pos hk3]; rfl, hH.turned⟩
 have hk3 : ¬ t.kind = 3 := hc4
 refine sw_sr <| Go1 2 49 (.bool ((t.kind : Int) == (4 : Int))) <| Dn <| If rfl (fun hc5 => ?_) (fun hc5 => ?_)
 have hk4 : t.kind = 4 := hc5
 refine sw_region <| Go1 1 51 (Pp b5 1) <| gl_st (Ks 3 (.bool true) rfl hH rfl rfl ?_)
 clear hH; intro w16 hH
 refine Go1 1 52 (Pp b5 2) <| gl_st (Ks 3 (.bool true) rfl hH rfl rfl ?_)
 clear hH; intro w17 hH
 refine Dd <| bkN <| sw_next <| sw_sr <| Gq rfl (La 3 [.bool false, .bool true, .bool true] hH rfl rfl) <| gl_st (Ka 2 [.bool false, .bool true, .bool true] [.bool false, .bool true, .bool true] rfl hH rfl rfl ?_)
 clear hH; intro w18 hH
 refine Dn <| sw_ret <| retC1 rfl (RS.cellA hH 2 (by kernel_rfl) rfl rfl (by kernel_rfl) [.bool false, .bool true, .bool true] rfl rfl) ?_
 replace hH := (hH.sb (slk sln)).n1
 exact ⟨by rw [outF_eq T t, if_neg hk1, if_neg hk5, if_neg hk2, if_neg hk3, if_pos hk4]; rfl, hH.turned⟩
 have hk4 : ¬ t.kind = 4 := hc5
 refine sw_sr <| Go1 2 53 (.bool ((t.kind : Int) == (6 : Int))) <| Dn <| If rfl (fun hc6 => ?_) (fun hc6 => ?_)
 have hk6 : t.kind = 6 := hc6
 refine sw_sr <| Go1 1 55 (Pp b5 0) <| gl_st (Ks 3 (.bool true) rfl hH rfl rfl ?_)
 clear hH; intro w19 hH
 refine Dn <| sw_sr <| Go1 1 56 (Pp b1 6) <| Gq rfl (Lk 1 hH rfl rfl rfl) <| Gq rfl (Ln (e := 41) rfl) <| Go1 1 59 (.int .i64 0) <| Dn <| sw_block ?_
 replace hH := hH.fr3.fr4.fr3
 replace hH := (hH.sb (slk (slk (slk sln)))).n3
 refine Lp (γ := Nat × Ou) hH (fun (i, o) => [(0, .map (some m)), (4, Pp b3 0), (5, Pp b5 0), (57, .slice t.A t.subs.length t.cap), (58, Ni t.subs.length), (59, Ni i)]) (fun (i, o) w_ H_ => (outSeq T (Tv.nds t.subs) ⟨true, false, false⟩ = outSeq T (Tv.nds (t.subs.drop i)) o) ∧ (i ≤ t.subs.length) ∧ H_ [.kmap m strK (vmap ouV T), .blk b5 142 [.bool o.z, .bool o.s, .bool o.f], .blk b3 142 [.bool false, .bool false, .bool false]]) (fun (i, o) => t.subs.length - i) (0, ⟨true, false, false⟩) ?_ ?_
 · exact ⟨rfl, Nat.zero_le _, hH⟩
 clear hH
 rintro ⟨i, o⟩ w20 ⟨hm, hi, hH⟩
 refine swk [(0, .map (some m)), (4, Pp b3 0), (5, Pp b5 0), (57, .slice t.A t.subs.length t.cap), (58, Ni t.subs.length), (59, Ni i)] <| sw_sr <| Go1 1 60 (.bool (decide ((i : Int) < ((t.subs.length : Nat) : Int)))) <| Dn <| sw_seq <| If rfl (fun hc7 => ?_) (fun hc7 => ?_)
 refine Sk <| sw_seq <| sw_block ?_
 obtain ⟨x, hx⟩ : ∃ x, t.subs[i]? = some x := ⟨_, List.getElem?_eq_getElem (by omega)⟩
 have hxm := List.mem_of_getElem? hx
 refine sw_sr ?_
 obtain ⟨p21, hi23, hp22⟩ := hok.row.idx i (by omega) (by decide)
 refine Gq rfl (Ix (e := 41) 8 rfl rfl hi23) <| Gq rfl (rd_loadZA (by kernel_rfl) hH hp22 rfl 0 rfl [.int .i64 x.kind, .string (bs x.text), .int .u64 ((x.cl.a : Nat) : Int), .int .u64 ((x.cl.b : Nat) : Int), .int .u64 ((x.cl.c : Nat) : Int), .int .u64 ((x.cl.d : Nat) : Int), .slice x.A x.subs.length x.cap, .int .i64 x.pos] (by kernel_rfl) (rowC_all tvC_len hx 0 _ rfl)) <| gl_st (Alc [.int .i64 0, .string (bs []), .int .u64 0, .int .u64 0, .int .u64 0, .int .u64 0, .slice none 0 0, .int .i64 0] rfl hH ?_)
 clear hH; intro b24 w25 hH
 refine gl_st (Ka 3 [.int .i64 x.kind, .string (bs x.text), .int .u64 ((x.cl.a : Nat) : Int), .int .u64 ((x.cl.b : Nat) : Int), .int .u64 ((x.cl.c : Nat) : Int), .int .u64 ((x.cl.d : Nat) : Int), .slice x.A x.subs.length x.cap, .int .i64 x.pos] [.int .i64 x.kind, .string (bs x.text), .int .u64 ((x.cl.a : Nat) : Int), .int .u64 ((x.cl.b : Nat) : Int), .int .u64 ((x.cl.c : Nat) : Int), .int .u64 ((x.cl.d : Nat) : Int), .slice x.A x.subs.length x.cap, .int .i64 x.pos] rfl hH rfl rfl ?_)
 clear hH; intro w26 hH
 refine Dn <| Dr hH (slc (slc (slk (slk sln)))) ?_
 clear hH; intro w27 hH hS9
 refine Gp1 1 [1] 64 (.map (some m)) hS9 <| Dq 2 rfl (fun _ hS => (La 1 [.int .i64 x.kind, .string (bs x.text), .int .u64 ((x.cl.a : Nat) : Int), .int .u64 ((x.cl.b : Nat) : Int), .int .u64 ((x.cl.c : Nat) : Int), .int .u64 ((x.cl.d : Nat) : Int), .slice x.A x.subs.length x.cap, .int .i64 x.pos] hS rfl rfl)) hS9 <| gd_st2 0 3 (by kernel_rfl) ?_ ?_
 refine st_q rfl rfl rfl (La 1 [.bool o.z, .bool o.s, .bool o.f] hH rfl rfl) <| Nl hS9 fun hS9 => gdk [(0, .map (some m)), (4, Pp b3 0), (5, Pp b5 0), (57, .slice t.A t.subs.length t.cap), (58, Ni t.subs.length), (59, Ni i), (63, .agg #[.bool o.z, .bool o.s, .bool o.f]), (64, .map (some m)), (65, .agg #[.int .i64 x.kind, .string (bs x.text), .int .u64 ((x.cl.a : Nat) : Int), .int .u64 ((x.cl.b : Nat) : Int), .int .u64 ((x.cl.c : Nat) : Int), .int .u64 ((x.cl.d : Nat) : Int), .slice x.A x.subs.length x.cap, .int .i64 x.pos])] ?_
 replace hH : Hp w w27 _ _ ([_] ++ [_, _, _]) := hH
 refine gds 3 (Sc rfl rfl (IH x hxm m T c _ (hok.subs x hxm) (hpa.2 x hxm) hH.zoff hH.mine) ?_)
 rintro _ w28 ⟨rfl, hF29⟩
 replace hH := hH.turns hF29
 replace hH := hH.n4
 refine Nl (hH.sb (slc (slk (slk sln)))) fun hS9 => gds 4 (Sc rfl rfl (NBehind_ct o (outF T x.nd) _) ?_)
 rintro _ w30 ⟨rfl, hF31⟩
 replace hH := hH.call hF31
 refine Nl (hH.sb (slc (slk (slk sln)))) fun hS9 => gds 5 (Ka 0 [.bool ((behindF o (outF T x.nd)).z), .bool ((behindF o (outF T x.nd)).s), .bool ((behindF o (outF T x.nd)).f)] [.bool ((behindF o (outF T x.nd)).z), .bool ((behindF o (outF T x.nd)).s), .bool ((behindF o (outF T x.nd)).f)] rfl hH rfl rfl ?_)
 clear hH; intro w32 hH
 refine Nl (hH.sb (slc (slk (slk sln)))) fun hS9 => gdn [(0, .map (some m)), (4, Pp b3 0), (5, Pp b5 0), (57, .slice t.A t.subs.length t.cap), (58, Ni t.subs.length), (59, Ni i)] <| bkN <| sw_next <| sw_region <| Gw0 1 68 ((i : Int) + 1) ((i + 1 : Nat) : Int) <| Go1 1 59 (Ni (i + 1)) <| Dd <| rnd_end (g := (i, o)) (i + 1, behindF o (outF T x.nd)) (by kernel_rfl) ?_ ?_
 replace hH := hH.fr2.fr2.fr4
 replace hH := (hH.sb (slk (slk (slk sln)))).n3
 · exact ⟨by rw [hm, outSeq_at hx], by omega, hH⟩
 · show t.subs.length - (i + 1) < t.subs.length - i; omega
 replace hH : Hp w w27 _ _ ([_] ++ [_, _, _]) := hH
 refine Sc rfl rfl (IH x hxm m T c _ (hok.subs x hxm) (hpa.2 x hxm) hH.zoff hH.mine) ?_
 rintro _ w33 ⟨rfl, hF34⟩
 replace hH := hH.turns hF34
 replace hH := hH.n4
 refine Nl (hH.sb (slc (slk (slk sln)))) fun hS9 => gdk [(0, .map (some m)), (4, Pp b3 0), (5, Pp b5 0), (57, .slice t.A t.subs.length t.cap), (58, Ni t.subs.length), (59, Ni i), (66, .agg #[.bool ((outF T x.nd).z), .bool ((outF T x.nd).s), .bool ((outF T x.nd).f)])] <| gds 0 (st_q rfl rfl rfl (La 0 [.bool o.z, .bool o.s, .bool o.f] hH rfl rfl) ?_)
 refine Nl hS9 fun hS9 => gds 4 (Sc rfl rfl (NBehind_ct o (outF T x.nd) _) ?_)
 rintro _ w35 ⟨rfl, hF36⟩
 replace hH := hH.call hF36
 refine Nl (hH.sb (slc (slk (slk sln)))) fun hS9 => gds 5 (Ka 0 [.bool ((behindF o (outF T x.nd)).z), .bool ((behindF o (outF T x.nd)).s), .bool ((behindF o (outF T x.nd)).f)] [.bool ((behindF o (outF T x.nd)).z), .bool ((behindF o (outF T x.nd)).s), .bool ((behindF o (outF T x.nd)).f)] rfl hH rfl rfl ?_)
 clear hH; intro w37 hH
 refine Nl (hH.sb (slc (slk (slk sln)))) fun hS9 => gdn [(0, .map (some m)), (4, Pp b3 0), (5, Pp b5 0), (57, .slice t.A t.subs.length t.cap), (58, Ni t.subs.length), (59, Ni i)] <| bkN <| sw_next <| sw_region <| Gw0 1 68 ((i : Int) + 1) ((i + 1 : Nat) : Int) <| Go1 1 59 (Ni (i + 1)) <| Dd <| rnd_end (g := (i, o)) (i + 1, behindF o (outF T x.nd)) (by kernel_rfl) ?_ ?_
 replace hH := hH.fr2.fr2.fr4
 replace hH := (hH.sb (slk (slk (slk sln)))).n3
 · exact ⟨by rw [hm, outSeq_at hx], by omega, hH⟩
 · show t.subs.length - (i + 1) < t.subs.length - i; omega
 refine sw_exit <| thX <| thX <| bkH <| bkN <| sw_next <| sw_sr <| Gq rfl (La 1 [.bool o.z, .bool o.s, .bool o.f] hH rfl rfl) <| gl_st (Ka 2 [.bool o.z, .bool o.s, .bool o.f] [.bool o.z, .bool o.s, .bool o.f] rfl hH rfl rfl ?_)
 clear hH; intro w38 hH
 refine Dn <| sw_ret <| retC1 rfl (RS.cellA hH 2 (by kernel_rfl) rfl rfl (by kernel_rfl) [.bool o.z, .bool o.s, .bool o.f] rfl rfl) ?_
 replace hH := (hH.sb (slk sln)).n1
 exact ⟨by rw [outF_eq T t, if_neg hk1, if_neg hk5, if_neg hk2, if_neg hk3, if_neg hk4, if_pos hk6, hm, List.drop_eq_nil_of_le (by omega)]; rfl, hH.turned⟩
 have hk6 : ¬ t.kind = 6 := hc6
 refine sw_sr <| Go1 2 69 (.bool ((t.kind : Int) == (7 : Int))) <| Dn <| If rfl (fun hc8 => ?_) (fun hc8 => ?_)
 have hk7 : t.kind = 7 := hc8
 refine sw_sr <| Go1 1 71 (Pp b5 2) <| gl_st (Ks 3 (.bool true) rfl hH rfl rfl ?_)
 clear hH; intro w39 hH
 refine Dn <| sw_sr <| Go1 1 72 (Pp b1 6) <| Gq rfl (Lk 1 hH rfl rfl rfl) <| Gq rfl (Ln (e := 41) rfl) <| Go1 1 75 (.int .i64 0) <| Dn <| sw_block ?_
 replace hH := hH.fr3.fr4.fr3
 replace hH := (hH.sb (slk (slk (slk sln)))).n3
 refine Lp (γ := Nat × Ou) hH (fun (i, o) => [(0, .map (some m)), (4, Pp b3 0), (5, Pp b5 0), (73, .slice t.A t.subs.length t.cap), (74, Ni t.subs.length), (75, Ni i)]) (fun (i, o) w_ H_ => (outAlt T (Tv.nds t.subs) ⟨false, false, true⟩ = outAlt T (Tv.nds (t.subs.drop i)) o) ∧ (i ≤ t.subs.length) ∧ H_ [.kmap m strK (vmap ouV T), .blk b5 142 [.bool o.z, .bool o.s, .bool o.f], .blk b3 142 [.bool false, .bool false, .bool false]]) (fun (i, o) => t.subs.length - i) (0, ⟨false, false, true⟩) ?_ ?_
 · exact ⟨rfl, Nat.zero_le _, hH⟩
 clear hH
 rintro ⟨i, o⟩ w40 ⟨hm, hi, hH⟩
 refine swk [(0, .map (some m)), (4, Pp b3 0), (5, Pp b5 0), (73, .slice t.A t.subs.length t.cap), (74, Ni t.subs.length), (75, Ni i)] <| sw_sr <| Go1 1 76 (.bool (decide ((i : Int) < ((t.subs.length : Nat) : Int)))) <| Dn <| sw_seq <| If rfl (fun hc9 => ?_) (fun hc9 => ?_)
 refine Sk <| sw_seq <| sw_block ?_
 obtain ⟨x, hx⟩ : ∃ x, t.subs[i]? = some x := ⟨_, List.getElem?_eq_getElem (by omega)⟩
 have hxm := List.mem_of_getElem? hx
 refine sw_sr ?_
 obtain ⟨p41, hi43, hp42⟩ := hok.row.idx i (by omega) (by decide)
 refine Gq rfl (Ix (e := 41) 8 rfl rfl hi43) <| Gq rfl (rd_loadZA (by kernel_rfl) hH hp42 rfl 0 rfl [.int .i64 x.kind, .string (bs x.text), .int .u64 ((x.cl.a : Nat) : Int), .int .u64 ((x.cl.b : Nat) : Int), .int .u64 ((x.cl.c : Nat) : Int), .int .u64 ((x.cl.d : Nat) : Int), .slice x.A x.subs.length x.cap, .int .i64 x.pos] (by kernel_rfl) (rowC_all tvC_len hx 0 _ rfl)) <| gl_st (Alc [.int .i64 0, .string (bs []), .int .u64 0, .int .u64 0, .int .u64 0, .int .u64 0, .slice none 0 0, .int .i64 0] rfl hH ?_)
 clear hH; intro b44 w45 hH
 refine gl_st (Ka 3 [.int .i64 x.kind, .string (bs x.text), .int .u64 ((x.cl.a : Nat) : Int), .int .u64 ((x.cl.b : Nat) : Int), .int .u64 ((x.cl.c : Nat) : Int), .int .u64 ((x.cl.d : Nat) : Int), .slice x.A x.subs.length x.cap, .int .i64 x.pos] [.int .i64 x.kind, .string (bs x.text), .int .u64 ((x.cl.a : Nat) : Int), .int .u64 ((x.cl.b : Nat) : Int), .int .u64 ((x.cl.c : Nat) : Int), .int .u64 ((x.cl.d : Nat) : Int), .slice x.A x.subs.length x.cap, .int .i64 x.pos] rfl hH rfl rfl ?_)
 clear hH; intro w46 hH
 refine Dn <| Dr hH (slc (slc (slk (slk sln)))) ?_
 clear hH; intro w47 hH hS9
 refine Gp1 1 [1] 80 (.map (some m)) hS9 <| Dq 2 rfl (fun _ hS => (La 1 [.int .i64 x.kind, .string (bs x.text), .int .u64 ((x.cl.a : Nat) : Int), .int .u64 ((x.cl.b : Nat) : Int), .int .u64 ((x.cl.c : Nat) : Int), .int .u64 ((x.cl.d : Nat) : Int), .slice x.A x.subs.length x.cap, .int .i64 x.pos] hS rfl rfl)) hS9 <| gd_st2 0 3 (by kernel_rfl) ?_ ?_
 refine st_q rfl rfl rfl (La 1 [.bool o.z, .bool o.s, .bool o.f] hH rfl rfl) <| Nl hS9 fun hS9 => gdk [(0, .map (some m)), (4, Pp b3 0), (5, Pp b5 0), (73, .slice t.A t.subs.length t.cap), (74, Ni t.subs.length), (75, Ni i), (79, .agg #[.bool o.z, .bool o.s, .bool o.f]), (80, .map (some m)), (81, .agg #[.int .i64 x.kind, .string (bs x.text), .int .u64 ((x.cl.a : Nat) : Int), .int .u64 ((x.cl.b : Nat) : Int), .int .u64 ((x.cl.c : Nat) : Int), .int .u64 ((x.cl.d : Nat) : Int), .slice x.A x.subs.length x.cap, .int .i64 x.pos])] ?_
 replace hH : Hp w w47 _ _ ([_] ++ [_, _, _]) := hH
 refine gds 3 (Sc rfl rfl (IH x hxm m T c _ (hok.subs x hxm) (hpa.2 x hxm) hH.zoff hH.mine) ?_)
 rintro _ w48 ⟨rfl, hF49⟩
 replace hH := hH.turns hF49
 replace hH := hH.n4
 refine Nl (hH.sb (slc (slk (slk sln)))) fun hS9 => gds 4 (Sc rfl rfl (NInstead_ct o (outF T x.nd) _) ?_)
 rintro _ w50 ⟨rfl, hF51⟩
 replace hH := hH.call hF51
 refine Nl (hH.sb (slc (slk (slk sln)))) fun hS9 => gds 5 (Ka 0 [.bool ((insteadF o (outF T x.nd)).z), .bool ((insteadF o (outF T x.nd)).s), .bool ((insteadF o (outF T x.nd)).f)] [.bool ((insteadF o (outF T x.nd)).z), .bool ((insteadF o (outF T x.nd)).s), .bool ((insteadF o (outF T x.nd)).f)] rfl hH rfl rfl ?_)
 clear hH; intro w52 hH
 refine Nl (hH.sb (slc (slk (slk sln)))) fun hS9 => gdn [(0, .map (some m)), (4, Pp b3 0), (5, Pp b5 0), (73, .slice t.A t.subs.length t.cap), (74, Ni t.subs.length), (75, Ni i)] <| bkN <| sw_next <| sw_region <| Gw0 1 84 ((i : Int) + 1) ((i + 1 : Nat) : Int) <| Go1 1 75 (Ni (i + 1)) <| Dd <| rnd_end (g := (i, o)) (i + 1, insteadF o (outF T x.nd)) (by kernel_rfl) ?_ ?_
 replace hH := hH.fr2.fr2.fr4
 replace hH := (hH.sb (slk (slk (slk sln)))).n3
 · exact ⟨by rw [hm, outAlt_at hx], by omega, hH⟩
 · show t.subs.length - (i + 1) < t.subs.length - i; omega
 replace hH : Hp w w47 _ _ ([_] ++ [_, _, _]) := hH
 refine Sc rfl rfl (IH x hxm m T c _ (hok.subs x hxm) (hpa.2 x hxm) hH.zoff hH.mine) ?_
 rintro _ w53 ⟨rfl, hF54⟩
 replace hH := hH.turns hF54
 replace hH := hH.n4
 refine Nl (hH.sb (slc (slk (slk sln)))) fun hS9 => gdk [(0, .map (some m)), (4, Pp b3 0), (5, Pp b5 0), (73, .slice t.A t.subs.length t.cap), (74, Ni t.subs.length), (75, Ni i), (82, .agg #[.bool ((outF T x.nd).z), .bool ((outF T x.nd).s), .bool ((outF T x.nd).f)])] <| gds 0 (st_q rfl rfl rfl (La 0 [.bool o.z, .bool o.s, .bool o.f] hH rfl rfl) ?_)
 refine Nl hS9 fun hS9 => gds 4 (Sc rfl rfl (NInstead_ct o (outF T x.nd) _) ?_)
 rintro _ w55 ⟨rfl, hF56⟩
 replace hH := hH.call hF56
 refine Nl (hH.sb (slc (slk (slk sln)))) fun hS9 => gds 5 (Ka 0 [.bool ((insteadF o (outF T x.nd)).z), .bool ((insteadF o (outF T x.nd)).s), .bool ((insteadF o (outF T x.nd)).f)] [.bool ((insteadF o (outF T x.nd)).z), .bool ((insteadF o (outF T x.nd)).s), .bool ((insteadF o (outF T x.nd)).f)] rfl hH rfl rfl ?_)
 clear hH; intro w57 hH
 refine Nl (hH.sb (slc (slk (slk sln)))) fun hS9 => gdn [(0, .map (some m)), (4, Pp b3 0), (5, Pp b5 0), (73, .slice t.A t.subs.length t.cap), (74, Ni t.subs.length), (75, Ni i)] <| bkN <| sw_next <| sw_region <| Gw0 1 84 ((i : Int) + 1) ((i + 1 : Nat) : Int) <| Go1 1 75 (Ni (i + 1)) <| Dd <| rnd_end (g := (i, o)) (i + 1, insteadF o (outF T x.nd)) (by kernel_rfl) ?_ ?_
 replace hH := hH.fr2.fr2.fr4
 replace hH := (hH.sb (slk (slk (slk sln)))).n3
 · exact ⟨by rw [hm, outAlt_at hx], by omega, hH⟩
 · show t.subs.length - (i + 1) < t.subs.length - i; omega
 refine sw_exit <| thX <| thX <| bkH <| bkN <| sw_next <| sw_sr <| Gq rfl (La 1 [.bool o.z, .bool o.s, .bool o.f] hH rfl rfl) <| gl_st (Ka 2 [.bool o.z, .bool o.s, .bool o.f] [.bool o.z, .bool o.s, .bool o.f] rfl hH rfl rfl ?_)
 clear hH; intro w58 hH
 refine Dn <| sw_ret <| retC1 rfl (RS.cellA hH 2 (by kernel_rfl) rfl rfl (by kernel_rfl) [.bool o.z, .bool o.s, .bool o.f] rfl rfl) ?_
 replace hH := (hH.sb (slk sln)).n1
 exact ⟨by rw [outF_eq T t, if_neg hk1, if_neg hk5, if_neg hk2, if_neg hk3, if_neg hk4, if_neg hk6, if_pos hk7, hm, List.drop_eq_nil_of_le (by omega)]; rfl, hH.turned⟩
 have hk7 : ¬ t.kind = 7 := hc8
 have hone := okHd_one hpa.1 (by omega)
 obtain ⟨x, hx⟩ : ∃ x, t.subs[0]? = some x := ⟨_, List.getElem?_eq_getElem (by omega)⟩
 have hxm := List.mem_of_getElem? hx
 refine Dr hH (slc (slk (slk sln))) ?_
 clear hH; intro w59 hH hS9
 refine Gp1 1 [0] 13 (Pp b1 0) hS9 <| Dq 1 rfl (fun _ hS => (Lk 0 hS rfl rfl rfl)) hS9 <| Gp2 2 [2,3] 15 (.map (some m)) 16 (Pp b1 6) hS9 <| Dq 4 rfl (fun _ hS => (Lk 0 hS rfl rfl rfl)) hS9 ?_
 obtain ⟨p60, hi62, hp61⟩ := hok.row.idx 0 (by omega) (by decide)
 refine Dq 5 rfl (fun _ hS => (Ix (e := 41) 8 rfl rfl hi62)) hS9 <| Dq 6 rfl (fun _ hS => (rd_loadZA (by kernel_rfl) hS hp61 rfl 0 rfl [.int .i64 x.kind, .string (bs x.text), .int .u64 ((x.cl.a : Nat) : Int), .int .u64 ((x.cl.b : Nat) : Int), .int .u64 ((x.cl.c : Nat) : Int), .int .u64 ((x.cl.d : Nat) : Int), .slice x.A x.subs.length x.cap, .int .i64 x.pos] (by kernel_rfl) (rowC_all tvC_len hx 0 _ rfl))) hS9 ?_
 replace hH : Hp w w59 _ _ ([_] ++ [_, _, _]) := hH
 refine gds 7 (Sc rfl rfl (IH x hxm m T c _ (hok.subs x hxm) (hpa.2 x hxm) hH.zoff hH.mine) ?_)
 rintro _ w63 ⟨rfl, hF64⟩
 replace hH := hH.turns hF64
 replace hH := hH.n4
 refine Nl (hH.sb (slk (slk sln))) fun hS9 => gds 8 (Sc rfl rfl (NAlone_ct t.kind (outF T x.nd) _) ?_)
 rintro _ w65 ⟨rfl, hF66⟩
 replace hH := hH.call hF66
 refine Nl (hH.sb (slk (slk sln))) fun hS9 => gds 9 (Ka 2 [.bool ((aloneF t.kind (outF T x.nd)).z), .bool ((aloneF t.kind (outF T x.nd)).s), .bool ((aloneF t.kind (outF T x.nd)).f)] [.bool ((aloneF t.kind (outF T x.nd)).z), .bool ((aloneF t.kind (outF T x.nd)).s), .bool ((aloneF t.kind (outF T x.nd)).f)] rfl hH rfl rfl ?_)
 clear hH; intro w67 hH
 refine Nl (hH.sb (slk (slk sln))) fun hS9 => gdn [(4, Pp b3 0), (5, Pp b5 0)] <| bkN <| sw_next <| sw_sr <| Gq rfl (La 2 [.bool ((aloneF t.kind (outF T x.nd)).z), .bool ((aloneF t.kind (outF T x.nd)).s), .bool ((aloneF t.kind (outF T x.nd)).f)] hH rfl rfl) <| gl_st (Ka 1 [.bool ((aloneF t.kind (outF T x.nd)).z), .bool ((aloneF t.kind (outF T x.nd)).s), .bool ((aloneF t.kind (outF T x.nd)).f)] [.bool ((aloneF t.kind (outF T x.nd)).z), .bool ((aloneF t.kind (outF T x.nd)).s), .bool ((aloneF t.kind (outF T x.nd)).f)] rfl hH rfl rfl ?_)
 clear hH; intro w68 hH
 refine Dn <| sw_ret <| retC1 rfl (RS.cellA hH 1 (by kernel_rfl) rfl rfl (by kernel_rfl) [.bool ((aloneF t.kind (outF T x.nd)).z), .bool ((aloneF t.kind (outF T x.nd)).s), .bool ((aloneF t.kind (outF T x.nd)).f)] rfl rfl) ?_
 replace hH := hH.fr4
 replace hH := (hH.sb (slk sln)).n1
 exact ⟨by rw [outF_eq T t, if_neg hk1, if_neg hk5, if_neg hk2, if_neg hk3, if_neg hk4, if_neg hk6, if_neg hk7, outHd_at hx]; rfl, hH.turned⟩
theorem NExpr_ct (t : Tv) : NxC t := Tv.ind NExpr_step t

end Go.Proofs.YtllfpnbhjfadiaaGreatDoor
/- Layer 7 (nullable): the least answers of a grammar: what the program's functions answer. -/
set_option maxRecDepth 100000
set_option maxHeartbeats 2000000
set_option linter.unusedVariables false
set_option linter.unusedSimpArgs false
namespace Go.Proofs.YtllfpnbhjfadiaaGreatDoor
open Go.RowKit Go.SW
theorem rd_er_ne {P : Program} {fr : Fr} {w : World} {d : Option Tmp} {ty : TypeId} {pos : String} {aft : Array Edge} {g : Option (Nat × Bool)} {t t2 : TypeId} {x : Operand} (ht : isIfaceT P t = true) {e : Er5} {fb : Nat} (hx : ev fr x = erV e fb) : Runs P fr ⟨d, .binOp .neq t x (.const .nilIface) t2, ty, pos, aft, g⟩ (.bool (!e.isNil)) w := by
  cases e with
  | nil => exact rd_if_ne (z := true) (T := 0) (v := .nilIface) ht hx
  | no c => exact rd_if_ne (z := false) ht hx
  | flt c a => exact rd_if_ne (z := false) ht hx
theorem ou_beq (a b : Ou) : ((a.z == b.z) && ((a.s == b.s) && (a.f == b.f))) = decide (a = b) := by
  obtain ⟨az, aq, af⟩ := a
  obtain ⟨bz, bq, bf⟩ := b
  rw [Bool.eq_iff_iff]
  simp
theorem double_at {m : Names} : ∀ {rs : List Rl} {k i : Nat} {r : Rl}, doubleF m k rs = .nil → rs[i]? = some r → (getT m r.name).getD 0 = k + i
  | a :: rs, k, i, r, h, hr => by
    rw [doubleF] at h
    split at h
    · rename_i e
      cases i with
      | zero => cases hr; omega
      | succ i =>
        have := double_at h (by simpa using hr)
        omega
    · cases h
theorem uniq_double {m : Names} {rs : List Rl} (h : doubleF m 0 rs = .nil) : Uniq rs := by
  unfold Uniq
  rw [List.nodup_iff_pairwise_ne, List.pairwise_iff_getElem]
  intro i j hi hj hij e
  rw [List.length_map] at hi hj
  have h1 := double_at h (List.getElem?_eq_getElem hi)
  have h2 := double_at h (List.getElem?_eq_getElem hj)
  rw [List.getElem_map, List.getElem_map] at e
  rw [e] at h1
  omega
theorem print_ok {rs : List Rv} (h : codE (printF (rs.map Rv.rl)) = 0) : ∀ r ∈ rs, okNd r.body.nd = true := fun r hr => by
  cases hb : (rs.any fun r => !(ruleB r))
  · exact (rule_parts (rules_all hb r hr)).2
  · rw [printF_bad (.inr (.inr hb))] at h; cases h
theorem print_len {rs : List Rv} (h : codE (printF (rs.map Rv.rl)) = 0) : rs.length ≤ 64 := by
  rcases Nat.lt_or_ge 64 rs.length with h1 | h1
  · rw [printF_bad (.inr (.inl h1))] at h; cases h
  · exact h1
theorem er_nil_of {e : Er5} (h : e.isNil = true) : e = .nil := by cases e <;> first | rfl | cases h
theorem scope_ok {rs : List Rl} (h : (scopeF rs).isNil = true) : codE (printF rs) = 0 ∧ doubleF (placesF 0 rs []) 0 rs = .nil := by
  unfold scopeF at h
  by_cases h1 : codE (printF rs) = 0
  · rw [if_pos h1] at h
    refine ⟨h1, ?_⟩
    by_cases h2 : (doubleF (placesF 0 rs []) 0 rs).isNil = true
    · exact er_nil_of h2
    · rw [if_neg h2] at h; exact absurd h h2
  · rw [if_neg h1] at h; cases h
def outsT (T : Tab) (rs : List Rl) : List Ou := rs.map fun r => (getT T r.name).getD Ou.no
theorem outs_take {T : Tab} {rs : List Rv} {i : Nat} {r : Rv} (h : rs[i]? = some r) : outsT T ((rs.take (i + 1)).map Rv.rl) = outsT T ((rs.take i).map Rv.rl) ++ [(getT T r.name).getD Ou.no] := by
  unfold outsT
  rw [List.take_add_one, h]; simp [Rv.rl]
def outsF (rs : List Rl) : List Ou := if (scopeF rs).isNil then outsT (rulesT rs) rs else []
theorem ouC_len (o : Ou) : (ouC o).length = 3 := rfl

theorem NRules_ct (rs : List Rv) (cap : Nat) (A : Option Addr) (c : Zone) (w : World) (hc : c.le w.cell?) (hT : Row c (.slice A rs.length cap) 10 rs.length (rowC rvC rs)) (hok : RvsOk c rs) (hall : ∀ r ∈ rs, okNd r.body.nd = true) (hu : Uniq (rs.map Rv.rl)) :
    Fun Tryz.prog 144 [.agg #[.slice A rs.length cap]] w fun v w' => ∃ m, v = .map (some m) ∧ Fresh w w' [.kmap m strK (vmap ouV (rulesT (rs.map Rv.rl)))] := by
 obtain ⟨Ax, cx, hx9, hx1, hx2⟩ := hT.form
 cases hx9
 have hml : maxLen ≤ 9223372036854775807 := by unfold maxLen; decide
 refine fun_of_sw Tryz.func144 rfl 33 rfl rfl ?_
 have hH := (Hp.start w).zsub hc
 refine sw_sr <| gl_st (Bx [.slice A rs.length cap] rfl hH ?_)
 clear hH; intro b1 w2 hH
 refine Go0 1 <| Dn <| sw_sr <| gl_st (st_makeMap rfl rfl rfl strK hH ?_)
 clear hH; intro m3 w4 hH
 refine Go1 1 3 (.map (some m3)) <| Dn <| sw_seq <| sw_sr <| Go1 1 4 (.bool true) <| Dn <| sw_block ?_
 replace hH := hH.fr2
 replace hH := (hH.sb (slk (slk sln))).n2
 refine Lp (γ := Tab × Nat × Bool) hH (fun (T, k, a) => [(1, Pp b1 0), (3, .map (some m3)), (4, .bool a)]) (fun (T, k, a) w_ H_ => (a = true → rulesT (rs.map Rv.rl) = iterF (rs.map Rv.rl) (k + 1) T ∧ wtT T (rs.map Rv.rl) ≤ k) ∧ (a = false → rulesT (rs.map Rv.rl) = T) ∧ (Good (rs.map Rv.rl) T) ∧ H_ [.kmap m3 strK (vmap ouV T), .blk b1 24 [.slice A rs.length cap]]) (fun (T, k, a) => if a then k + 1 else 0) ([], 3 * rs.length, true) ?_ ?_
 · exact ⟨fun _ => ⟨by unfold rulesT; rw [List.length_map], by have h9 := wt_nil (rs.map Rv.rl); rwa [List.length_map] at h9⟩, (fun h => by cases h), good_nil _, hH⟩
 clear hH
 rintro ⟨T, k, a⟩ w5 ⟨h1, h2, hg, hH⟩
 refine swk [(1, Pp b1 0), (3, .map (some m3)), (4, .bool a)] <| sw_seq <| sw_sr <| Go1 1 9 (.bool a) <| Dn <| sw_cond rfl rfl (fun hc1 => ?_) (fun hc1 => ?_)
 obtain rfl : a = true := by simpa using hc1
 refine Sk <| sw_block ?_
 obtain ⟨hm, hw⟩ := h1 rfl
 refine sw_sr <| Go1 1 4 (.bool false) <| Dn <| sw_sr <| Go1 1 10 (Pp b1 0) <| Gq rfl (Lk 1 hH rfl rfl rfl) <| Gq rfl (Ln (e := 43) rfl) <| Go1 1 13 (.int .i64 0) <| Dn <| sw_block ?_
 replace hH := (hH.sb (slk (slk sln))).n2
 refine Lp (γ := Nat × Tab × Bool) hH (fun (i, U, b) => [(1, Pp b1 0), (3, .map (some m3)), (4, .bool b), (11, .slice A rs.length cap), (12, Ni rs.length), (13, Ni i)]) (fun (i, U, b) w_ H_ => (passF (rs.map Rv.rl) T false = passF ((rs.drop i).map Rv.rl) U b) ∧ (PassI (rs.map Rv.rl) T U b) ∧ (i ≤ rs.length) ∧ H_ [.kmap m3 strK (vmap ouV U), .blk b1 24 [.slice A rs.length cap]]) (fun (i, U, b) => rs.length - i) (0, T, false) ?_ ?_
 · exact ⟨rfl, PassI.start hg, Nat.zero_le _, hH⟩
 clear hH
 rintro ⟨i, U, b⟩ w6 ⟨hp, hI, hi, hH⟩
 refine swk [(1, Pp b1 0), (3, .map (some m3)), (4, .bool b), (11, .slice A rs.length cap), (12, Ni rs.length), (13, Ni i)] <| sw_sr <| Go1 1 14 (.bool (decide ((i : Int) < ((rs.length : Nat) : Int)))) <| Dn <| sw_seq <| If rfl (fun hc2 => ?_) (fun hc2 => ?_)
 refine Sk <| sw_seq <| sw_block ?_
 obtain ⟨r, hx⟩ : ∃ r, rs[i]? = some r := ⟨_, List.getElem?_eq_getElem (by omega)⟩
 have hxm := List.mem_of_getElem? hx
 have hrb := hok r hxm
 refine sw_sr ?_
 obtain ⟨p7, hi9, hp8⟩ := hT.idx i (by omega) (by decide)
 refine Gq rfl (Ix (e := 43) 10 rfl rfl hi9) <| Gq rfl (rd_loadZA (by kernel_rfl) hH hp8 rfl 0 rfl [.string (bs r.name), .int .i64 r.body.kind, .string (bs r.body.text), .int .u64 ((r.body.cl.a : Nat) : Int), .int .u64 ((r.body.cl.b : Nat) : Int), .int .u64 ((r.body.cl.c : Nat) : Int), .int .u64 ((r.body.cl.d : Nat) : Int), .slice r.body.A r.body.subs.length r.body.cap, .int .i64 r.body.pos, .int .i64 r.pos] (by kernel_rfl) (rowC_all rvC_len hx 0 _ rfl)) <| gl_st (Alc [.string (bs []), .int .i64 0, .string (bs []), .int .u64 0, .int .u64 0, .int .u64 0, .int .u64 0, .slice none 0 0, .int .i64 0, .int .i64 0] rfl hH ?_)
 clear hH; intro b10 w11 hH
 refine gl_st (Ka 2 [.string (bs r.name), .int .i64 r.body.kind, .string (bs r.body.text), .int .u64 ((r.body.cl.a : Nat) : Int), .int .u64 ((r.body.cl.b : Nat) : Int), .int .u64 ((r.body.cl.c : Nat) : Int), .int .u64 ((r.body.cl.d : Nat) : Int), .slice r.body.A r.body.subs.length r.body.cap, .int .i64 r.body.pos, .int .i64 r.pos] [.string (bs r.name), .int .i64 r.body.kind, .string (bs r.body.text), .int .u64 ((r.body.cl.a : Nat) : Int), .int .u64 ((r.body.cl.b : Nat) : Int), .int .u64 ((r.body.cl.c : Nat) : Int), .int .u64 ((r.body.cl.d : Nat) : Int), .slice r.body.A r.body.subs.length r.body.cap, .int .i64 r.body.pos, .int .i64 r.pos] rfl hH rfl rfl ?_)
 clear hH; intro w12 hH
 refine Dn <| sw_sr <| Go2 2 17 (.map (some m3)) 18 (Pp b10 1) <| Gq rfl (La 2 [.int .i64 r.body.kind, .string (bs r.body.text), .int .u64 ((r.body.cl.a : Nat) : Int), .int .u64 ((r.body.cl.b : Nat) : Int), .int .u64 ((r.body.cl.c : Nat) : Int), .int .u64 ((r.body.cl.d : Nat) : Int), .slice r.body.A r.body.subs.length r.body.cap, .int .i64 r.body.pos] hH rfl rfl) ?_
 replace hH : Hp w w12 _ _ ([_] ++ [_, _]) := hH
 refine gl_st (Sc rfl rfl (NExpr_ct r.body m3 U c _ hrb.body (hall r hxm) hH.zoff hH.mine) ?_)
 rintro _ w13 ⟨rfl, hF14⟩
 replace hH := hH.turns hF14
 replace hH := hH.n3
 refine gl_st (Alc [.bool false, .bool false, .bool false] rfl hH ?_)
 clear hH; intro b15 w16 hH
 refine gl_st (Ka 3 [.bool ((outF U r.body.nd).z), .bool ((outF U r.body.nd).s), .bool ((outF U r.body.nd).f)] [.bool ((outF U r.body.nd).z), .bool ((outF U r.body.nd).s), .bool ((outF U r.body.nd).f)] rfl hH rfl rfl ?_)
 clear hH; intro w17 hH
 refine Dn <| sw_sr <| Gq rfl (La 3 [.bool ((outF U r.body.nd).z), .bool ((outF U r.body.nd).s), .bool ((outF U r.body.nd).f)] hH rfl rfl) <| Go2 2 22 (.map (some m3)) 23 (Pp b10 0) <| Gq rfl (Lk 1 hH rfl rfl rfl) <| Gq rfl (rd_mapget (kt := 9) (e := 142) (zv := .agg #[.bool false, .bool false, .bool false]) 2 (by kernel_rfl) (by kernel_rfl) strK_key (by kernel_rfl) hH rfl rfl r.name rfl) <| gl_cv 25 (.agg #[.bool (((getT U r.name).getD Ou.no).z), .bool (((getT U r.name).getD Ou.no).s), .bool (((getT U r.name).getD Ou.no).f)]) (kget_D ouV _ _ Ou.no) rfl <| Gq rfl (rd_tri_neq 4 (by kernel_rfl) (by kernel_rfl) (by kernel_rfl) (by kernel_rfl) (by kernel_rfl) (by kernel_rfl) rfl rfl) <| Dn <| If rfl (fun hc3 => ?_) (fun hc3 => ?_)
 have hq : outF U r.body.nd ≠ (getT U r.name).getD Ou.no := by have h9 := hc3; rw [ou_beq] at h9; simpa using h9
 refine sw_region <| Go2 2 27 (.map (some m3)) 28 (Pp b10 0) <| Gq rfl (Lk 1 hH rfl rfl rfl) <| Gq rfl (La 3 [.bool ((outF U r.body.nd).z), .bool ((outF U r.body.nd).s), .bool ((outF U r.body.nd).f)] hH rfl rfl) <| gl_st (st_mapset (kt := 9) (e := 142) (v := .agg #[.bool ((outF U r.body.nd).z), .bool ((outF U r.body.nd).s), .bool ((outF U r.body.nd).f)]) 2 rfl rfl rfl (by kernel_rfl) (by kernel_rfl) strK_key hH rfl rfl r.name rfl rfl ?_)
 clear hH; intro w18 hH
 replace hH := hH.cast (os' := [.blk b1 24 [.slice A rs.length cap], .blk b10 43 [.string (bs r.name), .int .i64 r.body.kind, .string (bs r.body.text), .int .u64 ((r.body.cl.a : Nat) : Int), .int .u64 ((r.body.cl.b : Nat) : Int), .int .u64 ((r.body.cl.c : Nat) : Int), .int .u64 ((r.body.cl.d : Nat) : Int), .slice r.body.A r.body.subs.length r.body.cap, .int .i64 r.body.pos, .int .i64 r.pos], .kmap m3 strK (vmap ouV (putT U r.name (outF U r.body.nd))), .blk b15 142 [.bool ((outF U r.body.nd).z), .bool ((outF U r.body.nd).s), .bool ((outF U r.body.nd).f)]]) (by rw [show Value.agg #[.bool (outF U r.body.nd).z, .bool (outF U r.body.nd).s, .bool (outF U r.body.nd).f] = ouV (outF U r.body.nd) from rfl, kputK_vmap]; rfl)
 refine Go1 1 4 (.bool true) <| Dd <| bkN <| sw_next <| sw_region <| Gw0 1 31 ((i : Int) + 1) ((i + 1 : Nat) : Int) <| Go1 1 13 (Ni (i + 1)) <| Dd <| rnd_end (g := (i, U, b)) (i + 1, putT U r.name (outF U r.body.nd), true) (by kernel_rfl) ?_ ?_
 replace hH := hH.fr3
 replace hH := (hH.sb (slk (slk sln))).n2
 · exact ⟨by rw [hp, passF_at hx, if_pos hq], hI.put hu (List.mem_map.2 ⟨r, hxm, rfl⟩) hq, by omega, hH⟩
 · show rs.length - (i + 1) < rs.length - i; omega
 have hq : outF U r.body.nd = (getT U r.name).getD Ou.no := by have h9 := hc3; rw [ou_beq] at h9; simpa using h9
 refine sw_skip <| bkN <| sw_next <| sw_region <| Gw0 1 31 ((i : Int) + 1) ((i + 1 : Nat) : Int) <| Go1 1 13 (Ni (i + 1)) <| Dd <| rnd_end (g := (i, U, b)) (i + 1, U, b) (by kernel_rfl) ?_ ?_
 replace hH := hH.fr3
 replace hH := (hH.sb (slk (slk sln))).n2
 · exact ⟨by rw [hp, passF_at hx, if_neg (fun h => h hq)], hI, by omega, hH⟩
 · show rs.length - (i + 1) < rs.length - i; omega
 have hpe : passF (rs.map Rv.rl) T false = (U, b) := by rw [hp, List.drop_eq_nil_of_le (by omega)]; rfl
 refine sw_exit <| thX <| thX <| bkH <| bkN <| rnd_end (g := (T, k, true)) (U, k - 1, b) (by kernel_rfl) ?_ ?_
 replace hH := (hH.sb (slk (slk sln))).n2
 · exact ⟨fun h => ⟨by subst h; rw [hm, iterF, hpe, show k - 1 + 1 = k from by have := hI.lt rfl; omega]; rfl, by have := hI.lt h; omega⟩, fun h => by subst h; rw [hm, iterF, hpe]; rfl, hI.good, hH⟩
 · have hlb : b = true → 1 ≤ k := (fun h => by have := hI.lt h; omega); show (if b = true then k - 1 + 1 else 0) < k + 1; split; (rename_i h; have := hlb h; omega); omega
 obtain rfl : a = false := by simpa using hc1
 refine sw_exit <| thX <| thX <| bkH <| sw_next <| sw_sr <| Go1 2 2 (.map (some m3)) <| Dn <| Rt1 rfl rfl ?_
 replace hH := (hH.sb (slk sln)).n1
 exact ⟨m3, rfl, by rw [h2 rfl]; exact hH.fresh⟩
theorem NRulesX_ct (rs : List Rv) (cap : Nat) (A : Option Addr) (c : Zone) (w : World) (hg0 : c ⟨0, 0, none⟩ = some errTy) (hc : c.le w.cell?) (hT : Row c (.slice A rs.length cap) 10 rs.length (rowC rvC rs)) (hok : RvsOk c rs) (hb : 2400 * Rv.sizes rs ≤ 70368744177664) :
    Fun Tryz.prog 109 [.agg #[.slice A rs.length cap]] w fun v w' => ∃ v1 fb, v = .tuple #[v1, erV (scopeF (rs.map Rv.rl)) fb] ∧ Fresh w w' [.row v1 142 3 (outsF (rs.map Rv.rl)).length (rowC ouC (outsF (rs.map Rv.rl))), erO (scopeF (rs.map Rv.rl)) fb] := by
 obtain ⟨Ax, cx, hx9, hx1, hx2⟩ := hT.form
 cases hx9
 have hml : maxLen ≤ 9223372036854775807 := by unfold maxLen; decide
 refine fun_of_sw Tryz.func109 rfl 32 rfl rfl ?_
 have hH := (Hp.start w).zsub hc
 refine sw_sr <| gl_st (Bx [.slice A rs.length cap] rfl hH ?_)
 clear hH; intro b1 w2 hH
 refine Go0 2 <| Dn <| sw_seq <| sw_sr <| Gq rfl (La 0 [.slice A rs.length cap] hH rfl rfl) <| gl_st (Sc rfl rfl (SCheck_ct rs cap A c _ hg0 hH.zin hT hok hb) ?_)
 rintro _ w4 ⟨fb3, rfl, hF5⟩
 replace hH := hH.call hF5
 refine Go1 1 4 (erV (scopeF (rs.map Rv.rl)) fb3) <| Dn <| sw_sr <| Go1 1 11 (erV (scopeF (rs.map Rv.rl)) fb3) <| Gq rfl (rd_er_ne (by kernel_rfl) rfl) <| Dn <| If rfl (fun hc1 => ?_) (fun hc1 => ?_)
 have hso : (scopeF (rs.map Rv.rl)).isNil = false := hc1
 refine sw_sr <| Go2 3 2 (.slice none 0 0) 3 (erV (scopeF (rs.map Rv.rl)) fb3) <| Dn <| Rt2 rfl rfl rfl ?_
 replace hH := hH.nilRow 142 3
 replace hH := hH.fr2.fr3
 replace hH := (hH.sb (slk (slk sln))).n2
 exact ⟨_, fb3, rfl, by unfold outsF; rw [if_neg (by rw [hso]; decide)]; exact hH.fresh⟩
 have hnil : (scopeF (rs.map Rv.rl)).isNil = true := hc1
 have hso := scope_ok hnil
 have hrl64 := print_len hso.1
 refine Sk <| sw_sr <| Gq rfl (La 0 [.slice A rs.length cap] hH rfl rfl) <| gl_st (Sc rfl rfl (NRules_ct rs cap A c _ hH.zin hT hok (print_ok hso.1) (uniq_double hso.2)) ?_)
 rintro _ w7 ⟨m6, rfl, hF8⟩
 replace hH := hH.call hF8
 refine Go1 1 5 (.map (some m6)) <| Dn <| sw_sr <| Go1 1 6 (.slice none 0 0) <| Dn <| sw_seq <| sw_sr <| Go1 1 16 (Pp b1 0) <| Gq rfl (Lk 0 hH rfl rfl rfl) <| Gq rfl (Ln (e := 43) rfl) <| Go1 1 19 (.int .i64 0) <| Dn <| sw_block ?_
 replace hH := hH.nilRow 142 3
 replace hH := hH.fr2.fr4.fr4
 replace hH := (hH.sb (slk (slk (slk sln)))).n3
 refine Lp (γ := Nat × List Ou × Value) hH (fun (i, os, xv) => [(5, .map (some m6)), (6, xv), (17, .slice A rs.length cap), (18, Ni rs.length), (19, Ni i)]) (fun (i, os, xv) w_ H_ => (os = outsT (rulesT (rs.map Rv.rl)) ((rs.take i).map Rv.rl)) ∧ (os.length ≤ 64) ∧ (i ≤ rs.length) ∧ (os.length = i) ∧ H_ [.kmap m6 strK (vmap ouV (rulesT (rs.map Rv.rl))), .row xv 142 3 os.length (rowC ouC os), erO (scopeF (rs.map Rv.rl)) fb3]) (fun (i, os, xv) => rs.length - i) (0, [], .slice none 0 0) ?_ ?_
 · exact ⟨rfl, Nat.zero_le _, Nat.zero_le _, rfl, hH⟩
 clear hH
 rintro ⟨i, os, xv⟩ w9 ⟨ho, hl, hi, hoi, hH⟩
 refine swk [(5, .map (some m6)), (6, xv), (17, .slice A rs.length cap), (18, Ni rs.length), (19, Ni i)] <| sw_sr <| Go1 1 20 (.bool (decide ((i : Int) < ((rs.length : Nat) : Int)))) <| Dn <| sw_seq <| If rfl (fun hc2 => ?_) (fun hc2 => ?_)
 refine Sk <| sw_seq <| sw_block ?_
 obtain ⟨r, hx⟩ : ∃ r, rs[i]? = some r := ⟨_, List.getElem?_eq_getElem (by omega)⟩
 have hxm := List.mem_of_getElem? hx
 have hrb := hok r hxm
 refine sw_sr ?_
 obtain ⟨p10, hi12, hp11⟩ := hT.idx i (by omega) (by decide)
 refine Gq rfl (Ix (e := 43) 10 rfl rfl hi12) <| Gq rfl (rd_loadZA (by kernel_rfl) hH hp11 rfl 0 rfl [.string (bs r.name), .int .i64 r.body.kind, .string (bs r.body.text), .int .u64 ((r.body.cl.a : Nat) : Int), .int .u64 ((r.body.cl.b : Nat) : Int), .int .u64 ((r.body.cl.c : Nat) : Int), .int .u64 ((r.body.cl.d : Nat) : Int), .slice r.body.A r.body.subs.length r.body.cap, .int .i64 r.body.pos, .int .i64 r.pos] (by kernel_rfl) (rowC_all rvC_len hx 0 _ rfl)) <| gl_st (Alc [.string (bs []), .int .i64 0, .string (bs []), .int .u64 0, .int .u64 0, .int .u64 0, .int .u64 0, .slice none 0 0, .int .i64 0, .int .i64 0] rfl hH ?_)
 clear hH; intro b13 w14 hH
 refine gl_st (Ka 3 [.string (bs r.name), .int .i64 r.body.kind, .string (bs r.body.text), .int .u64 ((r.body.cl.a : Nat) : Int), .int .u64 ((r.body.cl.b : Nat) : Int), .int .u64 ((r.body.cl.c : Nat) : Int), .int .u64 ((r.body.cl.d : Nat) : Int), .slice r.body.A r.body.subs.length r.body.cap, .int .i64 r.body.pos, .int .i64 r.pos] [.string (bs r.name), .int .i64 r.body.kind, .string (bs r.body.text), .int .u64 ((r.body.cl.a : Nat) : Int), .int .u64 ((r.body.cl.b : Nat) : Int), .int .u64 ((r.body.cl.c : Nat) : Int), .int .u64 ((r.body.cl.d : Nat) : Int), .slice r.body.A r.body.subs.length r.body.cap, .int .i64 r.body.pos, .int .i64 r.pos] rfl hH rfl rfl ?_)
 clear hH; intro w15 hH
 refine Dn <| sw_region <| Go3 3 23 xv 24 (.map (some m6)) 25 (Pp b13 0) <| Gq rfl (Lk 3 hH rfl rfl rfl) <| Gq rfl (rd_mapget (kt := 9) (e := 142) (zv := .agg #[.bool false, .bool false, .bool false]) 0 (by kernel_rfl) (by kernel_rfl) strK_key (by kernel_rfl) hH rfl rfl r.name rfl) <| gl_cv 27 (.agg #[.bool (((getT (rulesT (rs.map Rv.rl)) r.name).getD Ou.no).z), .bool (((getT (rulesT (rs.map Rv.rl)) r.name).getD Ou.no).s), .bool (((getT (rulesT (rs.map Rv.rl)) r.name).getD Ou.no).f)]) (kget_D ouV _ _ Ou.no) rfl <| gl_st (st_buildS (e := 142) (zv := .agg #[.bool false, .bool false, .bool false]) (m := 3) (bytes := 3) rfl rfl rfl (by kernel_rfl) (by kernel_rfl) rfl (cs := [.bool (((getT (rulesT (rs.map Rv.rl)) r.name).getD Ou.no).z), .bool (((getT (rulesT (rs.map Rv.rl)) r.name).getD Ou.no).s), .bool (((getT (rulesT (rs.map Rv.rl)) r.name).getD Ou.no).f)]) (by kernel_rfl) rfl hH ?_)
 clear hH; intro b16 w17 hH
 refine gl_st (Apd (e := 142) (.agg #[.bool false, .bool false, .bool false]) 3 3 1 rfl hH rfl rfl rfl (hH.row_reads 4 rfl) (by simp [Value.oneCell']) (by unfold maxLen; omega) (by omega) ?_)
 clear hH; intro v18 w19 hH
 replace hH := hH.row_eq 1 (l' := (os ++ [(getT (rulesT (rs.map Rv.rl)) r.name).getD Ou.no]).length) (xs' := rowC ouC (os ++ [(getT (rulesT (rs.map Rv.rl)) r.name).getD Ou.no])) rfl (by simp) (by rw [← rowC_app, rowC_one]; rfl)
 obtain ⟨A20, c21, rfl, hl22, hm23⟩ := hH.row_form 1 rfl
 refine Go1 1 6 (.slice A20 ((os ++ [(getT (rulesT (rs.map Rv.rl)) r.name).getD Ou.no]).length) c21) <| Dd <| bkN <| sw_next <| sw_region <| Gw0 1 30 ((i : Int) + 1) ((i + 1 : Nat) : Int) <| Go1 1 19 (Ni (i + 1)) <| Dd <| rnd_end (g := (i, os, xv)) (i + 1, os ++ [(getT (rulesT (rs.map Rv.rl)) r.name).getD Ou.no], (.slice A20 ((os ++ [(getT (rulesT (rs.map Rv.rl)) r.name).getD Ou.no]).length) c21)) (by kernel_rfl) ?_ ?_
 replace hH := (hH.sb (slk (slk (slk sln)))).n3
 · exact ⟨by rw [ho, outs_take hx], by rw [List.length_append, List.length_singleton]; omega, by omega, by rw [List.length_append, List.length_singleton]; omega, hH⟩
 · show rs.length - (i + 1) < rs.length - i; omega
 refine sw_exit <| thX <| thX <| bkH <| sw_next <| sw_sr <| Go2 3 2 xv 3 (.nilIface) <| Dn <| Rt2 rfl rfl rfl ?_
 replace hH := hH.fr3.fr3
 replace hH := (hH.sb (slk (slk sln))).n2
 have hoo : outsF (rs.map Rv.rl) = os := by unfold outsF; rw [if_pos hnil, ho, show i = rs.length from by omega, List.take_length]
 exact ⟨xv, fb3, by rw [er_nil_of hnil]; rfl, by rw [hoo]; exact hH.fresh⟩
end Go.Proofs.YtllfpnbhjfadiaaGreatDoor
/- slices.Sorted(maps.Keys(m)) over a map from ints that the call owns: its keys in order. -/
set_option linter.unusedVariables false
set_option maxRecDepth 100000
namespace Go.Proofs.YtllfpnbhjfadiaaGreatDoor
open Go Go.RowKit Go.SW Go.Maps Go.Sort Go.Shelf
open Go.WideElems (Fit rd rg rd_mk rg_of)
def anyR : Value → Option (DataW Unit × List MemPlace) := fun _ => some (.nil, [])
def unI : Value → Int
  | .int _ a => a
  | _ => 0
def InI (x : Int) : Prop := -9223372036854775808 ≤ x ∧ x ≤ 9223372036854775807
theorem keyOf_intK {P : Program} {k : TypeId} (hd : P.underlying k = some (.int .i64)) {x : Int} (hx : InI x) : keyOf P k (intK .i64 x) = some (.int .i64 x) := by
  refine keyOf_int_mk hd ?_
  simp only [Lit.wf]
  obtain ⟨h1, h2⟩ := hx
  have e1 : IntKind.i64.min = -9223372036854775808 := by decide
  have e2 : IntKind.i64.max = 9223372036854775807 := by decide
  simp [e1, e2]; omega
theorem ownsMap_im {w : World} {P : Program} {k : TypeId} {m : Nat} {l : IEs} (hd : P.underlying k = some (.int .i64)) (hm : (Own.imap m l).at w) (hl : ∀ p ∈ l, InI p.1) (hn : l.length ≤ maxLen) :
    ∃ D0 : DataW Unit, w.ownsMap P k anyR m l.length D0 ∧ (intKeys D0).Perm (l.map (·.1)) ∧ Maps.size D0 = l.length := by
  obtain ⟨es, clock, h1, h2, h3⟩ := hm
  have hsz : es.size = l.length := by have := congrArg List.length h2; simpa using this
  have hmem : ∀ x ∈ es.toList, ∃ p ∈ l, x.key = intK .i64 p.1 := by
    intro x hx
    have hx2 : (x.key, x.val) ∈ l.map (fun p => (intK .i64 p.1, p.2)) := by rw [← h2]; exact List.mem_map.2 ⟨x, hx, rfl⟩
    obtain ⟨p, hp, e⟩ := List.mem_map.1 hx2
    exact ⟨p, hp, (congrArg Prod.fst e).symm⟩
  have hrd : ∀ x ∈ es.toList, rd P k anyR x = some (.int .i64 (unI x.key), .nil) := by
    rintro ⟨key, val, born⟩ hx
    obtain ⟨p, hp, e⟩ := hmem _ hx
    simp only at e
    subst e
    exact rd_mk (R := anyR) (keyOf_intK hd (hl p hp)) rfl
  refine ⟨_, ⟨es, clock, h1, ⟨by omega, h3, fun x hx => ⟨_, hrd x hx⟩⟩, by omega, rfl⟩, ?_, ?_⟩
  · have hp := ((WideShapes.sorted_perm (es.toList.map (rg P k anyR))).map fun p => _root_.Go.intOf p.1)
    have e : ((es.toList.map (rg P k anyR)).map fun p => _root_.Go.intOf p.1) = l.map (·.1) := by
      rw [List.map_map]
      have e1 : es.toList.map ((fun p : Lit × DataW Unit => _root_.Go.intOf p.1) ∘ rg P k anyR) = (es.toList.map (fun e => (e.key, e.val))).map (fun q => unI q.1) := by
        rw [List.map_map]
        refine List.map_congr_left fun x hx => ?_
        simp only [Function.comp_apply, rg_of (hrd x hx), _root_.Go.intOf]
      rw [e1, h2, List.map_map]
      refine List.map_congr_left fun x _ => ?_
      simp [intK, unI]
    rw [e] at hp
    exact hp
  · show (((es.toList.map (rg P k anyR)).foldr DataW.insert [])).length = l.length
    rw [length_sorted]; simpa using hsz
def sortI (l : List Int) : List Int := l.mergeSort leI
theorem MapsKeysI_ct (m : Nat) (w : World) : Fun Tryz.prog 114 [.map (some m)] w fun v w' =>
    ∃ b, v = .func (.func 148) #[] #[.pointer (some ⟨b, 0, none⟩)] ∧ Fresh w w' [.blk b 199 [.map (some m)]] := by
  have cK : CallsIn Fence.wide 5 Tryz.prog 114 #[.map (some m)] w fun e w' => e = .returned (.func (.func 148) #[] #[.pointer (some ⟨w.heap.size, 0, none⟩)]) ∧ w' = w.alloc (.cells #[.map (some m)] 199) := AnyZI.keys_in Tryz.keysI Fence.wide 5 trivial rfl (some m) w
  refine Calls.mono (callsIn_wide.1 cK) ?_
  rintro e w' ⟨rfl, rfl⟩
  exact ⟨_, rfl, w.heap.size, rfl, Fresh.alloc w [.map (some m)] 199⟩
theorem sortsI (m : Nat) : AnyZI.SortsIn Tryz.prog Tryz.sortedI_ren Fence.wide m :=
  ⟨fun blk off cap ss W hH hblk hsz => callsIn_wide.2 (AnyM.slices_Sort_int Tryz.sortI blk off cap ss W hH hblk hsz),
   fun p cap W => callsIn_wide.2 (AnyM.slices_Sort_int_none Tryz.sortI p cap W)⟩
theorem SortedKeysI_ct (b m : Nat) (l : IEs) (w : World) (hb : w.cell? ⟨b, 0, none⟩ = some (.map (some m))) (hm : (Own.imap m l).at w) (hl : ∀ p ∈ l, InI p.1) (hn : l.length ≤ 17592186044416) :
    Fun Tryz.prog 113 [.func (.func 148) #[] #[.pointer (some ⟨b, 0, none⟩)]] w fun v w' =>
      ∃ v1, v = v1 ∧ Fresh w w' [.row v1 3 1 (sortI (l.map (·.1))).length ((sortI (l.map (·.1))).map encZ)] := by
  obtain ⟨D0, h1, h2, h3⟩ := ownsMap_im (P := Tryz.prog) (k := 3) (by kernel_rfl) hm hl (by unfold maxLen; omega)
  have hblt : b < w.heap.size := World.block_lt_of_cell? w ⟨b, 0, none⟩ hb
  have hseq : SeqGives Fence.wide 2 Tryz.prog 148 #[.pointer (some ⟨b, 0, none⟩)] encZ (fun ss => ss.Perm (intKeys D0)) (Maps.size D0) w :=
    AnyZI.keys_gives (ρ := Tryz.keysI_ren) { Tryz.keysI with } Fence.wide _ trivial rfl (by omega) b m _ D0 w hblt hb h1
  have h4 := AnyZI.sorted_in Tryz.sortedI Fence.wide 5 trivial trivial trivial trivial rfl (by omega) (sortsI _) (enters_of Tryz.func147 (by kernel_rfl) rfl) 148 #[.pointer (some ⟨b, 0, none⟩)] trivial (enters_of Tryz.func148 (by kernel_rfl) rfl) _ _ (by rw [h3]; unfold maxLen; omega) (by rw [h3]; omega) w hseq
  refine Calls.mono (callsIn_wide.1 h4) ?_
  rintro e w' ⟨v, ss, rfl, hS, hrow, _, hB⟩
  refine ⟨v, rfl, v, rfl, ?_⟩
  have hp := hS.trans h2
  have e1 : (ss.mergeSort fun x y => decide (x ≤ y)) = sortI (l.map (·.1)) := mergeSort_of_perm_i hp
  have e2 : (sortI (l.map (·.1))).length = ss.length := by unfold sortI; rw [List.length_mergeSort, hp.length_eq]
  rw [e2, ← e1]
  exact Fresh.row hB hrow
end Go.Proofs.YtllfpnbhjfadiaaGreatDoor
/- Layer 8 (sound): plain mathematics. -/
set_option linter.unusedVariables false
namespace Go.Proofs.YtllfpnbhjfadiaaGreatDoor
open Go.RowKit Go.SW
def lookF : List Rl → List Ou → Tab → Tab
  | r :: rs, o :: os, T => lookF rs os (putT T r.name o)
  | _, _, T => T
def lookT (rs : List Rl) : Tab := lookF rs (outsF rs) []
theorem lookF_at {rs : List Rv} {os : List Ou} {i : Nat} {r : Rv} {o : Ou} (h : rs[i]? = some r) (k : os[i]? = some o) (T : Tab) : lookF ((rs.drop i).map Rv.rl) (os.drop i) T = lookF ((rs.drop (i + 1)).map Rv.rl) (os.drop (i + 1)) (putT T r.name o) := by
  obtain ⟨hi, rfl⟩ := List.getElem?_eq_some_iff.1 h
  obtain ⟨ki, rfl⟩ := List.getElem?_eq_some_iff.1 k
  rw [List.drop_eq_getElem_cons hi, List.drop_eq_getElem_cons ki, List.map_cons, lookF]; rfl
theorem lookF_end {os : List Ou} (T : Tab) : lookF [] os T = T := by cases os <;> rfl
theorem outs_len {rs : List Rv} (h : (scopeF (rs.map Rv.rl)).isNil = true) : (outsF (rs.map Rv.rl)).length = rs.length := by
  unfold outsF outsT
  rw [if_pos h, List.length_map, List.length_map]

mutual
def eachF {σ : Type} (p : σ → Nd → Bool × σ) : Nd → σ → Bool × σ
  | .mk k t c s q, st => if (p st (.mk k t c s q)).1 then eachFs p s (p st (.mk k t c s q)).2 else (false, (p st (.mk k t c s q)).2)
def eachFs {σ : Type} (p : σ → Nd → Bool × σ) : List Nd → σ → Bool × σ
  | [], st => (true, st)
  | x :: s, st => if (eachF p x st).1 then eachFs p s (eachF p x st).2 else (false, (eachF p x st).2)
end
theorem eachF_tv {σ : Type} (p : σ → Nd → Bool × σ) (t : Tv) (st : σ) : eachF p t.nd st = if (p st t.nd).1 then eachFs p (Tv.nds t.subs) (p st t.nd).2 else (false, (p st t.nd).2) := by
  cases t with
  | mk k tx c A cap s q => rw [Tv.nd, eachF]; rfl
def notP {σ : Type} (p : σ → Nd → Bool × σ) : σ → Tv → Bool × σ := fun s x => (!(eachF p x.nd s).1, (eachF p x.nd s).2)
theorem eachFs_any {σ : Type} (p : σ → Nd → Bool × σ) : ∀ (s : List Tv) (st : σ), eachFs p (Tv.nds s) st = (!(anyS (notP p) st s).1, (anyS (notP p) st s).2)
  | [], st => rfl
  | x :: s, st => by
    rw [Tv.nds, eachFs, anyS]
    by_cases h : (eachF p x.nd st).1 = true
    · rw [if_pos h, if_neg (by simp [notP, h]), eachFs_any p s]; rfl
    · rw [if_neg h, if_pos (by simp [notP, h])]; rfl
abbrev Seen := List (Int × Bool)

mutual
def firstF (T : Tab) (rs : List Rl) : Nd → Seen → Seen
  | .mk k t c s _, S => firstFs T rs k s (if k = 5 then putT S (findF t rs) true else S)
def firstFs (T : Tab) (rs : List Rl) (k : Int) : List Nd → Seen → Seen
  | [], S => S
  | x :: s, S => if k = 6 ∧ (outF T x).z = false then firstF T rs x S else firstFs T rs k s (firstF T rs x S)
end
theorem firstF_tv (T : Tab) (rs : List Rl) (t : Tv) (S : Seen) : firstF T rs t.nd S = firstFs T rs t.kind (Tv.nds t.subs) (if t.kind = 5 then putT S (findF t.text rs) true else S) := by
  cases t with
  | mk k tx c A cap s q => rw [Tv.nd, firstF]; rfl
theorem firstFs_at {T : Tab} {rs : List Rl} {k : Int} {s : List Tv} {i : Nat} {x : Tv} (h : s[i]? = some x) (S : Seen) : firstFs T rs k (Tv.nds (s.drop i)) S = if k = 6 ∧ (outF T x.nd).z = false then firstF T rs x.nd S else firstFs T rs k (Tv.nds (s.drop (i + 1))) (firstF T rs x.nd S) := by
  obtain ⟨hi, rfl⟩ := List.getElem?_eq_some_iff.1 h
  rw [List.drop_eq_getElem_cons hi, Tv.nds, firstFs]
theorem putT_mem {κ β : Type} [DecidableEq κ] {k : κ} {x : β} {p : κ × β} : ∀ {l : List (κ × β)}, p ∈ putT l k x → p = (k, x) ∨ p ∈ l
  | [], h => by rw [putT] at h; exact .inl (List.mem_singleton.1 h)
  | q :: l, h => by
    rw [putT] at h
    split at h
    · rcases List.mem_cons.1 h with h | h
      · exact .inl h
      · exact .inr (List.mem_cons_of_mem q h)
    · rcases List.mem_cons.1 h with h | h
      · exact .inr (h ▸ List.mem_cons_self ..)
      · rcases putT_mem h with h | h
        · exact .inl h
        · exact .inr (List.mem_cons_of_mem q h)
theorem putT_len {κ β : Type} [DecidableEq κ] (k : κ) (x : β) : ∀ (l : List (κ × β)), (putT l k x).length ≤ l.length + 1
  | [] => by rw [putT]; simp
  | q :: l => by
    rw [putT]
    split
    · simp
    · have := putT_len k x l
      rw [List.length_cons, List.length_cons]; omega
def InK (S : Seen) : Prop := ∀ p ∈ S, InI p.1
theorem findF_in (t : List UInt8) {rs : List Rl} (h : rs.length ≤ 64) : InI (findF t rs) := by
  unfold findF InI
  split
  · rename_i ha
    have := List.findIdx_lt_length_of_exists (p := fun r : Rl => r.name == t) (xs := rs) (by simpa using ha)
    omega
  · omega
def FirstOk (n : Nd) : Prop := ∀ (T : Tab) (rs : List Rl) (S : Seen), rs.length ≤ 64 → InK S → InK (firstF T rs n S) ∧ (firstF T rs n S).length ≤ S.length + n.size
theorem firstFs_ok {T : Tab} {rs : List Rl} {k : Int} (hr : rs.length ≤ 64) : ∀ (s : List Nd) (S : Seen), (∀ x ∈ s, FirstOk x) → InK S → InK (firstFs T rs k s S) ∧ (firstFs T rs k s S).length ≤ S.length + Nd.sizes s
  | [], S, _, hS => by rw [firstFs, Nd.sizes]; exact ⟨hS, Nat.le_refl _⟩
  | x :: s, S, H, hS => by
    have h1 := H x (List.mem_cons_self ..) T rs S hr hS
    have h2 := firstFs_ok hr s (firstF T rs x S) (fun y hy => H y (List.mem_cons_of_mem x hy)) h1.1 (k := k) (T := T)
    rw [firstFs, Nd.sizes]
    split
    · exact ⟨h1.1, by omega⟩
    · exact ⟨h2.1, by omega⟩
theorem first_mk {k : Int} {t : List UInt8} {c : Cl} {s : List Nd} {p : Int} (H : ∀ x ∈ s, FirstOk x) : FirstOk (.mk k t c s p) := by
  intro T rs S hr hS
  rw [firstF, Nd.size]
  have h1 : InK (if k = 5 then putT S (findF t rs) true else S) ∧ (if k = 5 then putT S (findF t rs) true else S).length ≤ S.length + 1 := by
    split
    · refine ⟨fun p hp => ?_, putT_len _ _ _⟩
      rcases putT_mem hp with rfl | hp
      · exact findF_in t hr
      · exact hS p hp
    · exact ⟨hS, by omega⟩
  have h2 := firstFs_ok (T := T) (k := k) hr s _ H h1.1
  exact ⟨h2.1, by omega⟩
theorem first_ok (n : Nd) : FirstOk n := by
  suffices ∀ N, ∀ n : Nd, n.size ≤ N → FirstOk n from this _ n (Nat.le_refl _)
  intro N
  induction N with
  | zero => intro n hn; cases n; rw [Nd.size] at hn; omega
  | succ N ih =>
    intro n hn
    cases n with
    | mk k t c s p =>
      rw [Nd.size] at hn
      exact first_mk fun x hx => ih x (by have := Nd.size_mem hx; omega)
def beginOf (T : Tab) (rs : List Rl) (n : Nd) : List Int := sortI ((firstF T rs n []).map (·.1))
def beginsF (T : Tab) (rs : List Rl) : List (List Int) := rs.map fun r => beginOf T rs r.body
def loopP (T : Tab) : Option Int → Nd → Bool × Option Int := fun f n =>
  if (n.kind = 9 ∨ n.kind = 10) ∧ (outF T (n.subs.headD (.mk 0 [] Cl.zero [] 0))).z = true then (false, some n.pos) else (f.isNone, f)
def loopsF (T : Tab) : List Rl → Er5
  | [] => .nil
  | r :: rs => match (eachF (loopP T) r.body none).2 with
    | some a => .flt 40 a
    | none => loopsF T rs
theorem loopsF_at {T : Tab} {s : List Rv} {i : Nat} {r : Rv} (h : s[i]? = some r) : loopsF T ((s.drop i).map Rv.rl) = match (eachF (loopP T) r.body.nd none).2 with
    | some a => .flt 40 a
    | none => loopsF T ((s.drop (i + 1)).map Rv.rl) := by
  obtain ⟨hi, rfl⟩ := List.getElem?_eq_some_iff.1 h
  rw [List.drop_eq_getElem_cons hi, List.map_cons, loopsF]; rfl
def stepP (B : List (List Int)) (from_ : Int) (visit : Int → Seen → Bool × Seen) : Seen → Int → Bool × Seen := fun S q =>
  if (getT S q).getD false then (false, S) else if q = from_ then (true, putT S q true) else visit q (putT S q true)
def visitF (B : List (List Int)) (from_ : Int) : Nat → Int → Seen → Bool × Seen
  | 0, _, S => (false, S)
  | k + 1, i, S => anyS (stepP B from_ (visitF B from_ k)) S (B.getD i.toNat [])
def backF (B : List (List Int)) (i : Nat) : Bool := (visitF B i (B.length + 1) i []).1
def leftsF (B : List (List Int)) : Nat → List Rl → Er5
  | _, [] => .nil
  | i, r :: rs => if backF B i then .flt 41 r.pos else leftsF B (i + 1) rs
theorem leftsF_at {B : List (List Int)} {s : List Rv} {i : Nat} {r : Rv} (h : s[i]? = some r) : leftsF B i ((s.drop i).map Rv.rl) = if backF B i then .flt 41 r.pos else leftsF B (i + 1) ((s.drop (i + 1)).map Rv.rl) := by
  obtain ⟨hi, rfl⟩ := List.getElem?_eq_some_iff.1 h
  rw [List.drop_eq_getElem_cons hi, List.map_cons, leftsF]; rfl
def soundF (rs : List Rl) : Er5 :=
  if (scopeF rs).isNil then
    (if (loopsF (lookT rs) rs).isNil then leftsF (beginsF (lookT rs) rs) 0 rs else loopsF (lookT rs) rs)
  else scopeF rs
end Go.Proofs.YtllfpnbhjfadiaaGreatDoor
