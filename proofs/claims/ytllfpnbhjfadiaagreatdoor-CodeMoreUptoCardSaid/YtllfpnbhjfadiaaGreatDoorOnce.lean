/- The law CodeOnce: parts stand ahead, each once: what its functions answer. -/
import Derived.Test.YtllfpnbhjfadiaaGreatDoorGg
import Derived.Test.YtllfpnbhjfadiaaGreatDoorGd
set_option maxRecDepth 100000
set_option maxHeartbeats 2000000
set_option linter.unusedVariables false
set_option linter.unusedSimpArgs false
namespace Go.Proofs.YtllfpnbhjfadiaaGreatDoor
open Go.RowKit Go.SW
def srcB : List UInt8 := [97, 32, 60, 45, 32, 39, 120, 39, 32, 98, 32, 47, 32, 39, 120, 39, 32, 98, 32, 60, 45, 32, 39, 120, 39, 42]
def src1 : List Rl := [⟨[97], .mk 7 [] Cl.zero [.mk 6 [] Cl.zero [.mk 2 [120] Cl.zero [] 5, .mk 5 [98] Cl.zero [] 9] 5, .mk 2 [120] Cl.zero [] 13] 5, 0⟩, ⟨[98], .mk 9 [] Cl.zero [.mk 2 [120] Cl.zero [] 22] 22, 17⟩]
def pg1 : Pg := ⟨[⟨2, [120], Cl.zero, []⟩, ⟨5, [], Cl.zero, [1]⟩, ⟨6, [], Cl.zero, [0, 1]⟩, ⟨7, [], Cl.zero, [2, 0]⟩, ⟨9, [], Cl.zero, [0]⟩], [[97], [98]], [3, 4]⟩
theorem src1_is : parseF srcB = .ok src1 := by kernel_rfl
theorem pg1_is : makeF src1 = (.nil, pg1) := by kernel_rfl
theorem Rv.sizes_rl : ∀ rs : List Rv, Rv.sizes rs = Rl.sizes (rs.map Rv.rl) + rs.length
  | [] => rfl
  | r :: rs => by
    rw [Rv.sizes, List.map_cons, Rl.sizes, Rv.sizes_rl rs, List.length_cons]
    show _ = r.body.nd.size + _ + _
    rw [Tv.nd_size]; omega
theorem Hp.frozenP {w0 w : World} {z : Zone} {F : List Nat} {os : List Own} {pl : Pl} (h : Hp w0 w z F (plO pl :: os)) : ∃ c, z.le c ∧ (pz pl).le c ∧ Hp w0 w c F os := by
  have hp : Hp w0 w z F (os ++ [plO pl]) := h.perm (List.perm_append_comm (l₁ := [plO pl]))
  exact ⟨off w (blksOf os), hp.zoff, pz_off hp 0 rfl, h.freeze (List.sublist_cons_self _ _)⟩
theorem off_row {w0 w : World} {z : Zone} {F : List Nat} {os r : List Own} {v : Value} {e : TypeId} {m n : Nat} {xs : List Value} (h : Hp w0 w z F (r ++ os)) (k : Nat) (hk : r[k]? = some (.row v e m n xs)) : Row (off w (blksOf os)) v m n xs := by
  have hm := List.mem_of_getElem? hk
  have hr : w.ownsRow 0 e m v n xs := h.own _ (List.mem_append_left _ hm)
  rcases hr.2 with ⟨rfl, rfl⟩ | ⟨g, cap, cur, rfl, hb, hg, hn, hm2, hs, ht⟩
  · have : xs = [] := List.eq_nil_of_length_eq_zero (by simpa using hr.1)
    subst this
    exact Row.nil _ _
  · have hnd := h.nodup
    rw [blksOf_append] at hnd
    have hnot : g ∉ blksOf os := fun hk2 => (List.nodup_append.1 hnd).2.2 g (List.mem_flatMap.2 ⟨_, hm, List.mem_singleton.2 rfl⟩) g hk2 rfl
    refine (Row.of_own hr).on fun a ha u hu => ?_
    unfold off
    rw [if_neg (by rw [ha]; exact hnot)]
    exact hu
theorem mk_frozen {w0 w : World} {z : Zone} {F : List Nat} {os : List Own} {l : List Ov} {nm : List (List UInt8)} {rt : List Int} {A1 A2 A3 : Option Addr} {c1 c2 c3 : Nat} {pl : Pl} {o : Own} (hl : OvsOk (pz pl) l)
    (h : Hp w0 w z F (.row (.slice A1 l.length c1) 45 7 l.length (rowC opC l) :: .row (.slice A2 nm.length c2) 9 1 nm.length (rowC sC nm) :: .row (.slice A3 rt.length c3) 3 1 rt.length (rowC iC rt) :: plO pl :: o :: os)) :
    ∃ c, z.le c ∧ PvOk c ⟨l, nm, rt, A1, c1, A2, c2, A3, c3⟩ ∧ Hp w0 w c F os := by
  have h1 : Hp w0 w z F ([.row (.slice A1 l.length c1) 45 7 l.length (rowC opC l), .row (.slice A2 nm.length c2) 9 1 nm.length (rowC sC nm), .row (.slice A3 rt.length c3) 3 1 rt.length (rowC iC rt), plO pl, o] ++ os) := h
  have hp := h1.perm List.perm_append_comm
  exact ⟨off w (blksOf os), hp.zoff, ⟨off_row h1 0 rfl, off_row h1 1 rfl, off_row h1 2 rfl, hl.mono (pz_off hp 3 rfl)⟩, h1.freeze (List.sublist_append_right _ _)⟩
theorem Parse1_ct (w : World) (hg0 : w.cell? ⟨0, 0, none⟩ = some errTy) : Fun Tryz.prog 29 [.string (bs srcB)] w fun v w' => ∃ A cap rs pl, v = .tuple #[.agg #[.slice A rs.length cap], .nilIface] ∧ rs.map Rv.rl = src1 ∧ RvsOk (pz pl) rs ∧ Row (pz pl) (.slice A rs.length cap) 10 rs.length (rowC rvC rs) ∧ Fresh w w' [plO pl] := by
  refine Calls.mono (YParse_ct srcB w hg0 (by decide)) ?_
  rintro e w' ⟨v, rfl, A, cap, rs, fb, pl, rfl, hg, hF⟩
  rcases hg with ⟨er, h, _⟩ | ⟨h, h1, h2, h3⟩
  · rw [src1_is] at h; cases h
  · rw [src1_is] at h hF ⊢
    exact ⟨_, rfl, A, cap, rs, pl, rfl, (Except.ok.inj h).symm, h3, h2, hF.sublist (.cons_cons _ (.cons _ .slnil))⟩
theorem Make1_ct (rs : List Rv) (cap : Nat) (A : Option Addr) (c : Zone) (w : World) (h : rs.map Rv.rl = src1) (hg0 : c ⟨0, 0, none⟩ = some errTy) (hc : c.le w.cell?) (hT : Row c (.slice A rs.length cap) 10 rs.length (rowC rvC rs)) (hok : RvsOk c rs) (hP : TabW w) (hZ : TbC c) :
    Fun Tryz.prog 10 [.agg #[.slice A rs.length cap]] w fun v w' => ∃ x0 l A1 A2 A3 c1 c2 c3, v = .tuple #[.agg #[.slice A1 5 c1, .slice A2 2 c2, .slice A3 2 c3], .nilIface] ∧ x0.o.t = [120] ∧
      Fresh w w' [.row (.slice A1 5 c1) 45 7 5 (rowC opC (x0 :: l)), .row (.slice A3 2 c3) 3 1 2 (rowC iC [3, 4])] := by
  have hn : rs.length = 2 := by have := congrArg List.length h; rw [List.length_map] at this; exact this
  have hz : Rl.sizes src1 = 7 := by decide
  refine Calls.mono (Make_ct rs cap A c w hg0 hc hT hok (by rw [Rv.sizes_rl, h, hn, hz]; decide) hP hZ) ?_
  rintro e w' ⟨v, rfl, l, A1, A2, A3, c1, c2, c3, pl, fb, rfl, hl, hov, hF⟩
  rw [h, pg1_is] at hl hF ⊢
  have h5 : l.length = 5 := by have := congrArg List.length hl; rw [List.length_map] at this; exact this
  match l, hl, h5 with
  | x0 :: l, hl, h5 =>
    have h0 : x0.o.t = [120] := by
      have := congrArg (fun q => (q[0]?).map Op.t) hl
      simpa [pg1] using this
    rw [h5] at hF
    refine ⟨_, rfl, x0, l, A1, A2, A3, c1, c2, c3, by rw [h5]; rfl, h0, hF.sublist ?_⟩
    exact .cons_cons _ (.cons _ (.cons_cons _ (.cons _ (.cons _ .slnil))))

theorem Small_ct (c : Zone) (w : World) (hg0 : c ⟨0, 0, none⟩ = some errTy) (hc : c.le w.cell?) (hP : TabW w) (hZ : TbC c) :
    Fun Tryz.prog 9 [] w fun v w' => v = .bool true ∧ Fresh w w' [] := by
 refine fun_of_sw Tryz.func9 rfl 54 rfl rfl ?_
 have hH := (Hp.start w).zsub hc
 refine sw_sr <| Go0 1 <| Dn <| sw_sr <| gl_st (Sc rfl rfl (Parse1_ct _ (hH.zin _ _ hg0)) ?_)
 rintro _ w8 ⟨A1, cap2, rs3, pl4, rfl, hS5, hV6, hR7, hF9⟩
 replace hH := hH.call hF9
 obtain ⟨c2, hc9, hpz, hH9⟩ := Hp.frozenP hH
 clear hH
 have hH := hH9
 clear hH9
 have hT2 := hR7.mono hpz
 have hok2 : RvsOk c2 rs3 := fun r hr => (hV6 r hr).mono hpz
 refine Go2 3 7 (.agg #[.slice A1 rs3.length cap2]) 8 (.nilIface) <| gl_st (Alc [.slice none 0 0] rfl hH ?_)
 clear hH; intro b10 w11 hH
 refine gl_st (Ka 0 [.slice A1 rs3.length cap2] [.slice A1 rs3.length cap2] rfl hH rfl rfl ?_)
 clear hH; intro w12 hH
 refine Go1 1 2 (.nilIface) <| Dn <| sw_sr <| Gq rfl (La 0 [.slice A1 rs3.length cap2] hH rfl rfl) <| gl_st (Sc rfl rfl (Make1_ct rs3 cap2 A1 c2 _ hS5 (hc9 _ _ hg0) hH.zin hT2 hok2 (tab_now hP hZ (by rw [off_nil]; exact hc) hH) (hZ.mono hc9)) ?_)
 rintro _ w22 ⟨x13, l14, A15, A16, A17, c18, c19, c20, rfl, ht21, hF23⟩
 replace hH := hH.call hF23
 refine Go2 3 12 (.agg #[.slice A15 5 c18, .slice A16 2 c19, .slice A17 2 c20]) 13 (.nilIface) <| gl_st (Alc [.slice none 0 0, .slice none 0 0, .slice none 0 0] rfl hH ?_)
 clear hH; intro b24 w25 hH
 refine gl_st (Ka 3 [.slice A15 5 c18, .slice A16 2 c19, .slice A17 2 c20] [.slice A15 5 c18, .slice A16 2 c19, .slice A17 2 c20] rfl hH rfl rfl ?_)
 clear hH; intro w26 hH
 refine Go1 1 4 (.nilIface) <| Dn <| sw_sr <| Go2 8 20 (.bool true) 21 (Pp b24 0) <| Gq rfl (Lk 3 hH rfl rfl rfl) <| Gq rfl (Ln (e := 45) rfl) <| Go2 4 26 (.bool true) 27 (Pp b24 2) <| Gq rfl (Lk 3 hH rfl rfl rfl) <| Gq rfl (Ln (e := 3) rfl) <| Go2 4 32 (.bool true) 33 (Pp b24 2) <| Gq rfl (Lk 3 hH rfl rfl rfl) ?_
 obtain ⟨b28, hb27, hi29⟩ := hH.row_idx 2 rfl 0 (by omega)
 refine Gq rfl (Ix (e := 3) 1 rfl rfl hi29) <| Gq rfl (Lo 2 hH rfl rfl hb27 rfl) <| Go2 4 39 (.bool true) 40 (Pp b24 2) <| Gq rfl (Lk 3 hH rfl rfl rfl) ?_
 obtain ⟨b31, hb30, hi32⟩ := hH.row_idx 2 rfl 1 (by omega)
 refine Gq rfl (Ix (e := 3) 1 rfl rfl hi32) <| Gq rfl (Lo 2 hH rfl rfl hb30 rfl) <| glo 4 [(46, .bool true), (47, Pp b24 0)] <| Gq rfl (Lk 3 hH rfl rfl rfl) ?_
 obtain ⟨b34, hb33, hi35⟩ := hH.row_idx 1 rfl 0 (by omega)
 refine Gq rfl (Ix (e := 45) 7 rfl rfl hi35) <| Go1 1 50 (Pp b34 (0 * 7 + 1)) <| Gq rfl (Lo 1 hH rfl rfl hb33 (rowC_at opC_len (show (x13 :: l14)[0]? = some x13 from rfl) 1 (by decide) rfl)) <| Gq rfl (rd_seql (by kernel_rfl) rfl rfl) <| gl_cv 52 (.bool true) (by rw [ht21]; rfl) rfl <| Go1 2 0 (.bool true) <| Dn <| Rt1 rfl rfl ?_
 exact ⟨rfl, (hH.sb sln).fresh⟩
theorem mk_is {rs : List Rl} (h : (makeF rs).1.isNil = true) : (soundF rs).isNil = true ∧ (makeF rs).2 = ⟨(mk0 rs).2.ops, rs.map (·.name), (mk0 rs).1.map Int.ofNat⟩ ∧ (mk0 rs).2.ops.length ≤ 200 := by
  unfold makeF at h ⊢
  by_cases h1 : (soundF rs).isNil = true
  · rw [if_pos h1] at h ⊢
    by_cases h2 : 200 < (mk0 rs).2.ops.length
    · rw [if_pos h2] at h; cases h
    · rw [if_neg h2]; exact ⟨h1, rfl, by omega⟩
  · rw [if_neg h1] at h; exact absurd h h1
theorem mk0_roots (rs : List Rl) : (mk0 rs).1.length = rs.length := (roots_ok (g := rs) rs ⟨[], []⟩ (fun p hp => by cases hp)).2.2.2
theorem ops_at {l : List Ov} {i : Nat} {x : Ov} {S : List Op} (h : l.map Ov.o = S) (hx : l[i]? = some x) : S[i]? = some x.o := by rw [← h]; exact map_at hx
theorem pg_one (x y : Ov) (A1 A2 : Option Addr) (c1 c2 : Nat) (h : x.o ≠ y.o) : pgB (Pv.pg ⟨[x], [], [], A1, c1, none, 0, none, 0⟩) (Pv.pg ⟨[y], [], [], A2, c2, none, 0, none, 0⟩) = false := pg_o (by
  show ([x.o] == [y.o]) = false
  rw [beq_eq_false_iff_ne]
  intro e
  exact h (List.cons.inj e).1)

theorem row_one {l : List Ov} {j : Nat} {x : Ov} (h : l[j]? = some x) : ((rowC opC l).drop (j * 7)).take (1 * 7) = rowC opC [x] := by
  obtain ⟨hj, rfl⟩ := List.getElem?_eq_some_iff.1 h
  rw [rowC_drop opC_len, List.drop_eq_getElem_cons hj]
  exact rowC_take opC_len (l[j] :: l.drop (j + 1)) 1
theorem Same1_ct {l : List Ov} {j n N M c1 c2 : Nat} {xa xb : Ov} {A1 A2 : Option Addr} (c : Zone) (w : World) (hc : c.le w.cell?) (hN : N = 1) (hM : M = 1) (hxa : l[j]? = some xa) (hxb : l[n]? = some xb) (hE : OvsOk c l) (h1 : Row c (.slice A1 N c1) 7 N (((rowC opC l).drop (j * 7)).take (N * 7))) (h2 : Row c (.slice A2 M c2) 7 M (((rowC opC l).drop (n * 7)).take (M * 7))) (hne : xa.o ≠ xb.o) :
    Fun Tryz.prog 12 [.agg #[.slice A1 N c1, .slice none 0 0, .slice none 0 0], .agg #[.slice A2 M c2, .slice none 0 0, .slice none 0 0]] w fun v w' => v = .bool false ∧ Fresh w w' [] := by
  subst hN hM
  rw [row_one hxa] at h1
  rw [row_one hxb] at h2
  have h := RSame_ct ⟨[xa], [], [], A1, c1, none, 0, none, 0⟩ ⟨[xb], [], [], A2, c2, none, 0, none, 0⟩ c w hc ⟨h1, Row.nil _ _, Row.nil _ _, fun x hx => hE x (by rw [List.mem_singleton.1 hx]; exact List.mem_of_getElem? hxa)⟩ ⟨h2, Row.nil _ _, Row.nil _ _, fun x hx => hE x (by rw [List.mem_singleton.1 hx]; exact List.mem_of_getElem? hxb)⟩
  rw [pg_one xa xb A1 A2 c1 c2 hne] at h
  exact h

theorem CodeOnce_ct (rs : List Rv) (cap : Nat) (A : Option Addr) (c : Zone) (w : World) (hg0 : c ⟨0, 0, none⟩ = some errTy) (hc : c.le w.cell?) (hT : Row c (.slice A rs.length cap) 10 rs.length (rowC rvC rs)) (hok : RvsOk c rs) (hb : 2400 * Rv.sizes rs ≤ 70368744177664) (hP : TabW w) (hZ : TbC c) :
    Fun Tryz.prog 3 [.agg #[.slice A rs.length cap]] w fun v w' => v = .bool true ∧ Fresh w w' [] := by
 refine fun_of_sw Tryz.func3 rfl 144 rfl rfl ?_
 have hH := (Hp.start w).zsub hc
 refine sw_sr <| gl_st (Bx [.slice A rs.length cap] rfl hH ?_)
 clear hH; intro b1 w2 hH
 refine Go0 1 <| Dn <| sw_sr <| gl_st (Sc rfl rfl (Small_ct _ _ (hH.zin _ _ hg0) (Zone.le.refl _) (tab_now hP hZ (by rw [off_nil]; exact hc) hH) (hZ.mono hH.zin)) ?_)
 rintro _ w3 ⟨rfl, hF4⟩
 replace hH := hH.call hF4
 refine Go1 1 3 (.bool true) <| Dn <| sw_sr <| Gq rfl (La 0 [.slice A rs.length cap] hH rfl rfl) <| gl_st (Sc rfl rfl (Make_ct rs cap A c _ (hg0) hH.zin hT hok hb (tab_now hP hZ (by rw [off_nil]; exact hc) hH) hZ) ?_)
 rintro _ w16 ⟨l5, A6, A7, A8, c9, c10, c11, pl12, fb13, rfl, ho14, ho15, hF17⟩
 replace hH := hH.call hF17
 refine Go2 3 17 (.agg #[.slice A6 l5.length c9, .slice A7 ((makeF (rs.map Rv.rl)).2.names.length) c10, .slice A8 ((makeF (rs.map Rv.rl)).2.roots.length) c11]) 18 (erV (makeF (rs.map Rv.rl)).1 fb13) <| gl_st (Alc [.slice none 0 0, .slice none 0 0, .slice none 0 0] rfl hH ?_)
 clear hH; intro b18 w19 hH
 refine gl_st (Ka 6 [.slice A6 l5.length c9, .slice A7 ((makeF (rs.map Rv.rl)).2.names.length) c10, .slice A8 ((makeF (rs.map Rv.rl)).2.roots.length) c11] [.slice A6 l5.length c9, .slice A7 ((makeF (rs.map Rv.rl)).2.names.length) c10, .slice A8 ((makeF (rs.map Rv.rl)).2.roots.length) c11] rfl hH rfl rfl ?_)
 clear hH; intro w20 hH
 refine Go1 1 5 (erV (makeF (rs.map Rv.rl)).1 fb13) <| Dn <| sw_seq <| sw_sr <| Go2 4 21 (.bool false) 22 (erV (makeF (rs.map Rv.rl)).1 fb13) <| Gq rfl (rd_er_ne (by kernel_rfl) rfl) <| Go1 1 24 (.bool (!((makeF (rs.map Rv.rl)).1).isNil)) <| Dn <| If rfl (fun hc1 => ?_) (fun hc1 => ?_)
 refine sw_sr <| Go1 2 2 (.bool true) <| Dn <| Rt1 rfl rfl ?_
 exact ⟨rfl, (hH.sb sln).fresh⟩
 have hok1 : (makeF (rs.map Rv.rl)).1.isNil = true := hc1
 replace hH := hH.fr6.fr6.fr6.fr6.fr6
 obtain ⟨c2, hcc2, hp1, hH9⟩ := mk_frozen ho15 hH
 clear hH
 have hH := hH9
 clear hH9
 have hO1 : Row c2 (.slice A6 l5.length c9) 7 l5.length (rowC opC l5) := hp1.ops
 have hN1 : Row c2 (.slice A7 (makeF (rs.map Rv.rl)).2.names.length c10) 1 (makeF (rs.map Rv.rl)).2.names.length (rowC sC (makeF (rs.map Rv.rl)).2.names) := hp1.names
 have hR1 : Row c2 (.slice A8 (makeF (rs.map Rv.rl)).2.roots.length c11) 1 (makeF (rs.map Rv.rl)).2.roots.length (rowC iC (makeF (rs.map Rv.rl)).2.roots) := hp1.roots
 have hE1 : OvsOk c2 l5 := hp1.each
 obtain ⟨hsd, hpg, h200⟩ := mk_is hok1
 have hops : l5.map Ov.o = (mk0 (rs.map Rv.rl)).2.ops := ho14.trans (congrArg Pg.ops hpg)
 have hll : l5.length = (mk0 (rs.map Rv.rl)).2.ops.length := by rw [← hops, List.length_map]
 have hnl : (makeF (rs.map Rv.rl)).2.names.length = rs.length := by rw [hpg]; simp
 have hrl : (makeF (rs.map Rv.rl)).2.roots.length = rs.length := by rw [hpg]; show ((mk0 (rs.map Rv.rl)).1.map Int.ofNat).length = _; rw [List.length_map, mk0_roots, List.length_map]
 have hsz := mk0_len (rs.map Rv.rl)
 have hsq := Rl.sizes_le rs
 have hT2 := hT.mono hcc2
 have hok2 : RvsOk c2 rs := fun r hr => (hok r hr).mono hcc2
 have hs7 := row_small hT
 clear hp1
 replace hH := (hH.sb (slk (slk sln))).n2
 refine Sk <| sw_sr <| Go1 1 6 (.int .i64 0) <| Dn <| sw_seq <| sw_sr <| Go1 1 7 (.int .i64 0) <| Dn <| sw_block <| Lp (γ := Nat) hH (fun i => [(1, Pp b1 0), (4, Pp b18 0), (6, Ni (Rl.sizes ((rs.take i).map Rv.rl))), (7, Ni i)]) (fun i w_ H_ => (i ≤ rs.length) ∧ H_ [.blk b1 24 [.slice A rs.length cap], .blk b18 30 [.slice A6 l5.length c9, .slice A7 ((makeF (rs.map Rv.rl)).2.names.length) c10, .slice A8 ((makeF (rs.map Rv.rl)).2.roots.length) c11]]) (fun i => rs.length - i) (0) ?_ ?_
 · exact ⟨Nat.zero_le _, hH⟩
 clear hH
 rintro i w21 ⟨hi, hH⟩
 refine swk [(1, Pp b1 0), (4, Pp b18 0), (6, Ni (Rl.sizes ((rs.take i).map Rv.rl))), (7, Ni i)] <| sw_seq <| sw_sr <| Go2 2 26 (Ni i) 27 (Pp b1 0) <| Gq rfl (Lk 0 hH rfl rfl rfl) <| Gq rfl (Ln (e := 43) rfl) <| Go1 1 30 (.bool (decide ((i : Int) < ((rs.length : Nat) : Int)))) <| Dn <| If rfl (fun hc2 => ?_) (fun hc2 => ?_)
 refine Sk <| sw_seq <| sw_block ?_
 obtain ⟨r, hx⟩ : ∃ z9, rs[i]? = some z9 := ⟨_, List.getElem?_eq_getElem (by omega)⟩
 have hxm := List.mem_of_getElem? hx
 have hrb := hok2 r hxm
 have hat := Rl.sizes_at hx
 have hrz := Rv.size_mem hxm
 have hq1 := Rl.sizes_le (rs.take (i + 1))
 have hq2 := Rv.sizes_take (s := rs) (i + 1)
 refine sw_region <| Go2 2 33 (Ni (Rl.sizes ((rs.take i).map Rv.rl))) 34 (Pp b1 0) <| Gq rfl (Lk 0 hH rfl rfl rfl) ?_
 obtain ⟨p22, hi24, hp23⟩ := hT2.idx i (by omega) (by decide)
 refine Go1 1 36 (Ni i) <| Gq rfl (Ix (e := 43) 10 rfl rfl hi24) <| Go1 1 38 (.pointer (some (p22.add 1))) <| Gq rfl (rd_loadZA (by kernel_rfl) hH hp23 rfl 1 rfl [.int .i64 r.body.kind, .string (bs r.body.text), .int .u64 ((r.body.cl.a : Nat) : Int), .int .u64 ((r.body.cl.b : Nat) : Int), .int .u64 ((r.body.cl.c : Nat) : Int), .int .u64 ((r.body.cl.d : Nat) : Int), .slice r.body.A r.body.subs.length r.body.cap, .int .i64 r.body.pos] (by kernel_rfl) (rowC_all rvC_len hx 1 _ rfl)) <| gl_st (Sc rfl rfl (Nodes_ct r.body c2 _ hH.zin hrb.body (by omega)) ?_)
 rintro _ w25 ⟨rfl, hF26⟩
 replace hH := hH.call hF26
 refine Gw0 1 41 (((Rl.sizes ((rs.take i).map Rv.rl) : Nat) : Int) + ((r.body.size : Nat) : Int)) (((Rl.sizes ((rs.take i).map Rv.rl)) + r.body.size : Nat) : Int) <| gl_cv 41 (Ni (Rl.sizes ((rs.take (i + 1)).map Rv.rl))) (by rw [hat]) rfl <| Go1 1 6 (Ni (Rl.sizes ((rs.take (i + 1)).map Rv.rl))) <| Dd <| bkN <| sw_next <| sw_region <| Gw0 2 32 ((i : Int) + 1) ((i + 1 : Nat) : Int) <| Go1 1 7 (Ni (i + 1)) <| Dd <| rnd_end (g := (i)) (i + 1) (by kernel_rfl) ?_ ?_
 replace hH := (hH.sb (slk (slk sln))).n2
 · exact ⟨by omega, hH⟩
 · show rs.length - (i + 1) < rs.length - i; omega
 refine sw_exit <| thX <| thX <| bkH <| sw_next <| sw_seq ?_
 have hie : i = rs.length := by omega
 subst hie
 clear hi
 rw [List.take_length]
 refine sw_sr <| Go1 1 42 (Pp b18 0) <| Gq rfl (Lk 1 hH rfl rfl rfl) <| Gq rfl (Ln (e := 45) rfl) <| Go1 3 47 (.bool (decide (((l5.length : Nat) : Int) > ((Rl.sizes (rs.map Rv.rl) : Nat) : Int)))) <| Gi 47 rfl (fun hg3 => ?_) (fun hg3 => ?_)
 exfalso; have := hg3; omega
 refine Go1 1 48 (Pp b18 0) <| Gq rfl (Lk 1 hH rfl rfl rfl) <| Gq rfl (Ln (e := 45) rfl) <| Go1 3 53 (.bool (decide (((l5.length : Nat) : Int) > (200 : Int)))) <| Gi 53 rfl (fun hg4 => ?_) (fun hg4 => ?_)
 exfalso; have := hg4; omega
 refine Go1 1 54 (Pp b18 1) <| Gq rfl (Lk 1 hH rfl rfl rfl) <| Gq rfl (Ln (e := 9) rfl) <| Go1 1 57 (Pp b1 0) <| Gq rfl (Lk 0 hH rfl rfl rfl) <| Gq rfl (Ln (e := 43) rfl) <| Go1 3 62 (.bool ((((makeF (rs.map Rv.rl)).2.names.length : Nat) : Int) != ((rs.length : Nat) : Int))) <| Gi 62 rfl (fun hg5 => ?_) (fun hg5 => ?_)
 exfalso; have := hg5; omega
 refine Go1 1 63 (Pp b18 2) <| Gq rfl (Lk 1 hH rfl rfl rfl) <| Gq rfl (Ln (e := 3) rfl) <| Go1 1 66 (Pp b1 0) <| Gq rfl (Lk 0 hH rfl rfl rfl) <| Gq rfl (Ln (e := 43) rfl) <| glo 2 [(4, Pp b18 0), (70, .bool ((((makeF (rs.map Rv.rl)).2.roots.length : Nat) : Int) != ((rs.length : Nat) : Int)))] <| Dn <| If rfl (fun hc6 => ?_) (fun hc6 => ?_)
 exfalso; have := hc6; omega
 refine Sk <| sw_seq <| sw_sr <| Go1 1 8 (.int .i64 0) <| Dn <| sw_block <| Lp (γ := Nat) hH (fun j => [(4, Pp b18 0), (8, Ni j)]) (fun j w_ H_ => (j ≤ l5.length) ∧ H_ [.blk b1 24 [.slice A rs.length cap], .blk b18 30 [.slice A6 l5.length c9, .slice A7 ((makeF (rs.map Rv.rl)).2.names.length) c10, .slice A8 ((makeF (rs.map Rv.rl)).2.roots.length) c11]]) (fun j => l5.length - j) (0) ?_ ?_
 · exact ⟨Nat.zero_le _, hH⟩
 clear hH
 rintro j w27 ⟨hj, hH⟩
 refine swk [(4, Pp b18 0), (8, Ni j)] <| sw_seq <| sw_sr <| Go2 2 71 (Ni j) 72 (Pp b18 0) <| Gq rfl (Lk 1 hH rfl rfl rfl) <| Gq rfl (Ln (e := 45) rfl) <| Go1 1 75 (.bool (decide ((j : Int) < ((l5.length : Nat) : Int)))) <| Dn <| If rfl (fun hc7 => ?_) (fun hc7 => ?_)
 refine Sk <| sw_seq <| sw_block ?_
 obtain ⟨xa, hxa⟩ : ∃ z9, l5[j]? = some z9 := ⟨_, List.getElem?_eq_getElem (by omega)⟩
 have hok_xa := hE1 xa (List.mem_of_getElem? hxa)
 have hup := (mk0_inv hsd).up j xa.o (ops_at hops hxa)
 unfold UpOk at hup
 have hs8 := row_small hok_xa.row
 refine sw_sr <| Go1 2 9 (Ni j) <| Dn <| Cu (γ := Nat) hH (fun u => [(4, Pp b18 0), (8, Ni j), (9, Ni u)]) (fun u w_ H_ => (∀ q ∈ xa.o.s, 0 ≤ q ∧ q < u) ∧ (u ≤ rs.length + l5.length) ∧ H_ [.blk b1 24 [.slice A rs.length cap], .blk b18 30 [.slice A6 l5.length c9, .slice A7 ((makeF (rs.map Rv.rl)).2.names.length) c10, .slice A8 ((makeF (rs.map Rv.rl)).2.roots.length) c11]]) ?_ ?_
 ·
  refine sw_sr <| Go1 1 79 (Pp b18 0) <| Gq rfl (Lk 1 hH rfl rfl rfl) ?_
  obtain ⟨p28, hi30, hp29⟩ := hO1.idx j (by omega) (by decide)
  refine Go1 1 81 (Ni j) <| Gq rfl (Ix (e := 45) 7 rfl rfl hi30) <| Go1 1 83 (.pointer (some p28)) <| Gq rfl (rd_load (by kernel_rfl) rfl (hH.zin _ _ (hp29 0 _ (by decide) (rowC_at opC_len hxa 0 (by decide) rfl)))) <| Go1 1 85 (.bool ((xa.o.k : Int) == (5 : Int))) <| Dn <| If rfl (fun hc8 => ?_) (fun hc8 => ?_)
  have hk5 : xa.o.k = 5 := by have := hc8; omega
  refine sw_region <| Go1 1 86 (Pp b18 1) <| Gq rfl (Lk 1 hH rfl rfl rfl) <| Gq rfl (Ln (e := 9) rfl) <| Go1 1 9 (Ni ((makeF (rs.map Rv.rl)).2.names.length)) <| Dd <| Ce ((makeF (rs.map Rv.rl)).2.names.length) ?_
  replace hH := (hH.sb (slk (slk sln))).n2
  exact ⟨fun q hq => by rw [if_pos hk5] at hup; have := hup q hq; rw [List.length_map] at this; omega, by omega, hH⟩
  have hk5 : ¬ xa.o.k = 5 := by have := hc8; omega
  refine sw_skip <| Ce (j) ?_
  replace hH := (hH.sb (slk (slk sln))).n2
  exact ⟨fun q hq => by rw [if_neg hk5] at hup; exact hup q hq, by omega, hH⟩
 clear hH
 rintro u w31 ⟨hu, hu2, hH⟩
 refine swk [(4, Pp b18 0), (8, Ni j), (9, Ni u)] <| sw_seq <| sw_sr <| Go1 1 10 (.int .i64 0) <| Dn <| sw_block <| Lp (γ := Nat) hH (fun k => [(4, Pp b18 0), (8, Ni j), (9, Ni u), (10, Ni k)]) (fun k w_ H_ => (k ≤ xa.o.s.length) ∧ H_ [.blk b1 24 [.slice A rs.length cap], .blk b18 30 [.slice A6 l5.length c9, .slice A7 ((makeF (rs.map Rv.rl)).2.names.length) c10, .slice A8 ((makeF (rs.map Rv.rl)).2.roots.length) c11]]) (fun k => xa.o.s.length - k) (0) ?_ ?_
 · exact ⟨Nat.zero_le _, hH⟩
 clear hH
 rintro k w32 ⟨hk, hH⟩
 refine swk [(4, Pp b18 0), (8, Ni j), (9, Ni u), (10, Ni k)] <| sw_seq <| sw_sr <| Go2 2 89 (Ni k) 90 (Pp b18 0) <| Gq rfl (Lk 1 hH rfl rfl rfl) ?_
 obtain ⟨p33, hi35, hp34⟩ := hO1.idx j (by omega) (by decide)
 refine Go1 1 92 (Ni j) <| Gq rfl (Ix (e := 45) 7 rfl rfl hi35) <| Go1 1 94 (.pointer (some (p33.add 6))) <| Gq rfl (rd_load (by kernel_rfl) rfl (hH.zin _ _ (hp34 6 _ (by decide) (rowC_at opC_len hxa 6 (by decide) rfl)))) <| Gq rfl (Ln (e := 3) rfl) <| Go1 1 97 (.bool (decide ((k : Int) < ((xa.o.s.length : Nat) : Int)))) <| Dn <| If rfl (fun hc9 => ?_) (fun hc9 => ?_)
 refine Sk <| sw_seq <| sw_block ?_
 obtain ⟨ka, hka⟩ : ∃ z9, xa.o.s[k]? = some z9 := ⟨_, List.getElem?_eq_getElem (by omega)⟩
 have hkb := hu ka (List.mem_of_getElem? hka)
 refine sw_sr <| Go1 1 100 (Pp b18 0) <| Gq rfl (Lk 1 hH rfl rfl rfl) ?_
 obtain ⟨p36, hi38, hp37⟩ := hO1.idx j (by omega) (by decide)
 refine Go1 1 102 (Ni j) <| Gq rfl (Ix (e := 45) 7 rfl rfl hi38) <| Go1 1 104 (.pointer (some (p36.add 6))) <| Gq rfl (rd_load (by kernel_rfl) rfl (hH.zin _ _ (hp37 6 _ (by decide) (rowC_at opC_len hxa 6 (by decide) rfl)))) ?_
 obtain ⟨p39, hi41, hp40⟩ := (hok_xa.row).idx k (by omega) (by decide)
 refine Go1 1 106 (Ni k) <| Gq rfl (Ix (e := 3) 1 rfl rfl hi41) <| Gq rfl (rd_load (by kernel_rfl) rfl (hH.zin _ _ (hp40 0 _ (by decide) (rowC_at iC_len hka 0 (by decide) rfl)))) <| Go1 2 110 (.bool (decide ((ka : Int) < (0 : Int)))) <| Gi 110 rfl (fun hg10 => ?_) (fun hg10 => ?_)
 exfalso; have := hg10; omega
 refine Go1 1 111 (Pp b18 0) <| Gq rfl (Lk 1 hH rfl rfl rfl) ?_
 obtain ⟨p42, hi44, hp43⟩ := hO1.idx j (by omega) (by decide)
 refine Go1 1 113 (Ni j) <| Gq rfl (Ix (e := 45) 7 rfl rfl hi44) <| Go1 1 115 (.pointer (some (p42.add 6))) <| Gq rfl (rd_load (by kernel_rfl) rfl (hH.zin _ _ (hp43 6 _ (by decide) (rowC_at opC_len hxa 6 (by decide) rfl)))) ?_
 obtain ⟨p45, hi47, hp46⟩ := (hok_xa.row).idx k (by omega) (by decide)
 refine glo 1 [(4, Pp b18 0), (8, Ni j), (9, Ni u), (10, Ni k), (110, .bool false), (116, .slice xa.A xa.o.s.length xa.cap), (117, Ni k)] <| Gq rfl (Ix (e := 3) 1 rfl rfl hi47) <| Gq rfl (rd_load (by kernel_rfl) rfl (hH.zin _ _ (hp46 0 _ (by decide) (rowC_at iC_len hka 0 (by decide) rfl)))) <| Go1 3 122 (.bool (decide ((ka : Int) ≥ (u : Int)))) <| Dn <| If rfl (fun hc11 => ?_) (fun hc11 => ?_)
 exfalso; have := hc11; omega
 refine sw_skip <| bkN <| sw_next <| sw_region <| Gw0 2 99 ((k : Int) + 1) ((k + 1 : Nat) : Int) <| Go1 1 10 (Ni (k + 1)) <| Dd <| rnd_end (g := (k)) (k + 1) (by kernel_rfl) ?_ ?_
 replace hH := (hH.sb (slk (slk sln))).n2
 · exact ⟨by omega, hH⟩
 · show xa.o.s.length - (k + 1) < xa.o.s.length - k; omega
 refine sw_exit <| thX <| thX <| bkH <| sw_next <| sw_sr <| Go1 1 11 (.int .i64 0) <| Dn <| sw_block <| Lp (γ := Nat) hH (fun n => [(4, Pp b18 0), (8, Ni j), (11, Ni n)]) (fun n w_ H_ => (n ≤ j) ∧ H_ [.blk b1 24 [.slice A rs.length cap], .blk b18 30 [.slice A6 l5.length c9, .slice A7 ((makeF (rs.map Rv.rl)).2.names.length) c10, .slice A8 ((makeF (rs.map Rv.rl)).2.roots.length) c11]]) (fun n => j - n) (0) ?_ ?_
 · exact ⟨Nat.zero_le _, hH⟩
 clear hH
 rintro n w48 ⟨hn, hH⟩
 refine swk [(4, Pp b18 0), (8, Ni j), (11, Ni n)] <| sw_seq <| sw_sr <| Go1 3 125 (.bool (decide ((n : Int) < (j : Int)))) <| Dn <| If rfl (fun hc12 => ?_) (fun hc12 => ?_)
 refine Sk <| sw_seq <| sw_block <| sw_seq ?_
 obtain ⟨xb, hxb⟩ : ∃ z9, l5[n]? = some z9 := ⟨_, List.getElem?_eq_getElem (by omega)⟩
 have hne : xa.o ≠ xb.o := mk0_once hsd (ops_at hops hxa) (ops_at hops hxb) (by omega)
 refine Dr hH (slk (slk sln)) ?_
 clear hH; intro w49 hH hS9
 refine Gp1 1 [0] 128 (Pp b18 0) hS9 <| Dq 1 rfl (fun _ hS => (Lk 1 hS rfl rfl rfl)) hS9 <| Dw2 3 [2,3,4] 132 ((j : Int) + 1) ((j + 1 : Nat) : Int) 130 (Ni j) 131 (Ni j) hS9 ?_
 obtain ⟨A50, hk51, hv52⟩ := hO1.cut (by decide) j (j + 1) (by omega) (by omega)
 refine Dq 5 rfl (fun _ hS => (rd_cut (e := 45) (m := 7) (by kernel_rfl) (by kernel_rfl) rfl (.inr ⟨_, _, rfl, rfl⟩) (.inr ⟨_, _, rfl, rfl⟩) hk51)) hS9 <| Gp2 2 [6,7] 134 (.agg #[.slice A50 ((j + 1) - j) (c9 - j), .slice none 0 0, .slice none 0 0]) 135 (Pp b18 0) hS9 <| Dq 8 rfl (fun _ hS => (Lk 1 hS rfl rfl rfl)) hS9 <| Dw2 3 [9,10,11] 139 ((n : Int) + 1) ((n + 1 : Nat) : Int) 137 (Ni n) 138 (Ni n) hS9 ?_
 obtain ⟨A53, hk54, hv55⟩ := hO1.cut (by decide) n (n + 1) (by omega) (by omega)
 refine Dq 12 rfl (fun _ hS => (rd_cut (e := 45) (m := 7) (by kernel_rfl) (by kernel_rfl) rfl (.inr ⟨_, _, rfl, rfl⟩) (.inr ⟨_, _, rfl, rfl⟩) hk54)) hS9 <| Gp1 1 [13] 141 (.agg #[.slice A53 ((n + 1) - n) (c9 - n), .slice none 0 0, .slice none 0 0]) hS9 <| gds 14 (Sc rfl rfl (Same1_ct c2 _ hH.zin (by omega) (by omega) hxa hxb hE1 hv52 hv55 hne) ?_)
 rintro _ w56 ⟨rfl, hF57⟩
 replace hH := hH.call hF57
 refine Nl (hH.sb (slk (slk sln))) fun hS9 => Gp1 1 [15] 12 (.bool false) hS9 <| gdn [(4, Pp b18 0), (8, Ni j), (11, Ni n), (12, .bool false)] <| sw_next <| sw_sr <| Go1 1 143 (.bool false) <| Dn <| Iz <| sw_skip <| bkN <| sw_next <| sw_region <| Gw0 2 127 ((n : Int) + 1) ((n + 1 : Nat) : Int) <| Go1 1 11 (Ni (n + 1)) <| Dd <| rnd_end (g := (n)) (n + 1) (by kernel_rfl) ?_ ?_
 replace hH := (hH.sb (slk (slk sln))).n2
 · exact ⟨by omega, hH⟩
 · show j - (n + 1) < j - n; omega
 refine sw_exit <| thX <| thX <| bkH <| bkN <| sw_next <| sw_region <| Gw0 2 77 ((j : Int) + 1) ((j + 1 : Nat) : Int) <| Go1 1 8 (Ni (j + 1)) <| Dd <| rnd_end (g := (j)) (j + 1) (by kernel_rfl) ?_ ?_
 replace hH := (hH.sb (slk (slk sln))).n2
 · exact ⟨by omega, hH⟩
 · show l5.length - (j + 1) < l5.length - j; omega
 refine sw_exit <| thX <| thX <| bkH <| sw_next <| sw_sr <| Go1 1 2 (.bool true) <| Dn <| Rt1 rfl rfl ?_
 exact ⟨rfl, (hH.sb sln).fresh⟩
end Go.Proofs.YtllfpnbhjfadiaaGreatDoor
