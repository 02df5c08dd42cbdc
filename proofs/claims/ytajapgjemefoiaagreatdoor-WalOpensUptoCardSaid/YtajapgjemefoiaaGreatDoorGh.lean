/- Gh: several texts in one. -/
import Derived.Test.YtajapgjemefoiaaGreatDoorGg
import Derived.Test.YtajapgjemefoiaaGreatDoorGf
import Derived.Test.YtajapgjemefoiaaGreatDoorGb
/- Law 19 (WalOpens): both logs are opened; both tell the same: what the pair's functions answer. -/
set_option maxRecDepth 100000
set_option maxHeartbeats 4000000
set_option linter.unusedVariables false
set_option linter.unusedSimpArgs false
namespace Go.Proofs.YtajapgjemefoiaaGreatDoor
open Go.RowKit Go.SW
def Bnd (D D2 : Dsk) (M n : Nat) : Prop := Good D2.fs M ∧ D2.fs.length ≤ D.fs.length + n
theorem bnd_do {D D2 : Dsk} {M n : Nat} (h : Bnd D D2 M n) (kind : Nat) (nm p : List UInt8) (k : Int) : Bnd D (doD D2 kind nm p k).1 (M + p.length) (n + 1) := ⟨good_doD h.1 _ _ _ _, by have := len_doD D2 kind nm p k; have := h.2; omega⟩
theorem bnd_do0 {D D2 : Dsk} {M n : Nat} (h : Bnd D D2 M n) (kind : Nat) (nm : List UInt8) (k : Int) : Bnd D (doD D2 kind nm [] k).1 M (n + 1) := bnd_do h kind nm [] k
theorem bnd_mono {D D2 : Dsk} {M M2 n n2 : Nat} (h : Bnd D D2 M n) (hM : M ≤ M2) (hn : n ≤ n2) : Bnd D D2 M2 n2 := ⟨h.1.mono hM, by have := h.2; omega⟩
theorem bnd_rem {D : Dsk} {M : Nat} : ∀ (ks : List Nat) {D2 : Dsk} {n : Nat}, Bnd D D2 M n → Bnd D (remAll D2 ks).1 M (n + ks.length)
  | [], D2, n, h => h
  | k :: r, D2, n, h => by
    rw [remAll_cons]
    split
    · exact bnd_mono (bnd_do0 h 4 _ 0) (Nat.le_refl _) (by simp)
    · have := bnd_rem r (bnd_do0 h 4 (nameF k) 0)
      exact bnd_mono this (Nat.le_refl _) (by simp only [List.length_cons]; omega)
theorem sortP_len (l : List Pt) : (sortP l).length = l.length := List.length_mergeSort _
theorem zero_len2 : (recsB (allR Cn.zero)).length ≤ 2097168 := by
  have h1 : RcOk (baR 0 0) := baR_ok (by decide) (by decide)
  have h2 : RcOk (stR 0 0) := stR_ok (by decide) (by decide)
  have e : recsB (allR Cn.zero) = recB (baR 0 0) ++ (recB (stR 0 0) ++ []) := rfl
  rw [e, List.append_nil, List.length_append, recB_eq h1, recB_eq h2, frameB_length, frameB_length]
  have := recP_len h1
  have := recP_len h2
  omega
theorem bnd_T {D D1 : Dsk} {ps : List Pt} {i : Nat} {c : Cn} {M n : Nat} (h : Bnd D D1 M n) : Bnd D (openT D1 ps i c).1 M (n + i + 2) := by
  have hk : ((ps.take i).map (·.k)).length ≤ i := by rw [List.length_map, List.length_take]; omega
  have h1 := bnd_mono (bnd_rem ((ps.take i).map (·.k)) h) (Nat.le_refl _) (n2 := n + i) (by omega)
  have key : ∀ (R2 : Dsk × Nat) (k whole : Nat), Bnd D R2.1 M (n + i + 1) → Bnd D (if R2.2 ≠ 0 then (R2.1, (none : Option Lg), R2.2) else if (doD R2.1 1 (nameF k) [] 0).2 ≠ 0 then ((doD R2.1 1 (nameF k) [] 0).1, none, (doD R2.1 1 (nameF k) [] 0).2) else ((doD R2.1 1 (nameF k) [] 0).1, some ⟨c, k, whole, 0⟩, 0)).1 M (n + i + 2) := by
    intro R2 k whole h2
    have h3 := bnd_do0 h2 1 (nameF k) 0
    split
    · exact bnd_mono h2 (Nat.le_refl _) (by omega)
    · split <;> exact h3
  unfold openT
  split
  · exact bnd_mono h1 (Nat.le_refl _) (by omega)
  · refine key _ _ _ ?_
    split
    · exact bnd_do0 h1 _ _ _
    · exact bnd_mono h1 (Nat.le_refl _) (by omega)
theorem openT_c {D : Dsk} {ps : List Pt} {i : Nat} {c : Cn} {l : Lg} (h : (openT D ps i c).2.1 = some l) : l.c = c := by
  have key : ∀ (R2 : Dsk × Nat) (k whole : Nat), (if R2.2 ≠ 0 then (R2.1, (none : Option Lg), R2.2) else if (doD R2.1 1 (nameF k) [] 0).2 ≠ 0 then ((doD R2.1 1 (nameF k) [] 0).1, none, (doD R2.1 1 (nameF k) [] 0).2) else ((doD R2.1 1 (nameF k) [] 0).1, some ⟨c, k, whole, 0⟩, 0)).2.1 = some l → l.c = c := by
    intro R2 k whole h2
    split at h2
    · cases h2
    · split at h2
      · cases h2
      · cases h2; rfl
  unfold openT at h
  split at h
  · cases h
  · exact key _ _ _ h
theorem open_ways (D : Dsk) : (openL D = (D, none, 80)) ∨ (openL D = (D, none, 90)) ∨ (∃ ps i c, (partsF D.fs).map sortP = some ps ∧ readL ps = some (i, c) ∧ openL D = openT D ps i c) ∨
    openL D = if (doD D 2 (nameF 1) (recsB (allR Cn.zero)) 0).2 ≠ 0 then ((doD D 2 (nameF 1) (recsB (allR Cn.zero)) 0).1, none, (doD D 2 (nameF 1) (recsB (allR Cn.zero)) 0).2) else ((doD D 2 (nameF 1) (recsB (allR Cn.zero)) 0).1, some ⟨Cn.zero, 1, (recsB (allR Cn.zero)).length, 0⟩, 0) := by
  by_cases h : D.off = true
  · exact .inl (openL_down h)
  cases hp : partsF D.fs with
  | none => exact .inr (.inl (openL_bad h hp))
  | some p0 =>
    have hp2 : (partsF D.fs).map sortP = some (sortP p0) := by rw [hp]; rfl
    by_cases hn : (sortP p0).length = 0
    · exact .inr (.inr (.inr (openL_new h (by rw [hp2, List.eq_nil_of_length_eq_zero hn]))))
    · cases hr : readL (sortP p0) with
      | none => exact .inr (.inl (openL_none h hp2 hn hr))
      | some x =>
        obtain ⟨i, c⟩ := x
        exact .inr (.inr (.inl ⟨_, i, c, rfl, hr, openL_some h hp2 hn hr⟩))
theorem bnd_open {D : Dsk} {M : Nat} (h : Good D.fs M) : Bnd D (openL D).1 (M + 2097168) (D.fs.length + 3) := by
  have h0 : Bnd D D M 0 := ⟨h, Nat.le_refl _⟩
  rcases open_ways D with e | e | ⟨ps, i, c, hp, hr, e⟩ | e
  · rw [e]; exact bnd_mono h0 (by omega) (by omega)
  · rw [e]; exact bnd_mono h0 (by omega) (by omega)
  · rw [e]
    have hi := readL_lt hr
    obtain ⟨p0, h1, rfl⟩ := Option.map_eq_some_iff.1 hp
    have hl := partsF_len h1
    have hs := sortP_len p0
    exact bnd_mono (bnd_T h0) (by omega) (by omega)
  · rw [e]
    have hz := zero_len2
    have := bnd_mono (bnd_do h0 2 (nameF 1) (recsB (allR Cn.zero)) 0) (M2 := M + 2097168) (by omega) (n2 := D.fs.length + 3) (by omega)
    split <;> exact this
theorem readL_few {ps : List Pt} {i : Nat} {c : Cn} {N : Nat} (h : readL ps = some (i, c)) (hN : (ps.map (·.rs)).flatten.length ≤ N) : c.es.length ≤ N := by
  unfold readL at h
  split at h
  · obtain ⟨j, _, h2⟩ := Option.bind_eq_some_iff.1 h
    obtain ⟨c2, h3, h4⟩ := Option.map_eq_some_iff.1 h2
    cases h4
    have h5 := doAll_len h3
    have h6 : ((ps.drop i).map (·.rs)).flatten.length ≤ (ps.map (·.rs)).flatten.length := by
      conv => rhs; rw [← List.take_append_drop i ps]
      rw [List.map_append, List.flatten_append, List.length_append]
      omega
    have h7 : Cn.zero.es.length = 0 := rfl
    omega
  · cases h
theorem open_few {D : Dsk} {l : Lg} {N : Nat} (h : (openL D).2.1 = some l) (hN : ∀ ps, (partsF D.fs).map sortP = some ps → (ps.map (·.rs)).flatten.length ≤ N) : l.c.es.length ≤ N := by
  rcases open_ways D with e | e | ⟨ps, i, c, hp, hr, e⟩ | e
  · rw [e] at h; cases h
  · rw [e] at h; cases h
  · rw [e] at h
    rw [openT_c h]
    exact readL_few hr (hN _ hp)
  · rw [e] at h
    split at h
    · cases h
    · cases h; exact Nat.zero_le _
def ptrV (o : Option Nat) : Value := .pointer (o.map fun g => ⟨g, 0, none⟩)
theorem ptrV_nil (o : Option Nat) : PNil (ptrV o) o.isNone := by
  cases o with
  | none => exact .inl ⟨rfl, rfl⟩
  | some g => exact .inr ⟨_, rfl, rfl⟩
def WP (db mb ab : Nat) (D : Dsk) (pe : List PE) (w : World) (v : Value) (w' : World) : Prop :=
  ∃ pe' lo o2, v = .tuple #[ptrV lo, errV (openL D).2.2] ∧ Rep pe' (openL D).1.fs ∧ (((openL D).2.1 = none ∧ lo = none ∧ o2 = []) ∨ ∃ g l es ve pl, (openL D).2.1 = some l ∧ lo = some g ∧ CnR pl l.c es ve ∧ o2 = [lgO g db l.c ve ((l.file : Nat) : Int) ((l.long : Nat) : Int) .nilIface, plO pl]) ∧
    Turn w w' [.grp (dskO db mb ab D pe)] [.grp o2, .grp (dskO db mb ab (openL D).1 pe')]
theorem grp_two {w0 w : World} {z : Zone} {F : List Nat} {a b : Own} {r : List Own} (h : Hp w0 w z F (a :: b :: r)) : Hp w0 w z F (.grp [a, b] :: r) := Hp.close (l := [a, b]) h
theorem WP_ct (db mb ab : Nat) (D : Dsk) (pe : List PE) (M : Nat) (w : World) (hM : Mine w [.grp (dskO db mb ab D pe)]) (hR : Rep pe D.fs) (hA : ArOk D.ar) (hG : Good D.fs M) (hMM : M ≤ 4194304) (hN : D.fs.length ≤ 1000) (hrs : ∀ ps, (partsF D.fs).map sortP = some ps → (ps.map (·.rs)).flatten.length ≤ 1000000) (hks : ∀ ps, (partsF D.fs).map sortP = some ps → ∀ p ∈ ps, KOk w (blksOf [.grp (dskO db mb ab D pe)]) p.k) (hT1 : KOk w (blksOf [.grp (dskO db mb ab D pe)]) 1) :
    Fun Tryz.prog 14 [.pointer (some ⟨db, 0, none⟩)] w fun v w' => WP db mb ab D pe w v w' := by
  refine (WOpen_ct db mb ab D pe M w hM hR hA hG (by omega) hN hrs hks hT1).mono ?_
  rintro v w' ⟨pe', h1, ⟨h2, rfl, h3⟩ | ⟨g, l, es, ve, pl, h2, he, rfl, h4, hb, h5⟩⟩
  · refine ⟨pe', none, [], rfl, h1, .inl ⟨h2, rfl, rfl⟩, ?_⟩
    have h6 : Hp w w' (fun _ => none) (blksOf [.grp (dskO db mb ab D pe)]) ([.grp (dskO db mb ab (openL D).1 pe')] ++ [.grp []]) := Hp.nogrp h3
    exact h6.fr2
  · exact ⟨pe', some g, _, by rw [he]; rfl, h1, .inr ⟨g, l, es, ve, pl, h2, rfl, h4, rfl⟩, grp_two h5⟩
def RP (xb : Nat) (rv : Value) (D : Dsk) (part : Int) (L : FV) (w : World) (v : Value) (w' : World) : Prop :=
  ∃ rv' L' lo o2, v = .tuple #[ptrV lo, .int .i64 (((openL D).2.2 : Nat) : Int)] ∧ L'.map (·.1) = (openL D).1.fs ∧ (((openL D).2.1 = none ∧ lo = none ∧ o2 = []) ∨ ∃ g l es ve pl, (openL D).2.1 = some l ∧ lo = some g ∧ CnR pl l.c es ve ∧ o2 = [rlO g xb l.c ve ((l.file : Nat) : Int) 0, plO pl]) ∧
    Turn w w' (ownR xb rv D part L) (.grp o2 :: ownR xb rv' (openL D).1 part L')
theorem RP_ct (xb : Nat) (rv : Value) (D : Dsk) (part : Int) (L : FV) (M : Nat) (w : World) (hM : Mine w (ownR xb rv D part L)) (hF : L.map (·.1) = D.fs) (hA : ArOk D.ar) (hP : PartOk D.ar part) (hG : Good D.fs M) (hMM : M ≤ 4194304) (hN : L.length ≤ 1000) (hrs : ∀ S : List SV, S.map SV.sg = segsF D.fs [] → recN (S.map decP) ≤ 1000000) :
    Fun Tryz.prog 35 [.pointer (some ⟨xb, 0, none⟩)] w fun v w' => RP xb rv D part L w v w' := by
  refine (ROpen19_ct xb rv D part L M w hM hF hA hP hG hMM hN hrs).mono ?_
  rintro v w' ⟨rv', L', h1, ⟨h2, rfl, h3⟩ | ⟨g, l, es, ve, pl, h2, he, rfl, h4, h5⟩⟩
  · refine ⟨rv', L', none, [], rfl, h1, .inl ⟨h2, rfl, rfl⟩, ?_⟩
    have h6 : Hp w w' (fun _ => none) (blksOf (ownR xb rv D part L)) (ownR xb rv' (openL D).1 part L' ++ [.grp []]) := Hp.nogrp h3
    exact h6.fr2
  · exact ⟨rv', L', some g, _, by rw [he]; rfl, h1, .inr ⟨g, l, es, ve, pl, h2, rfl, h4, rfl⟩, grp_two h5⟩
def PairIs (db xb : Nat) (lo mo : Option Nat) (o2 o3 : List Own) (N : Nat) : Prop := (lo = none ∧ mo = none ∧ o2 = [] ∧ o3 = []) ∨
  ∃ g m c es ve pl es2 ve2 pl2 fi lo9, lo = some g ∧ mo = some m ∧ CnR pl c es ve ∧ CnR pl2 c es2 ve2 ∧ c.es.length ≤ N ∧ o2 = [lgO g db c ve ((fi : Nat) : Int) ((lo9 : Nat) : Int) .nilIface, plO pl] ∧ o3 = [rlO m xb c ve2 ((fi : Nat) : Int) 0, plO pl2]
theorem pair_is {D : Dsk} {db xb : Nat} {lo mo : Option Nat} {o2 o3 : List Own} {N : Nat} (hN : ∀ ps, (partsF D.fs).map sortP = some ps → (ps.map (·.rs)).flatten.length ≤ N)
    (h : ((openL D).2.1 = none ∧ lo = none ∧ o2 = []) ∨ ∃ g l es ve pl, (openL D).2.1 = some l ∧ lo = some g ∧ CnR pl l.c es ve ∧ o2 = [lgO g db l.c ve ((l.file : Nat) : Int) ((l.long : Nat) : Int) .nilIface, plO pl])
    (k : ((openL D).2.1 = none ∧ mo = none ∧ o3 = []) ∨ ∃ g l es ve pl, (openL D).2.1 = some l ∧ mo = some g ∧ CnR pl l.c es ve ∧ o3 = [rlO g xb l.c ve ((l.file : Nat) : Int) 0, plO pl]) : PairIs db xb lo mo o2 o3 N ∧ (lo.isNone == mo.isNone) = true := by
  rcases h with ⟨h1, rfl, rfl⟩ | ⟨g, l, es, ve, pl, h1, rfl, h2, rfl⟩
  · rcases k with ⟨_, rfl, rfl⟩ | ⟨_, _, _, _, _, k1, _⟩
    · exact ⟨.inl ⟨rfl, rfl, rfl, rfl⟩, rfl⟩
    · rw [h1] at k1; cases k1
  · rcases k with ⟨k1, _⟩ | ⟨m, l2, es2, ve2, pl2, k1, rfl, k2, rfl⟩
    · rw [h1] at k1; cases k1
    · rw [h1] at k1; cases k1
      exact ⟨.inr ⟨g, m, l.c, es, ve, pl, es2, ve2, pl2, l.file, l.long, rfl, rfl, h2, k2, open_few h1 hN, rfl, rfl⟩, rfl⟩
abbrev prO (p db xb : Nat) (lo mo : Option Nat) : Own := .blk p 33 [.pointer (some ⟨db, 0, none⟩), .pointer (some ⟨xb, 0, none⟩), ptrV lo, ptrV mo]

theorem PairOpen_ct (p db mb ab xb : Nat) (rv : Value) (D : Dsk) (pe : List PE) (part : Int) (L : FV) (M N : Nat) (w : World) (hG0 : (off w (blksOf [prO p db xb none none, .grp (dskO db mb ab D pe), .grp (rdkO xb rv D.off (actsI D.ar) part L)])) ⟨0, 0, none⟩ = some errTy) (hM : Mine w [prO p db xb none none, .grp (dskO db mb ab D pe), .grp (rdkO xb rv D.off (actsI D.ar) part L)]) (hI : Inv D pe L part M N) (hMM : M ≤ 4194304) (hNN : N ≤ 100) (hrs : ∀ ps, (partsF D.fs).map sortP = some ps → (ps.map (·.rs)).flatten.length ≤ 1000000) (hrs2 : ∀ S : List SV, S.map SV.sg = segsF D.fs [] → recN (S.map decP) ≤ 1000000) (hks : ∀ ps, (partsF D.fs).map sortP = some ps → ∀ q ∈ ps, KOk w (blksOf [prO p db xb none none, .grp (dskO db mb ab D pe), .grp (rdkO xb rv D.off (actsI D.ar) part L)]) q.k) (hk1 : KOk w (blksOf [prO p db xb none none, .grp (dskO db mb ab D pe), .grp (rdkO xb rv D.off (actsI D.ar) part L)]) 1) :
    Fun Tryz.prog 12 [.pointer (some ⟨p, 0, none⟩)] w fun v w' => ∃ D2 pe2 rv2 L2 lo mo o2 o3, v = .bool true ∧ Rep pe2 D2.fs ∧ L2.map (·.1) = D2.fs ∧ PairIs db xb lo mo o2 o3 1000000 ∧ Good D2.fs (M + 2097168) ∧ D2.fs.length ≤ D.fs.length + (D.fs.length + 3) ∧
      Turn w w' [prO p db xb none none, .grp (dskO db mb ab D pe), .grp (rdkO xb rv D.off (actsI D.ar) part L)] [prO p db xb lo mo, .grp o2, .grp o3, .grp (dskO db mb ab D2 pe2), .grp (rdkO xb rv2 D2.off (actsI D2.ar) part L2)] := by
 have hb := bnd_open hI.good
 refine fun_of_sw Tryz.func12 rfl 42 rfl rfl ?_
 have hH := Hp.start_mine hM
 refine sw_sr <| Go0 1 <| Dn <| sw_sr <| Go1 3 10 (Pp p 0) <| Gq rfl (Lk 0 hH rfl rfl rfl) ?_
 replace hH : Hp w w _ _ ([_] ++ [_, _]) := hH.fr2
 refine gl_st (Sc rfl rfl (WP_ct db mb ab D pe M _ hH.mine hI.rep hI.ar hI.good (by omega) (by have := hI.len; omega) hrs (fun ps hp q hq => (hks ps hp q hq).sub hH) (hk1.sub hH)) ?_)
 rintro _ w1 ⟨pe2, lo, o2, rfl, hR2, hw, hF2⟩
 replace hH := hH.turns hF2
 replace hH := hH.n4
 refine Go2 5 3 (ptrV lo) 4 (errV ((openL D).2.2)) <| Dn <| sw_sr <| Go1 3 18 (Pp p 1) <| Gq rfl (Lk 0 hH rfl rfl rfl) ?_
 replace hH : Hp w w1 _ _ ([_] ++ [_, _, _]) := hH.fr2
 refine gl_st (Sc rfl rfl (RP_ct xb rv D part L M _ hH.mine hI.fst hI.ar hI.part hI.good (by omega) (by have := hI.llen; omega) hrs2) ?_)
 rintro _ w3 ⟨rv2, L2, mo, o3, rfl, hF2, hm, hF4⟩
 replace hH := hH.turns hF4
 replace hH := hH.n5
 obtain ⟨hpair, hnn⟩ := pair_is hrs hw hm
 refine Go2 5 5 (ptrV mo) 6 (Ni ((openL D).2.2)) <| Dn <| sw_sr <| Go2 4 24 (ptrV lo) 26 (Pp p 2) <| gl_st (Ks 0 (ptrV lo) rfl hH rfl rfl ?_)
 clear hH; intro w5 hH
 refine Dn <| sw_sr <| Go2 4 28 (ptrV mo) 30 (Pp p 3) <| gl_st (Ks 0 (ptrV mo) rfl hH rfl rfl ?_)
 clear hH; intro w6 hH
 refine Dn <| sw_sr <| Go1 1 31 (errV ((openL D).2.2)) <| gl_st (Sc rfl rfl (Code_ct (openL D).2.2 _ (hH.zin _ _ hG0)) ?_)
 rintro _ w7 ⟨rfl, hF8⟩
 replace hH := hH.call hF8
 refine Go1 2 34 (.bool ((((openL D).2.2 : Nat) : Int) == (((openL D).2.2 : Nat) : Int))) <| gl_cv 34 (.bool true) (by rw [beq_self_eq_true]) rfl <| Go2 2 35 (.bool true) 36 (ptrV lo) <| Gq rfl (rd_pnil_eql (by kernel_rfl) rfl rfl (ptrV_nil lo)) <| Go1 1 38 (ptrV mo) <| Gq rfl (rd_pnil_eql (by kernel_rfl) rfl rfl (ptrV_nil mo)) <| Go1 3 2 (.bool (lo.isNone == mo.isNone)) <| Dn <| Rt1 rfl rfl ?_
 replace hH := hH.fr5.fr4.fr5.fr5.fr5
 replace hH := (hH.sb (slk (slk (slk (slk (slk sln)))))).n5
 exact ⟨(openL D).1, pe2, rv2, L2, lo, mo, o2, o3, by rw [hnn], hR2, hF2, hpair, hb.1, hb.2, hH.turned⟩
def spoiltE : EA × Value := (⟨-7, 0, 0, []⟩, .slice none 0 0)
def spoilE (qs : EI) (k : Nat) : EI := List.replicate k spoiltE ++ qs.drop k
theorem spoilE_len (qs : EI) {k : Nat} (hk : k ≤ qs.length) : (spoilE qs k).length = qs.length := by unfold spoilE; simp; omega
theorem spoilE_zero (qs : EI) : spoilE qs 0 = qs := by simp [spoilE]
theorem spoilE_at {qs : EI} {k : Nat} {q : EA × Value} (h : qs[k]? = some q) : (spoilE qs k)[k]? = some q := by
  unfold spoilE
  rw [List.getElem?_append_right (by simp), List.length_replicate, Nat.sub_self, List.getElem?_drop]; exact h
theorem spoilE_next {qs : EI} {k : Nat} (hk : k < qs.length) : (spoilE qs k).set k spoiltE = spoilE qs (k + 1) := by
  unfold spoilE
  rw [List.set_append_right _ _ (by simp), List.length_replicate, Nat.sub_self, List.drop_eq_getElem_cons hk, List.set_cons_zero, List.replicate_succ', List.append_assoc]; rfl
theorem en_head {w w0 : World} {z : Zone} {F : List Nat} {r : List Own} {qs : EQ} {k : Nat} {q : En × Value} (hq : qs[k]? = some q) (h : Hp w0 w z F (enRows (qs.drop k) :: r)) : Hp w0 w z F (enRow q :: enRows (qs.drop (k + 1)) :: r) := by
  have hk := (List.getElem?_eq_some_iff.1 hq).1
  have he := (List.getElem?_eq_some_iff.1 hq).2
  have h1 : Hp w0 w z F ((enRow q :: (qs.drop (k + 1)).map enRow) ++ r) := by
    have h2 := Hp.open_ h
    rw [List.drop_eq_getElem_cons hk, List.map_cons, he] at h2
    exact h2
  have h3 : Hp w0 w z F ((qs.drop (k + 1)).map enRow ++ (enRow q :: r)) := h1.perm (by simpa using List.perm_middle.symm)
  exact h3.close.perm (List.Perm.swap _ _ _)
theorem eiN_at {rs : EQ} {k : Nat} {q : En × Value} (h : rs[k]? = some q) : (eiN rs)[k]? = some (eaN q.1, q.2) := by unfold eiN; rw [List.getElem?_map, h]; rfl

theorem rows1e {w0 w : World} {z : Zone} {F : List Nat} {e : TypeId} {a0 : Value} {r : List Own} (h : Hp w0 w z F (anyO e a0 :: r)) : Hp w0 w z F (.grp ([a0].map (anyO e)) :: r) := by
  have h3 : Hp w0 w z F ([a0].map (anyO e) ++ r) := h
  exact h3.close

theorem TellsN_ct (p db mb ab xb : Nat) (rv : Value) (D : Dsk) (pe : List PE) (part : Int) (L : FV) (M : Nat) (w : World) (hM : Mine w [prO p db xb none none, .grp (dskO db mb ab D pe), .grp (rdkO xb rv D.off (actsI D.ar) part L)]) (hR : Rep pe D.fs) (hF : L.map (·.1) = D.fs) (hG : Good D.fs M) (hMM : M ≤ 5000000) (hNN : D.fs.length ≤ 1000) :
    Fun Tryz.prog 13 [.pointer (some ⟨p, 0, none⟩)] w fun v w' => v = .bool true ∧ Turn w w' [prO p db xb none none, .grp (dskO db mb ab D pe), .grp (rdkO xb rv D.off (actsI D.ar) part L)] [] := by
 refine fun_of_sw Tryz.func13 rfl 149 rfl rfl ?_
 have hH := Hp.start_mine hM
 refine sw_sr <| Go0 1 <| Dn <| sw_seq <| Dr hH (slk (slc (slk sln))) ?_
 clear hH; intro w1 hH hS9
 refine Gp1 3 [0,1,2] 14 (Pp p 0) hS9 <| Dq 3 rfl (fun _ hS => (Lk 0 hS rfl rfl rfl)) hS9 <| Gp1 3 [5,6,7] 19 (Pp p 1) hS9 <| Dq 8 rfl (fun _ hS => (Lk 0 hS rfl rfl rfl)) hS9 <| Gp1 2 [9,10] 22 (Pp xb 0) hS9 <| Dq 11 rfl (fun _ hS => (rd_load (by kernel_rfl) rfl (rdk_c0 hS 1 rfl))) hS9 <| gdk [(0, Pp p 0), (15, Pp db 0), (23, rv)] ?_
 replace hH : Hp w w1 _ _ ([_] ++ [_, _]) := hH.fr2
 refine gds 4 (Sc rfl rfl (Files_ct db mb ab D pe M _ hH.mine hR hG (by omega) (by omega)) ?_)
 rintro _ w2 ⟨vf, qs, rfl, hqs, hF3⟩
 replace hH := hH.turns hF3
 replace hH := hH.n5
 obtain ⟨A4, c5, rfl, hl6, hm7⟩ := hH.row_form 3 rfl
 refine Nl (hH.sb (slk (slk sln))) fun hS9 => gds 12 (Sc rfl rfl (Same18_ct _ _ qs L _ (hH.row_reads 3 rfl) (rdk_rw hH 1 rfl) (rs_rbs hH 4 rfl) (rdk_rbs hH 1 rfl)) ?_)
 rintro _ w8 ⟨bS, rfl, hbS, hF9⟩
 replace hH := hH.call hF9
 have e9 : bS = true := hbS.2 (hqs.trans hF.symm)
 subst e9
 refine Nl (hH.sb (slk (slk sln))) fun hS9 => Gp1 1 [13] 3 (.bool true) hS9 <| gdn [(0, Pp p 0), (3, .bool true)] <| sw_next <| sw_seq <| sw_sr <| Go1 3 27 (Pp p 2) <| Gq rfl (Lk 0 hH rfl rfl rfl) <| Go1 8 36 (.bool true) <| Dn <| It <| sw_sr <| Go1 2 2 (.bool true) <| Dn <| Rt1 rfl rfl ?_
 exact ⟨rfl, (hH.sb sln).turned⟩
theorem TellsS_ct (p db mb ab xb : Nat) (rv : Value) (D : Dsk) (pe : List PE) (part : Int) (L : FV) (M : Nat) (g m : Nat) (c : Cn) (es es2 : EQ) (ve ve2 : Value) (pl pl2 : Pl) (fi lo9 : Nat) (w : World) (hM : Mine w [prO p db xb (some g) (some m), lgO g db c ve ((fi : Nat) : Int) ((lo9 : Nat) : Int) .nilIface, plO pl, rlO m xb c ve2 ((fi : Nat) : Int) 0, plO pl2, .grp (dskO db mb ab D pe), .grp (rdkO xb rv D.off (actsI D.ar) part L)]) (hR : Rep pe D.fs) (hF : L.map (·.1) = D.fs) (hG : Good D.fs M) (hMM : M ≤ 5000000) (hNN : D.fs.length ≤ 1000) (hL : CnR pl c es ve) (hL2 : CnR pl2 c es2 ve2) (hn : c.es.length ≤ 1000000) :
    Fun Tryz.prog 13 [.pointer (some ⟨p, 0, none⟩)] w fun v w' => v = .bool true ∧ Turn w w' [prO p db xb (some g) (some m), lgO g db c ve ((fi : Nat) : Int) ((lo9 : Nat) : Int) .nilIface, plO pl, rlO m xb c ve2 ((fi : Nat) : Int) 0, plO pl2, .grp (dskO db mb ab D pe), .grp (rdkO xb rv D.off (actsI D.ar) part L)] [] := by
 refine fun_of_sw Tryz.func13 rfl 149 rfl rfl ?_
 have hH := Hp.start_mine hM
 refine sw_sr <| Go0 1 <| Dn <| sw_seq <| Dr hH (slk (slk (slk (slk (slk (slc (slk sln))))))) ?_
 clear hH; intro w1 hH hS9
 refine Gp1 3 [0,1,2] 14 (Pp p 0) hS9 <| Dq 3 rfl (fun _ hS => (Lk 0 hS rfl rfl rfl)) hS9 <| Gp1 3 [5,6,7] 19 (Pp p 1) hS9 <| Dq 8 rfl (fun _ hS => (Lk 0 hS rfl rfl rfl)) hS9 <| Gp1 2 [9,10] 22 (Pp xb 0) hS9 <| Dq 11 rfl (fun _ hS => (rd_load (by kernel_rfl) rfl (rdk_c0 hS 5 rfl))) hS9 <| gdk [(0, Pp p 0), (15, Pp db 0), (23, rv)] ?_
 replace hH : Hp w w1 _ _ ([_] ++ [_, _, _, _, _, _]) := hH.fr6
 refine gds 4 (Sc rfl rfl (Files_ct db mb ab D pe M _ hH.mine hR hG (by omega) (by omega)) ?_)
 rintro _ w2 ⟨vf, qs, rfl, hqs, hF3⟩
 replace hH := hH.turns hF3
 replace hH := hH.n9
 obtain ⟨A4, c5, rfl, hl6, hm7⟩ := hH.row_form 7 rfl
 replace hH := hH.n9
 refine Nl (hH.sb (slk (slk (slk (slk (slk (slk sln))))))) fun hS9 => gds 12 (Sc rfl rfl (Same18_ct _ _ qs L _ (hH.row_reads 7 rfl) (rdk_rw hH 5 rfl) (rs_rbs hH 8 rfl) (rdk_rbs hH 5 rfl)) ?_)
 rintro _ w8 ⟨bS, rfl, hbS, hF9⟩
 replace hH := hH.call hF9
 have e9 : bS = true := hbS.2 (hqs.trans hF.symm)
 subst e9
 replace hH := hH.n9
 refine Nl (hH.sb (slk (slk (slk (slk (slk (slk sln))))))) fun hS9 => Gp1 1 [13] 3 (.bool true) hS9 <| gdn [(0, Pp p 0), (3, .bool true)] <| sw_next <| sw_seq <| sw_sr <| Go1 3 27 (Pp p 2) <| Gq rfl (Lk 0 hH rfl rfl rfl) <| Go2 5 30 (.bool false) 33 (Pp p 3) <| Gq rfl (Lk 0 hH rfl rfl rfl) <| Go1 2 36 (.bool false) <| Dn <| Iz <| sw_skip <| sw_next <| sw_sr <| Go1 3 41 (Pp p 2) <| Gq rfl (Lk 0 hH rfl rfl rfl) <| gl_st (Sc rfl rfl (State_ct g c.term c.vote _ (hH.blk_cell 1 rfl rfl) (hH.blk_cell 1 rfl rfl)) ?_)
 rintro _ w10 ⟨rfl, hF11⟩
 replace hH := hH.call hF11
 replace hH := hH.n9
 refine Go2 5 4 (Ni c.term) 5 (Ni c.vote) <| Dn <| sw_sr <| Go1 3 49 (Pp p 2) <| Gq rfl (Lk 0 hH rfl rfl rfl) <| gl_st (Sc rfl rfl (Base_ct g c.ix c.ah _ (hH.blk_cell 1 rfl rfl) (hH.blk_cell 1 rfl rfl)) ?_)
 rintro _ w12 ⟨rfl, hF13⟩
 replace hH := hH.call hF13
 replace hH := hH.n9
 refine Go2 5 6 (Ni c.ix) 7 (Ni c.ah) <| Dn <| sw_sr <| Go1 3 56 (Pp p 2) <| Gq rfl (Lk 0 hH rfl rfl rfl) <| gl_st (Sc rfl rfl (Entries_ct g _ es _ (hH.blk_cell 1 rfl rfl) (hL.row.mono (pz_le hH 2 rfl)) (fun q hq => (hL.ok q hq).1.d.mono (pz_le hH 2 rfl)) (fun q hq => (hL.ok q hq).2) (by have h9 := hL.len; omega)) ?_)
 rintro _ w19 ⟨v14, rs15, rfl, hrs16, hF20⟩
 replace hH := hH.call hF20
 rw [hL.fst] at hrs16
 obtain ⟨A21, c22, rfl, hl23, hm24⟩ := hH.row_form 9 rfl
 replace hH := hH.n11
 refine Go1 1 8 (.slice A21 rs15.length c22) <| Dn <| sw_sr <| Go2 4 59 (.slice A21 rs15.length c22) 62 (Pp p 3) <| Gq rfl (Lk 0 hH rfl rfl rfl) <| Go1 2 65 (Pp m 5) <| Gq rfl (Lk 3 hH rfl rfl rfl) <| gl_st (Sc rfl rfl (Same19_ct _ _ (eiN rs15) (eiN es2) _ (row_rs (hH.row_reads 9 rfl)) (row_rs (hL2.row.mono (pz_le hH 4 rfl))) (eiN_rb (enRows_rb hH 10 rfl)) (eiN_rb fun q hq => (hL2.ok q hq).1.d.mono (pz_le hH 4 rfl))) ?_)
 rintro _ w27 ⟨b25, rfl, hb26, hF28⟩
 replace hH := hH.call hF28
 obtain rfl : b25 = true := hb26.2 (by rw [eiN_fst, eiN_fst, hrs16, hL2.fst])
 replace hH := hH.n11
 refine glo 1 [(0, Pp p 0), (3, .bool true), (4, Ni c.term), (5, Ni c.vote), (6, Ni c.ix), (7, Ni c.ah), (8, .slice A21 rs15.length c22), (9, .bool true)] <| Dn <| sw_seq <| sw_sr <| Go1 1 10 (.int .i64 0) <| Dn <| sw_block ?_
 replace hH := hH.fr11.fr11.fr8.fr9.fr9.fr9.fr9.fr9.fr9
 replace hH := (hH.sb (slk (slk (slk (slk (slk (slk (slk (slk (slk sln)))))))))).n9
 refine Lp (γ := Nat) hH (fun k => [(0, Pp p 0), (3, .bool true), (4, Ni c.term), (5, Ni c.vote), (6, Ni c.ix), (7, Ni c.ah), (8, .slice A21 rs15.length c22), (9, .bool true), (10, Ni k)]) (fun k w_ H_ => (k ≤ rs15.length) ∧ H_ [.blk p 33 [Pp db 0, Pp xb 0, Pp g 0, Pp m 0], .blk g 96 [Pp db 0, Ni c.term, Ni c.vote, Ni c.ix, Ni c.ah, ve, Ni fi, Ni lo9, .nilIface], plO pl, .blk m 91 [Pp xb 0, Ni c.term, Ni c.vote, Ni c.ix, Ni c.ah, ve2, Ni fi, .int .i64 0], plO pl2, .grp (dskO db mb ab D pe), .grp (rdkO xb rv D.off (actsI D.ar) part L), .row (.slice A21 rs15.length c22) 64 4 rs15.length (rowC eiC (spoilE (eiN rs15) k)), enRows (rs15.drop k)]) (fun k => rs15.length - k) (0) ?_ ?_
 · exact ⟨by omega, hH.cast (by rw [spoilE_zero, List.drop_zero, ← row_eiN]; rfl)⟩
 clear hH
 rintro k w29 ⟨hk, hH⟩
 refine swk [(0, Pp p 0), (3, .bool true), (4, Ni c.term), (5, Ni c.vote), (6, Ni c.ix), (7, Ni c.ah), (8, .slice A21 rs15.length c22), (9, .bool true), (10, Ni k)] <| sw_seq <| sw_sr <| Go2 2 68 (Ni k) 69 (.slice A21 rs15.length c22) <| Gq rfl (Ln (e := 64) rfl) <| Go1 1 71 (.bool (decide ((k : Int) < ((rs15.length : Nat) : Int)))) <| Dn <| If rfl (fun hc2 => ?_) (fun hc2 => ?_)
 refine Sk <| sw_seq <| sw_block ?_
 obtain ⟨⟨ex, fv⟩, hq0⟩ : ∃ q, rs15[k]? = some q := ⟨_, List.getElem?_eq_getElem (by omega)⟩
 have hq := spoilE_at (eiN_at hq0)
 have hmx : rs15.length ≤ 1000000 := by have h1 := congrArg List.length hrs16; rw [List.length_map] at h1; omega
 replace hH := hH.fr9
 replace hH := en_head hq0 hH
 replace hH : Hp w w29 _ _ [.row fv 5 1 ex.d.length (bv ex.d), enRows (rs15.drop (k + 1)), .blk p 33 [Pp db 0, Pp xb 0, Pp g 0, Pp m 0], .blk g 96 [Pp db 0, Ni c.term, Ni c.vote, Ni c.ix, Ni c.ah, ve, Ni fi, Ni lo9, .nilIface], plO pl, .blk m 91 [Pp xb 0, Ni c.term, Ni c.vote, Ni c.ix, Ni c.ah, ve2, Ni fi, .int .i64 0], plO pl2, .grp (dskO db mb ab D pe), .grp (rdkO xb rv D.off (actsI D.ar) part L), .row (.slice A21 rs15.length c22) 64 4 rs15.length (rowC eiC (spoilE (eiN rs15) k))] := hH
 obtain ⟨Aq, cq, rfl, hq8, hq9⟩ := hH.row_form 0 rfl
 refine sw_sr ?_
 obtain ⟨b31, hb30, hi32⟩ := hH.row_idx 9 rfl k (by omega)
 refine Go2 2 74 (.slice A21 rs15.length c22) 75 (Ni k) <| Gq rfl (Ix (e := 64) 4 rfl rfl hi32) <| Go1 1 77 (Pp b31 (k * 4 + 3)) <| Gq rfl (Lo 9 hH rfl rfl hb30 (rowC_at eiC_len hq 3 (by decide) rfl)) <| gl_st (st_buildS (e := 37) (zv := .slice none 0 0) (m := 1) (bytes := 24) rfl rfl rfl (by kernel_rfl) (by kernel_rfl) rfl (cs := [.slice Aq ex.d.length cq]) (by kernel_rfl) rfl hH ?_)
 clear hH; intro b33 w34 hH
 replace hH := hH.n11
 replace hH := row_any hH
 replace hH := rows1e hH
 replace hH : Hp w w34 _ _ [.grp ([Value.slice Aq ex.d.length cq].map (anyO 5)), enRows (rs15.drop (k + 1)), .blk p 33 [Pp db 0, Pp xb 0, Pp g 0, Pp m 0], .blk g 96 [Pp db 0, Ni c.term, Ni c.vote, Ni c.ix, Ni c.ah, ve, Ni fi, Ni lo9, .nilIface], plO pl, .blk m 91 [Pp xb 0, Ni c.term, Ni c.vote, Ni c.ix, Ni c.ah, ve2, Ni fi, .int .i64 0], plO pl2, .grp (dskO db mb ab D pe), .grp (rdkO xb rv D.off (actsI D.ar) part L), .row (.slice A21 rs15.length c22) 64 4 rs15.length (rowC eiC (spoilE (eiN rs15) k)), .row (.slice (some ⟨b33, 0, none⟩) 1 1) 37 1 1 [.slice Aq ex.d.length cq]] := hH
 replace hH : Hp w w34 _ _ ([_] ++ [_, _, _, _, _, _, _, _, _, _]) := hH
 refine gl_st (Sc rfl rfl (Owned_ct _ [Value.slice Aq ex.d.length cq] _ hH.mine (zoff_row (mine := [.grp ([Value.slice Aq ex.d.length cq].map (anyO 5))]) hH 9 rfl) (by simp)) ?_)
 rintro _ w35 ⟨rfl, hF36⟩
 replace hH := hH.turns hF36
 replace hH := hH.n10
 replace hH := hH.n10
 refine Dn <| sw_region ?_
 obtain ⟨b38, hb37, hi39⟩ := hH.row_idx 8 rfl k (by omega)
 refine Go3 3 81 (.slice A21 rs15.length c22) 82 (Ni k) 83 (.agg #[.int .i64 (-7), .int .i64 0, .int .i64 0, .slice none 0 0]) <| Gq rfl (Ix (e := 64) 4 rfl rfl hi39) <| gl_st (st_storeOA (vs := [.int .i64 (-7), .int .i64 0, .int .i64 0, .slice none 0 0]) 8 rfl rfl rfl hH rfl rfl rfl (by kernel_rfl) rfl hb37 (by rw [rowC_len eiC_len, spoilE_len _ (by rw [eiN_len]; omega), eiN_len]; show k * 4 + 4 ≤ _; omega) ?_)
 clear hH; intro w40 hH
 replace hH := hH.row_eq 8 (l' := rs15.length) (xs' := rowC eiC (spoilE (eiN rs15) (k + 1))) rfl (rfl) (by rw [← spoilE_next (by rw [eiN_len]; omega)]; exact rowC_set eiC_len (x := spoiltE) (by rw [spoilE_len _ (by rw [eiN_len]; omega), eiN_len]; omega))
 replace hH := hH.n10
 refine Dd <| bkN <| sw_next <| sw_region <| Gw0 2 73 ((k : Int) + 1) ((k + 1 : Nat) : Int) <| Go1 1 10 (Ni (k + 1)) <| Dd <| rnd_end (g := (k)) (k + 1) (by kernel_rfl) ?_ ?_
 replace hH := hH.fr9.fr9.fr9.fr9.fr9.fr9.fr9.fr9
 replace hH := (hH.sb (slk (slk (slk (slk (slk (slk (slk (slk (slk sln)))))))))).n9
 · exact ⟨by omega, hH⟩
 · show rs15.length - (k + 1) < rs15.length - k; omega
 refine sw_exit <| thX <| thX <| bkH <| sw_next <| sw_seq <| Dr hH (slk (slk (slk (slk (slk (slk (slk (slk (slk sln))))))))) ?_
 clear hH; intro w41 hH hS9
 refine Gp1 3 [0,1,2] 87 (Pp p 2) hS9 <| Dq 3 rfl (fun _ hS => (Lk 0 hS rfl rfl rfl)) hS9 <| Gp1 3 [5,6,7] 92 (Pp p 3) hS9 <| Dq 8 rfl (fun _ hS => (Lk 0 hS rfl rfl rfl)) hS9 <| Gp1 2 [9,10] 95 (Pp m 5) hS9 <| Dq 11 rfl (fun _ hS => (Lk 3 hS rfl rfl rfl)) hS9 <| gds 4 (Sc rfl rfl (Entries_ct g _ es _ (hH.blk_cell 1 rfl rfl) (hL.row.mono (pz_le hH 2 rfl)) (fun q hq => (hL.ok q hq).1.d.mono (pz_le hH 2 rfl)) (fun q hq => (hL.ok q hq).2) (by have h9 := hL.len; omega)) ?_)
 rintro _ w47 ⟨v42, rs43, rfl, hrs44, hF48⟩
 replace hH := hH.call hF48
 rw [hL.fst] at hrs44
 obtain ⟨A49, c50, rfl, hl51, hm52⟩ := hH.row_form 9 rfl
 replace hH := hH.n11
 refine Nl (hH.sb (slk (slk (slk (slk (slk (slk (slk (slk (slk sln)))))))))) fun hS9 => gds 12 (Sc rfl rfl (Same19_ct _ _ (eiN rs43) (eiN es2) _ (row_rs (hH.row_reads 9 rfl)) (row_rs (hL2.row.mono (pz_le hH 4 rfl))) (eiN_rb (enRows_rb hH 10 rfl)) (eiN_rb fun q hq => (hL2.ok q hq).1.d.mono (pz_le hH 4 rfl))) ?_)
 rintro _ w55 ⟨b53, rfl, hb54, hF56⟩
 replace hH := hH.call hF56
 obtain rfl : b53 = true := hb54.2 (by rw [eiN_fst, eiN_fst, hrs44, hL2.fst])
 replace hH := hH.n11
 refine Nl (hH.sb (slk (slk (slk (slk (slk (slk (slk (slk (slk sln)))))))))) fun hS9 => Gp1 1 [13] 11 (.bool true) hS9 <| gdn [(0, Pp p 0), (3, .bool true), (4, Ni c.term), (5, Ni c.vote), (6, Ni c.ix), (7, Ni c.ah), (9, .bool true), (11, .bool true)] <| sw_next <| sw_sr <| Go3 12 105 (.bool true) 106 (Ni c.term) 109 (Pp p 3) <| Gq rfl (Lk 0 hH rfl rfl rfl) <| Go1 2 112 (Pp m 1) <| Gq rfl (Lk 3 hH rfl rfl rfl) <| Go1 1 114 (.bool (((c.term : Nat) : Int) == ((c.term : Nat) : Int))) <| gl_cv 114 (.bool true) (by rw [beq_self_eq_true]) rfl <| Go3 6 116 (.bool true) 117 (Ni c.vote) 120 (Pp p 3) <| Gq rfl (Lk 0 hH rfl rfl rfl) <| Go1 2 123 (Pp m 2) <| Gq rfl (Lk 3 hH rfl rfl rfl) <| Go1 1 125 (.bool (((c.vote : Nat) : Int) == ((c.vote : Nat) : Int))) <| gl_cv 125 (.bool true) (by rw [beq_self_eq_true]) rfl <| Go3 6 127 (.bool true) 128 (Ni c.ix) 131 (Pp p 3) <| Gq rfl (Lk 0 hH rfl rfl rfl) <| Go1 2 134 (Pp m 3) <| Gq rfl (Lk 3 hH rfl rfl rfl) <| glo 1 [(0, Pp p 0), (7, Ni c.ah), (127, .bool true), (136, .bool (((c.ix : Nat) : Int) == ((c.ix : Nat) : Int)))] <| gl_cv 136 (.bool true) (by rw [beq_self_eq_true]) rfl <| Go3 6 138 (.bool true) 139 (Ni c.ah) 142 (Pp p 3) <| Gq rfl (Lk 0 hH rfl rfl rfl) <| Go1 2 145 (Pp m 4) <| Gq rfl (Lk 3 hH rfl rfl rfl) <| Go1 1 147 (.bool (((c.ah : Nat) : Int) == ((c.ah : Nat) : Int))) <| gl_cv 147 (.bool true) (by rw [beq_self_eq_true]) rfl <| Go1 2 2 (.bool true) <| Dn <| Rt1 rfl rfl ?_
 exact ⟨rfl, (hH.sb sln).turned⟩
theorem Tells_ct (p db mb ab xb : Nat) (rv : Value) (D : Dsk) (pe : List PE) (part : Int) (L : FV) (M : Nat) (lo mo : Option Nat) (o2 o3 : List Own) (w : World) (hM : Mine w [prO p db xb lo mo, .grp o2, .grp o3, .grp (dskO db mb ab D pe), .grp (rdkO xb rv D.off (actsI D.ar) part L)]) (hR : Rep pe D.fs) (hF : L.map (·.1) = D.fs) (hG : Good D.fs M) (hMM : M ≤ 5000000) (hNN : D.fs.length ≤ 1000) (hp : PairIs db xb lo mo o2 o3 1000000) :
    Fun Tryz.prog 13 [.pointer (some ⟨p, 0, none⟩)] w fun v w' => v = .bool true ∧ Turn w w' [prO p db xb lo mo, .grp o2, .grp o3, .grp (dskO db mb ab D pe), .grp (rdkO xb rv D.off (actsI D.ar) part L)] [] := by
  have hH := Hp.start_mine hM
  rcases hp with ⟨rfl, rfl, rfl, rfl⟩ | ⟨g, m, c, es, ve, pl, es2, ve2, pl2, fi, lo9, rfl, rfl, hL, hL2, hn, rfl, rfl⟩
  · have h2 := hH.sublist (os' := [prO p db xb none none, .grp (dskO db mb ab D pe), .grp (rdkO xb rv D.off (actsI D.ar) part L)]) (slk (slc (slc (slk (slk sln)))))
    refine (TellsN_ct p db mb ab xb rv D pe part L M w (h2.mine (os := [])) hR hF hG hMM hNN).mono ?_
    rintro v w' ⟨rfl, hT⟩
    exact ⟨rfl, (Hp.turns (os := []) h2 hT).turned⟩
  · have h1 : Hp w w _ _ ([.grp [lgO g db c ve ((fi : Nat) : Int) ((lo9 : Nat) : Int) .nilIface, plO pl], .grp [rlO m xb c ve2 ((fi : Nat) : Int) 0, plO pl2], prO p db xb (some g) (some m), .grp (dskO db mb ab D pe), .grp (rdkO xb rv D.off (actsI D.ar) part L)]) := hH.pick [1, 2, 0, 3, 4] (by kernel_rfl) rfl
    have h3 := h1.open_
    have h4 : Hp w w _ _ ([.grp [rlO m xb c ve2 ((fi : Nat) : Int) 0, plO pl2], lgO g db c ve ((fi : Nat) : Int) ((lo9 : Nat) : Int) .nilIface, plO pl, prO p db xb (some g) (some m), .grp (dskO db mb ab D pe), .grp (rdkO xb rv D.off (actsI D.ar) part L)]) := h3.pick [2, 0, 1, 3, 4, 5] (by kernel_rfl) rfl
    have h5 := h4.open_
    have h6 : Hp w w _ _ ([prO p db xb (some g) (some m), lgO g db c ve ((fi : Nat) : Int) ((lo9 : Nat) : Int) .nilIface, plO pl, rlO m xb c ve2 ((fi : Nat) : Int) 0, plO pl2, .grp (dskO db mb ab D pe), .grp (rdkO xb rv D.off (actsI D.ar) part L)]) := h5.pick [4, 2, 3, 0, 1, 5, 6] (by kernel_rfl) rfl
    refine (TellsS_ct p db mb ab xb rv D pe part L M g m c es es2 ve ve2 pl pl2 fi lo9 w (h6.mine (os := [])) hR hF hG hMM hNN hL hL2 hn).mono ?_
    rintro v w' ⟨rfl, hT⟩
    exact ⟨rfl, (Hp.turns (os := []) h6 hT).turned⟩

end Go.Proofs.YtajapgjemefoiaaGreatDoor
/- Law 19: which files are a log: any bytes in any files: the law's walk. -/
set_option maxRecDepth 100000
set_option maxHeartbeats 4000000
set_option linter.unusedVariables false
set_option linter.unusedSimpArgs false
namespace Go.Proofs.YtajapgjemefoiaaGreatDoor
open Go.RowKit Go.SW
def strV (ns : List (List UInt8)) : List Value := ns.map fun s => .string (bs s)
theorem str_at {ns : List (List UInt8)} {j : Nat} {s : List UInt8} (h : ns[j]? = some s) : (strV ns)[j * 1 + 0]? = some (.string (bs s)) := by
  unfold strV
  rw [Nat.mul_one, Nat.add_zero, List.getElem?_map, h]; rfl
def sumR (rs : RQ) : Nat := (rs.map fun q => q.1.length).sum
theorem sumR_next {rs : RQ} {i : Nat} {q : List UInt8 × Value} (h : rs[i]? = some q) : sumR (rs.take (i + 1)) = sumR (rs.take i) + q.1.length := by
  have hi := (List.getElem?_eq_some_iff.1 h).1
  have he := (List.getElem?_eq_some_iff.1 h).2
  unfold sumR
  rw [List.take_succ_eq_append_getElem hi, he]
  simp
theorem sumR_le : ∀ (rs : RQ) (i : Nat), sumR (rs.take i) ≤ sumR rs
  | [], i => by simp [sumR]
  | a :: rs, 0 => by simp [sumR]
  | a :: rs, i + 1 => by
    have := sumR_le rs i
    unfold sumR at this ⊢
    rw [List.take_succ_cons, List.map_cons, List.map_cons, List.sum_cons, List.sum_cons]
    omega

theorem WalOpens_ct (va vb : Value) (ns : List (List UInt8)) (rs : RQ) (w : World) (hG : w.cell? ⟨0, 0, none⟩ = some errTy) (hT : TabW w) (hsz : 1 < w.heap.size) (hA : Row w.cell? va 1 ns.length (strV ns)) (hB0 : Row w.cell? vb 1 rs.length (rowC rqC rs)) (hrb : ∀ q ∈ rs, RB w.cell? q.2 q.1) (hnm : ∀ s ∈ ns, s.length ≤ 1048576) (hS : sumR rs ≤ 1048576) :
    Fun Tryz.prog 3 [va, vb] w fun v w' => v = .bool true ∧ Fresh w w' [] := by
 obtain ⟨Aa, ca, rfl, ha1, ha2⟩ := hA.form
 have ha3 := ha2
 simp only [maxLen] at ha3
 obtain ⟨Ab, cb, rfl, hb1, hb2⟩ := hB0.form
 have hb3 := hb2
 simp only [maxLen] at hb3
 refine fun_of_sw Tryz.func3 rfl 73 rfl rfl ?_
 have hH := Hp.start w
 refine sw_sr <| Go0 1 <| Dn <| sw_sr <| gl_st (Sc rfl rfl (Small19_ct _ (hH.zin _ _ hG)) ?_)
 rintro _ w1 ⟨rfl, hF2⟩
 replace hH := hH.call hF2
 refine Go1 1 5 (.bool true) <| Dn <| sw_sr <| gl_st (Sc rfl rfl (DNew_ct _) ?_)
 rintro _ w5 ⟨db3, mb4, rfl, hF6⟩
 replace hH := hH.call hF6
 refine Go1 1 6 (Pp db3 0) <| Dn <| sw_seq <| sw_sr <| Go1 6 18 (.bool false) <| Dn <| Iz <| sw_skip <| sw_next <| sw_sr <| Go1 1 19 (Pp db3 0) <| gl_st (Sc rfl rfl (RNew18_ct _) ?_)
 rintro _ w8 ⟨xb7, rfl, hF9⟩
 replace hH := hH.call hF9
 refine Go1 1 21 (.agg #[Pp db3 0, Pp xb7 0, .pointer none, .pointer none]) <| gl_st (Bx [Pp db3 0, Pp xb7 0, .pointer none, .pointer none] rfl hH ?_)
 clear hH; intro b10 w11 hH
 refine Go1 1 7 (Pp b10 0) <| Dn <| sw_seq <| sw_sr <| Go1 1 8 (.int .i64 0) <| Dn <| sw_block ?_
 replace hH := hH.fr2.fr2.fr3
 replace hH := (hH.sb (slk (slk (slk sln)))).n3
 refine Lp (γ := Nat × Dsk × List PE × Value × FV) hH (fun (i, D, pe, rv, L) => [(0, .slice Aa ns.length ca), (1, .slice Ab rs.length cb), (7, Pp b10 0), (8, Ni i)]) (fun (i, D, pe, rv, L) w_ H_ => (i ≤ ns.length) ∧ (i ≤ rs.length) ∧ (i ≤ 10) ∧ (Inv D pe L 0 (sumR (rs.take i)) i) ∧ (totB D.fs ≤ sumR (rs.take i)) ∧ H_ [.blk b10 33 [Pp db3 0, Pp xb7 0, .pointer none, .pointer none], .grp (dskO db3 mb4 0 D pe), .grp (rdkO xb7 rv D.off (actsI D.ar) 0 L)]) (fun (i, D, pe, rv, L) => ns.length - i) (0, ⟨[], false, none⟩, [], .slice none 0 0, []) ?_ ?_
 · exact ⟨by omega, by omega, by omega, inv_new _, Nat.le_refl _, hH⟩
 clear hH
 rintro ⟨i, D, pe, rv, L⟩ w12 ⟨hi1, hi2, hi3, hI, hB, hH⟩
 have hsl := sumR_le rs i
 refine swk [(0, .slice Aa ns.length ca), (1, .slice Ab rs.length cb), (7, Pp b10 0), (8, Ni i)] <| sw_seq <| sw_sr <| Go2 2 23 (Ni i) 24 (.slice Aa ns.length ca) <| Gq rfl (Ln (e := 9) rfl) <| Go1 2 27 (.bool (decide ((i : Int) < ((ns.length : Nat) : Int)))) <| Gi 27 rfl (fun hg2 => ?_) (fun hg2 => ?_)
 refine Go2 2 28 (Ni i) 29 (.slice Ab rs.length cb) <| Gq rfl (Ln (e := 37) rfl) <| Go1 3 33 (.bool (decide ((i : Int) < ((rs.length : Nat) : Int)))) <| Gi 33 rfl (fun hg3 => ?_) (fun hg3 => ?_)
 refine Go1 3 36 (.bool (decide ((i : Int) < (10 : Int)))) <| Dn <| If rfl (fun hc4 => ?_) (fun hc4 => ?_)
 refine Sk <| sw_seq <| sw_block <| sw_seq ?_
 obtain ⟨nm, hn⟩ : ∃ s, ns[i]? = some s := ⟨_, List.getElem?_eq_getElem (by omega)⟩
 obtain ⟨⟨x, vx⟩, hx⟩ : ∃ q, rs[i]? = some q := ⟨_, List.getElem?_eq_getElem (by omega)⟩
 have kx : RB w.cell? vx x := hrb _ (List.mem_of_getElem? hx)
 obtain ⟨Ax, cx, rfl, _, _⟩ := kx.row.form
 have hs1 := sumR_next hx
 have hs2 := sumR_le rs (i + 1)
 have hnl := hnm nm (List.mem_of_getElem? hn)
 simp only at hs1
 obtain ⟨R, hr⟩ : ∃ R, doD D 0 nm x 0 = R := ⟨_, rfl⟩
 refine Dr hH (slk (slc (slk sln))) ?_
 clear hH; intro w13 hH hS9
 refine Gp1 3 [0,1,2] 41 (Pp b10 0) hS9 <| Dq 3 rfl (fun _ hS => (Lk 0 hS rfl rfl rfl)) hS9 ?_
 obtain ⟨p14, hi16, hp15⟩ := hA.idx i (by omega) (by decide)
 refine Gp2 2 [4,5] 43 (.slice Aa ns.length ca) 44 (Ni i) hS9 <| Dq 6 rfl (fun _ hS => (Ix (e := 9) 1 rfl rfl hi16)) hS9 <| Dq 7 rfl (fun _ hS => (rd_load (by kernel_rfl) rfl (hS.zin _ _ (hp15 0 _ (by decide) (str_at hn))))) hS9 ?_
 obtain ⟨p17, hi19, hp18⟩ := hB0.idx i (by omega) (by decide)
 refine Gp2 2 [8,9] 47 (.slice Ab rs.length cb) 48 (Ni i) hS9 <| Dq 10 rfl (fun _ hS => (Ix (e := 37) 1 rfl rfl hi19)) hS9 <| Dq 11 rfl (fun _ hS => (rd_load (by kernel_rfl) rfl (hS.zin _ _ (hp18 0 _ (by decide) (rowC_at rqC_len hx 0 (by decide) rfl))))) hS9 ?_
 replace hH : Hp w w13 _ _ ([_] ++ [_, _]) := hH.fr2
 refine gds 12 (Sc rfl rfl (by have h9 := Append_ct db3 mb4 0 D pe nm _ x (sumR (rs.take i)) _ hH.mine hI.rep hI.ar hI.good (by omega) (by omega) (kx.mono hH.zoff) (by omega) (by omega); rw [hr] at h9; exact h9) ?_)
 rintro _ w20 ⟨pe2, rfl, hR2, hF21⟩
 replace hH := hH.turns hF21
 replace hH := hH.n3
 refine Nl (hH.sb (slk (slk sln))) fun hS9 => gdn [(0, .slice Aa ns.length ca), (1, .slice Ab rs.length cb), (7, Pp b10 0), (8, Ni i)] <| sw_next <| Dr hH (slk (slc (slk sln))) ?_
 clear hH; intro w22 hH hS9
 refine Gp1 3 [0,1,2] 54 (Pp b10 1) hS9 <| Dq 3 rfl (fun _ hS => (Lk 0 hS rfl rfl rfl)) hS9 ?_
 obtain ⟨p23, hi25, hp24⟩ := hA.idx i (by omega) (by decide)
 refine Gp2 2 [4,5] 56 (.slice Aa ns.length ca) 57 (Ni i) hS9 <| Dq 6 rfl (fun _ hS => (Ix (e := 9) 1 rfl rfl hi25)) hS9 <| Dq 7 rfl (fun _ hS => (rd_load (by kernel_rfl) rfl (hS.zin _ _ (hp24 0 _ (by decide) (str_at hn))))) hS9 ?_
 obtain ⟨p26, hi28, hp27⟩ := hB0.idx i (by omega) (by decide)
 refine Gp2 2 [8,9] 60 (.slice Ab rs.length cb) 61 (Ni i) hS9 <| Dq 10 rfl (fun _ hS => (Ix (e := 37) 1 rfl rfl hi28)) hS9 <| Dq 11 rfl (fun _ hS => (rd_load (by kernel_rfl) rfl (hS.zin _ _ (hp27 0 _ (by decide) (rowC_at rqC_len hx 0 (by decide) rfl))))) hS9 ?_
 replace hH : Hp w w22 _ _ ([_] ++ [_, _]) := hH.fr2
 refine gds 12 (Sc rfl rfl (by have h9 := RDo0_ct xb7 _ D 0 L nm _ x 0 (sumR (rs.take i)) _ hH.mine hI.fst hI.ar hI.part hI.good (by omega) (by have := hI.llen; omega) (by omega) (kx.mono hH.zoff) (by omega); rw [hr] at h9; exact h9) ?_)
 rintro _ w29 ⟨rv2, L2, rfl, hF2, hF30⟩
 replace hH := hH.turns hF30
 replace hH := hH.n3
 refine Nl (hH.sb (slk (slk sln))) fun hS9 => gdn [(0, .slice Aa ns.length ca), (1, .slice Ab rs.length cb), (7, Pp b10 0), (8, Ni i)] <| bkN <| sw_next <| sw_region <| Gw0 2 38 ((i : Int) + 1) ((i + 1 : Nat) : Int) <| Go1 1 8 (Ni (i + 1)) <| Dd <| rnd_end (g := (i, D, pe, rv, L)) (i + 1, R.1, pe2, rv2, L2) (by kernel_rfl) ?_ ?_
 replace hH := (hH.sb (slk (slk (slk sln)))).n3
 · exact ⟨by omega, by omega, by omega, by rw [hs1]; exact inv_do hI hr hR2 hF2, by rw [hs1, ← hr]; have := tot_app hI.good.srt nm x; omega, hH⟩
 · show ns.length - (i + 1) < ns.length - i; omega
 refine sw_exit <| thX <| thX <| bkH <| sw_next ?_
 have hsl2 := sumR_le rs i
 refine sw_sr <| Go1 1 65 (Pp b10 0) ?_
 replace hH : Hp w w12 _ _ ([_, _, _] ++ []) := hH
 refine gl_st (Sc rfl rfl (PairOpen_ct b10 db3 mb4 0 xb7 _ D pe 0 L (sumR (rs.take i)) i _ (hH.zoff _ _ hG) hH.mine hI (by omega) (by omega) (fun ps hp => by have := parts_few9 hB hp; omega) (fun S hS => by have := rec_few hB hS; omega) (fun ps hp q hq => (KOk.sub (F := []) (.inr ⟨hT, by simp, hsz⟩) hH)) (KOk.sub (F := []) (.inr ⟨hT, by simp, hsz⟩) hH)) ?_)
 rintro _ w31 ⟨D2, pe3, rv3, L3, lo, mo, o2, o3, rfl, hR3, hF3, hpr, hG3, hn3, hF32⟩
 replace hH := hH.turns hF32
 replace hH := hH.n5
 refine Go1 1 9 (.bool true) <| Dn <| sw_sr <| Go1 1 67 (Pp b10 0) ?_
 replace hH : Hp w w31 _ _ ([_, _, _, _, _] ++ []) := hH
 refine gl_st (Sc rfl rfl (Tells_ct b10 db3 mb4 0 xb7 _ D2 pe3 0 L3 ((sumR (rs.take i)) + 2097168) lo mo o2 o3 _ hH.mine hR3 hF3 hG3 (by omega) (by have := hI.len; omega) hpr) ?_)
 rintro _ w33 ⟨rfl, hF34⟩
 replace hH := hH.turns hF34
 replace hH : Hp w w33 _ _ [] := hH
 refine Go1 1 10 (.bool true) <| Dn <| sw_sr <| Go1 5 4 (.bool true) <| Dn <| Rt1 rfl rfl ?_
 exact ⟨rfl, (hH.sb sln).fresh⟩
 refine Go1 3 36 (.bool false) <| Dn <| Iz <| sw_exit <| thX <| thX <| bkH <| sw_next ?_
 have hsl2 := sumR_le rs i
 refine sw_sr <| Go1 1 65 (Pp b10 0) ?_
 replace hH : Hp w w12 _ _ ([_, _, _] ++ []) := hH
 refine gl_st (Sc rfl rfl (PairOpen_ct b10 db3 mb4 0 xb7 _ D pe 0 L (sumR (rs.take i)) i _ (hH.zoff _ _ hG) hH.mine hI (by omega) (by omega) (fun ps hp => by have := parts_few9 hB hp; omega) (fun S hS => by have := rec_few hB hS; omega) (fun ps hp q hq => (KOk.sub (F := []) (.inr ⟨hT, by simp, hsz⟩) hH)) (KOk.sub (F := []) (.inr ⟨hT, by simp, hsz⟩) hH)) ?_)
 rintro _ w35 ⟨D2, pe3, rv3, L3, lo, mo, o2, o3, rfl, hR3, hF3, hpr, hG3, hn3, hF36⟩
 replace hH := hH.turns hF36
 replace hH := hH.n5
 refine Go1 1 9 (.bool true) <| Dn <| sw_sr <| Go1 1 67 (Pp b10 0) ?_
 replace hH : Hp w w35 _ _ ([_, _, _, _, _] ++ []) := hH
 refine gl_st (Sc rfl rfl (Tells_ct b10 db3 mb4 0 xb7 _ D2 pe3 0 L3 ((sumR (rs.take i)) + 2097168) lo mo o2 o3 _ hH.mine hR3 hF3 hG3 (by omega) (by have := hI.len; omega) hpr) ?_)
 rintro _ w37 ⟨rfl, hF38⟩
 replace hH := hH.turns hF38
 replace hH : Hp w w37 _ _ [] := hH
 refine Go1 1 10 (.bool true) <| Dn <| sw_sr <| Go1 5 4 (.bool true) <| Dn <| Rt1 rfl rfl ?_
 exact ⟨rfl, (hH.sb sln).fresh⟩
 refine Go1 9 36 (.bool false) <| Dn <| Iz <| sw_exit <| thX <| thX <| bkH <| sw_next ?_
 have hsl2 := sumR_le rs i
 refine sw_sr <| Go1 1 65 (Pp b10 0) ?_
 replace hH : Hp w w12 _ _ ([_, _, _] ++ []) := hH
 refine gl_st (Sc rfl rfl (PairOpen_ct b10 db3 mb4 0 xb7 _ D pe 0 L (sumR (rs.take i)) i _ (hH.zoff _ _ hG) hH.mine hI (by omega) (by omega) (fun ps hp => by have := parts_few9 hB hp; omega) (fun S hS => by have := rec_few hB hS; omega) (fun ps hp q hq => (KOk.sub (F := []) (.inr ⟨hT, by simp, hsz⟩) hH)) (KOk.sub (F := []) (.inr ⟨hT, by simp, hsz⟩) hH)) ?_)
 rintro _ w39 ⟨D2, pe3, rv3, L3, lo, mo, o2, o3, rfl, hR3, hF3, hpr, hG3, hn3, hF40⟩
 replace hH := hH.turns hF40
 replace hH := hH.n5
 refine Go1 1 9 (.bool true) <| Dn <| sw_sr <| Go1 1 67 (Pp b10 0) ?_
 replace hH : Hp w w39 _ _ ([_, _, _, _, _] ++ []) := hH
 refine gl_st (Sc rfl rfl (Tells_ct b10 db3 mb4 0 xb7 _ D2 pe3 0 L3 ((sumR (rs.take i)) + 2097168) lo mo o2 o3 _ hH.mine hR3 hF3 hG3 (by omega) (by have := hI.len; omega) hpr) ?_)
 rintro _ w41 ⟨rfl, hF42⟩
 replace hH := hH.turns hF42
 replace hH : Hp w w41 _ _ [] := hH
 refine Go1 1 10 (.bool true) <| Dn <| sw_sr <| Go1 5 4 (.bool true) <| Dn <| Rt1 rfl rfl ?_
 exact ⟨rfl, (hH.sb sln).fresh⟩
end Go.Proofs.YtajapgjemefoiaaGreatDoor
/- How the arguments of the law WalOpens are opened: rows of strings, rows of bytes; the table of powers, as the row lists it. -/
set_option linter.unusedVariables false
set_option maxRecDepth 100000
namespace Go.Proofs.YtajapgjemefoiaaGreatDoor
open Go.ChangeShapes Go.WideShapes Go.RowKit Go.SW
theorem laid_tail {P : Program} {x : String × DataW Unit} {r : List (String × DataW Unit)} {w : World} (h : laidMet P (x :: r) w) : laidMet P r w := by
  obtain ⟨ps, hl, hn, hc⟩ := h
  obtain ⟨n, d⟩ := x
  obtain ⟨g, t, cs, fuel, p, q, _, _, _, _, hq, rfl⟩ := hl
  exact ⟨q, hq, (List.nodup_append.1 hn).2.1, fun b off hb => hc b off (List.mem_append_right _ hb)⟩
theorem tabW_of {W : World} (h : laidMetH Tryz.prog laidW W) : TabW W ∧ 1 < W.heap.size := by
  have h' : laidMet Tryz.prog dataW W ∧ handlesMet Tryz.prog laidL W := h
  have h2 : laidMet Tryz.prog [("internal/strconv.uint64pow10", Lib.tabData .u64 Lib.pow10Tab)] W := laid_tail (laid_tail h'.1)
  have h3 : TabW W := Lib.tabIs_of_head (t := 251) (e := 226) (n := 20) tabP (by kernel_rfl) (by kernel_rfl) (by kernel_rfl) (by kernel_rfl) (by kernel_rfl) h2
  refine ⟨h3, ?_⟩
  unfold TabW Lib.TabIs World.var? at h3
  rw [tabP] at h3
  simp only [Option.bind_some] at h3
  cases hh : W.heap[1]? with
  | none => rw [hh] at h3; simp at h3
  | some o => exact (Array.getElem?_eq_some_iff.1 hh).1
theorem uStrs : Tryz.prog.underlying 22 = some (.slice 9) := by kernel_rfl
theorem uBss : Tryz.prog.underlying 23 = some (.slice 37) := by kernel_rfl
theorem flat_strV : ∀ ns : List (List UInt8), (ns.map fun s => [Value.string (bs s)]).flatten = strV ns
  | [] => rfl
  | s :: ns => by rw [List.map_cons, List.flatten_cons, flat_strV ns]; rfl
theorem mem_sum {α : Type} {g : α → Nat} : ∀ {l : List α} {a : α}, a ∈ l → g a ≤ (l.map g).sum
  | [], a, h => by cases h
  | b :: l, a, h => by
    rw [List.map_cons, List.sum_cons]
    rcases List.mem_cons.1 h with rfl | h
    · omega
    · have := mem_sum (g := g) h; omega
section
variable {H : Type} {enc : TypeId × Value → H} {w : World} {base : Nat} {spare : Nat → Bool} {held : Bool} {r : Reach} {b0 : Nat} {v : Value} {d : DataW H} {pl : List MemPlace}
theorem open_strsV (hval : Value.okWide Tryz.prog w r b0 22 v) (h : DataW.Trod enc Tryz.prog w base spare held 22 v d pl) :
    ∃ ns : List (List UInt8), Row w.cell? v 1 ns.length (strV ns) ∧ ∀ s ∈ ns, s.length ≤ Rows.uptoBulk d := by
  obtain ⟨fuel, h⟩ := h
  obtain ⟨v', L, ys, e, hR, _, hly, hL, hbk⟩ := open_rowU uStrs cStr h
  rw [one_cell uStrs hval] at e
  cases e
  obtain ⟨ns, rfl, hok, hs⟩ := rows_choose (f := fun s => [Value.string (bs s)]) (Q := fun _ => True) (g := fun s : List UInt8 => s.length) L ys hly (fun i c hi => by
    obtain ⟨f', y, hy, ht⟩ := hL i c hi
    obtain ⟨s, e1, e2, _⟩ := open_strU uStr ht
    exact ⟨y.1, s, hy, e1, trivial, by omega⟩)
  refine ⟨ns, by rw [List.length_map, flat_strV] at hR; exact hR, fun s hm => ?_⟩
  have h1 := mem_sum (g := fun s : List UInt8 => s.length) hm
  simp only at hbk h1
  omega
theorem open_bssV (hval : Value.okWide Tryz.prog w r b0 23 v) (h : DataW.Trod enc Tryz.prog w base spare held 23 v d pl) :
    ∃ rs : RQ, Row w.cell? v 1 rs.length (rowC rqC rs) ∧ (∀ q ∈ rs, RB w.cell? q.2 q.1) ∧ sumR rs ≤ Rows.uptoBulk d := by
  obtain ⟨fuel, h⟩ := h
  obtain ⟨v', L, ys, e, hR, _, hly, hL, hbk⟩ := open_rowU uBss cBytes h
  rw [one_cell uBss hval] at e
  cases e
  obtain ⟨rs, rfl, hok, hs⟩ := rows_choose (f := rqC) (Q := fun q => RB w.cell? q.2 q.1) (g := fun q : List UInt8 × Value => q.1.length) L ys hly (fun i c hi => by
    obtain ⟨f', y, hy, ht⟩ := hL i c hi
    obtain ⟨vb, b, e1, e2, e3⟩ := open_bytesU uBytes uU8 cU8 zU8 ht
    exact ⟨y.1, (b, vb), hy, e1, e2, by simp only; omega⟩)
  refine ⟨rs, by rw [List.length_map] at hR; exact hR, hok, ?_⟩
  unfold sumR
  simp only at hbk
  omega
end
end Go.Proofs.YtajapgjemefoiaaGreatDoor
