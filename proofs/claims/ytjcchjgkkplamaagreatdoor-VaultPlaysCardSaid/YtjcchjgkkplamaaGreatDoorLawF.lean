/- How a law's arguments are opened (bytes, snapshots, whole numbers), what the row lists (errors.errorType), and how a walk that turns nothing closes a row. -/
import Derived.Test.YtjcchjgkkplamaaGreatDoorAs
import Derived.Test.YtjcchjgkkplamaaGreatDoorRows
import Derived.Test.YtjcchjgkkplamaaGreatDoorCalc
import Derived.ChangeSame
import Derived.ChangeVars
import Derived.ChangeSlices
import Derived.JoinedOf
import Derived.RowKit
import Derived.RowKitTokens
import Derived.Carry
import Derived.OpenShut
import Derived.LaidLaws
import Derived.LaidHandle
import Derived.Stop.Joined
set_option linter.unusedVariables false
set_option maxRecDepth 100000
namespace Go.Proofs.YtjcchjgkkplamaaGreatDoor
open Go.ChangeShapes Go.WideShapes Go.RowKit Go.SW
theorem ownP : ownKnob Tryz.prog.godebug = none := by kernel_rfl
theorem etP : Tryz.prog.globalNamed "errors.errorType" = some 0 := by kernel_rfl
theorem rtP : (Tryz.prog.cutTypes.find? (·.1 == "internal/reflectlite.rtype")).map (·.2) = some 159 := by kernel_rfl
theorem oneRowP : ((List.range 233).filter fun t => Tryz.prog.rowNamed t [101, 114, 114, 111, 114]) = [30] := by kernel_rfl
theorem sizeP : Tryz.prog.types.size = 233 := by kernel_rfl
def laidL {H : Type} : List (String × DataW H) := [("errors.errorType", Rows.laid_errors_errorType)]
/-- What the row lists, as the walk reads it. -/
theorem handle_of_laid {W : World} (h : laidMetH Tryz.prog laidL W) : W.cell? ⟨0, 0, none⟩ = some errTy := by
  have h' : laidMet Tryz.prog [] W ∧ handlesMet Tryz.prog laidL W := h
  obtain ⟨name, u, ty, e1, e2, e3, e4, e5⟩ := h'.2 _ (List.mem_singleton.2 rfl)
  have en : name = [101, 114, 114, 111, 114] := (Option.some.inj e1).symm
  subst en
  obtain rfl := Option.some.inj (rtP.symm.trans e2)
  have hm : ty ∈ (List.range 233).filter fun t => Tryz.prog.rowNamed t [101, 114, 114, 111, 114] := List.mem_filter.2 ⟨List.mem_range.2 (by rw [← sizeP]; exact e3), e4⟩
  rw [oneRowP] at hm
  obtain rfl := List.mem_singleton.1 hm
  have hh : typeHandle Tryz.prog 30 = hdl 30 := by kernel_rfl
  rw [hh] at e5
  simpa using World.var?_cell etP e5 0
/-- A world that meets the condition. -/
noncomputable def laidWorld (os : Os) : World :=
  let w0 := World.holding Tryz.prog os ⟨#[], #[], []⟩
  { w0 with heap := w0.heap.modify 0 fun
      | .cells _ t frozen => .cells #[errTy] t frozen
      | o => o }
theorem laidWorld_met (os : Os) (args : Array Value) : laidMetH Tryz.prog laidL ((laidWorld os).forCall (fun _ _ => 0) ⟨#[], args, []⟩).memory :=
  laidMetH_of_parts (laidMet_nil _ _) (by kernel_rfl)
section
variable {H : Type} {enc : TypeId × Value → H} {P : Program} {w : World} {base : Nat} {spare : Nat → Bool} {held : Bool}
theorem wf_u8 {n : Int} (h : (Lit.int .u8 n).wf = true) : 0 ≤ n ∧ n ≤ 255 := by
  have e1 : IntKind.u8.min = 0 := by decide
  have e2 : IntKind.u8.max = 255 := by decide
  simpa only [Lit.wf, e1, e2, Bool.and_eq_true, decide_eq_true_eq] using h
theorem open_bytes {t e : TypeId} {fuel : Nat} {cs : List Value} {x : DataW H × List MemPlace} (ht : P.underlying t = some (.slice e)) (he : P.underlying e = some (.int .u8)) (hc : P.cellsOf e = 1) (hz : P.bytesOf e = 1)
    (h : DataW.trod enc P w base spare held fuel t cs = some x) :
    ∃ (v : Value) (l : List UInt8), cs = [v] ∧ RB w.cell? v l ∧ ((x.1.weights P t).all (· ≤ reachBytes) = true → l.length ≤ reachBytes) := by
  rcases open_ints ht he hc h with ⟨rfl, rfl⟩ | ⟨a, len, cap, zs, rfl, _, hlc, hm, hlen, rfl, hcell, hwf⟩
  · exact ⟨_, [], rfl, RB.nil _, fun _ => Nat.zero_le _⟩
  · have hzl : len ≤ zs.length := by rw [hlen]; split <;> omega
    refine ⟨_, (zs.take len).map (fun z => UInt8.ofNat z.toNat), rfl, ?_, ?_⟩
    · refine ⟨by simp [bv], some a, cap, by simp [Nat.min_eq_left hzl], by simp [Nat.min_eq_left hzl]; exact hlc, hm, fun j u hu => ⟨a, rfl, ?_⟩⟩
      have hj : j < len := by
        have := (List.getElem?_eq_some_iff.1 hu).1
        simpa [bv, Nat.min_eq_left hzl] using this
      have hz := hcell j (by omega)
      have hw := wf_u8 (hwf (zs.getD j 0) (by rw [List.getD_eq_getElem?_getD, List.getElem?_eq_getElem (show j < zs.length by omega)]; exact List.getElem_mem _))
      rw [hz]
      congr 1
      have e : (bv ((zs.take len).map fun z => UInt8.ofNat z.toNat))[j]? = some (.int .u8 (((UInt8.ofNat (zs.getD j 0).toNat).toNat : Nat) : Int)) := by
        simp [bv, List.getElem?_take, hj, List.getD_eq_getElem?_getD, List.getElem?_eq_getElem (show j < zs.length by omega)]
      rw [e] at hu
      cases hu
      congr 1
      rw [UInt8.toNat_ofNat']
      omega
    · intro hall
      simp only [DataW.weights, ht, List.all_cons, Bool.and_eq_true, decide_eq_true_eq, hz, Nat.mul_one] at hall
      have h1 := hall.1
      simp only [lits, List.length_map, List.length_take, List.length_drop] at h1
      simp only [List.length_map, List.length_take]
      omega
theorem struct_parts {t : TypeId} {fuel : Nat} {cs : List Value} {x : DataW H × List MemPlace} (ht : P.underlying t = some (.struct (P.fieldsOf t))) (types : List (TypeId × Nat)) (hf : (P.fieldsOf t).toList.map (fun f => (f.type, f.offset)) = types)
    (h : DataW.trod enc P w base spare held fuel t cs = some x) :
    ∃ (xs : List (DataW H × List MemPlace)) (n : Nat), x = (.agg (xs.map (·.1)), xs.flatMap (·.2)) ∧ cs.length = P.cellsOf t ∧ xs.length = types.length ∧ ∀ (i : Nat) ty o, types[i]? = some (ty, o) → DataW.trod enc P w base spare held n ty ((cs.drop o).take (P.cellsOf ty)) = xs[i]? := by
  obtain ⟨xs, n, _, rfl, hl, hlen, hf'⟩ := DataW.trod_struct ht h
  refine ⟨xs, n, rfl, hl, by rw [hlen, ← hf]; simp, fun i ty o hi => ?_⟩
  rw [← hf, List.getElem?_map] at hi
  cases hq : (P.fieldsOf t).toList[i]? with
  | none => rw [hq] at hi; cases hi
  | some f =>
    rw [hq] at hi
    cases hi
    exact hf' i f (by simpa using hq)
end
theorem uSnap : Tryz.prog.underlying 24 = some (.struct (Tryz.prog.fieldsOf 24)) := by kernel_rfl
theorem fSnap : (Tryz.prog.fieldsOf 24).toList.map (fun f => (f.type, f.offset)) = [(3, 0), (3, 1), (22, 2), (22, 3)] := by kernel_rfl
theorem cSnap : Tryz.prog.cellsOf 24 = 4 := by kernel_rfl
theorem uInt : Tryz.prog.underlying 3 = some (.int .i64) := by kernel_rfl
theorem uBytes : Tryz.prog.underlying 22 = some (.slice 5) := by kernel_rfl
theorem uU8 : Tryz.prog.underlying 5 = some (.int .u8) := by kernel_rfl
theorem uBool : Tryz.prog.underlying 4 = some .bool := by kernel_rfl
theorem cInt : Tryz.prog.cellsOf 3 = 1 := by kernel_rfl
theorem cBytes : Tryz.prog.cellsOf 22 = 1 := by kernel_rfl
theorem cU8 : Tryz.prog.cellsOf 5 = 1 := by kernel_rfl
theorem zU8 : Tryz.prog.bytesOf 5 = 1 := by kernel_rfl
theorem laidOutP : laidOutB Tryz.prog = true := by kernel_rfl
section
variable {H : Type} {enc : TypeId × Value → H} {w : World} {base : Nat} {spare : Nat → Bool} {held : Bool}
theorem wf_i64 {n : Int} (h : (Lit.int .i64 n).wf = true) : -9223372036854775808 ≤ n ∧ n ≤ 9223372036854775807 := by
  have e1 : IntKind.i64.min = -9223372036854775808 := by decide
  have e2 : IntKind.i64.max = 9223372036854775807 := by decide
  simpa only [Lit.wf, e1, e2, Bool.and_eq_true, decide_eq_true_eq] using h
theorem open_snap {fuel : Nat} {cs : List Value} {x : DataW H × List MemPlace} (h : DataW.trod enc Tryz.prog w base spare held fuel 24 cs = some x) :
    ∃ i t va vb cf dt, cs = [.int .i64 i, .int .i64 t, va, vb] ∧ (-9223372036854775808 ≤ i ∧ i ≤ 9223372036854775807) ∧ (-9223372036854775808 ≤ t ∧ t ≤ 9223372036854775807) ∧ RB w.cell? va cf ∧ RB w.cell? vb dt ∧
      ((x.1.weights Tryz.prog 24).all (· ≤ reachBytes) = true → cf.length ≤ reachBytes ∧ dt.length ≤ reachBytes) := by
  obtain ⟨xs, n, rfl, hl, hxl, hp⟩ := struct_parts uSnap _ fSnap h
  rw [cSnap] at hl
  match cs, hl with
  | [c0, c1, c2, c3], _ =>
  match xs, hxl with
  | [x0, x1, x2, x3], _ =>
  have h0 := hp 0 _ _ rfl
  have h1 := hp 1 _ _ rfl
  have h2 := hp 2 _ _ rfl
  have h3 := hp 3 _ _ rfl
  simp only [cInt, cBytes, List.drop_zero, List.drop_succ_cons, List.take_succ_cons, List.take_zero, List.getElem?_cons_zero, List.getElem?_cons_succ] at h0 h1 h2 h3
  obtain ⟨i, e0, rfl, w0⟩ := DataW.trod_int uInt h0
  obtain ⟨t, e1, rfl, w1⟩ := DataW.trod_int uInt h1
  obtain ⟨va, cf, e2, r2, s2⟩ := open_bytes uBytes uU8 cU8 zU8 h2
  obtain ⟨vb, dt, e3, r3, s3⟩ := open_bytes uBytes uU8 cU8 zU8 h3
  cases e0; cases e1; cases e2; cases e3
  refine ⟨i, t, _, _, cf, dt, rfl, wf_i64 w0, wf_i64 w1, r2, r3, fun hall => ?_⟩
  have hfs : ((Tryz.prog.fieldsOf 24).toList.map (·.type)) = [3, 3, 22, 22] := by kernel_rfl
  simp only [DataW.weights, uSnap, hfs, List.map_cons, List.map_nil, DataW.weightsEach, List.nil_append, List.append_nil, List.all_append, Bool.and_eq_true] at hall
  exact ⟨s2 hall.1, s3 hall.2⟩
theorem open_snapV {r : Reach} {b0 : Nat} {v : Value} {d : DataW H} {ps : List MemPlace} (hval : Value.okWide Tryz.prog w r b0 24 v) (h : DataW.Trod enc Tryz.prog w base spare held 24 v d ps) :
    ∃ i t va vb cf dt, v = .agg #[.int .i64 i, .int .i64 t, va, vb] ∧ (-9223372036854775808 ≤ i ∧ i ≤ 9223372036854775807) ∧ (-9223372036854775808 ≤ t ∧ t ≤ 9223372036854775807) ∧ RB w.cell? va cf ∧ RB w.cell? vb dt ∧
      ((d.weights Tryz.prog 24).all (· ≤ reachBytes) = true → cf.length ≤ reachBytes ∧ dt.length ≤ reachBytes) := by
  obtain ⟨fuel, h⟩ := h
  obtain ⟨i, t, va, vb, cf, dt, e, h1, h2, h3, h4, h5⟩ := open_snap h
  unfold Value.okWide at hval
  rw [uSnap] at hval
  obtain ⟨cs, rfl, _, _⟩ := hval
  refine ⟨i, t, va, vb, cf, dt, ?_, h1, h2, h3, h4, h5⟩
  have : cs = #[.int .i64 i, .int .i64 t, va, vb] := Array.toList_inj.1 (by simpa [Value.cells] using e)
  rw [this]
theorem all_stays {P : Program} (hlo : laidOutB P = true) {W W' : World} (hb : Below W.heap.size W W') : ∀ (ts : List TypeId) (vs : List Value) (ds : List (DataW H)) (ps : List MemPlace), (ts.all fun t => P.readableRec t && decide (t < P.types.size)) = true →
    DataW.TrodAll enc P W 0 (fun _ => true) true ts vs ds ps → (∀ x ∈ ps, x.block < W.heap.size) → ∃ qs, DataW.TrodAll enc P W' 0 (fun b => decide (b < W.heap.size)) true ts vs ds qs
  | [], vs, ds, ps, _, h, _ => by
    obtain ⟨rfl, rfl, rfl⟩ := trodAll_nil h
    exact ⟨[], trodAll_mk0⟩
  | t :: ts, vs, ds, ps, ht, h, hlt => by
    obtain ⟨v, vs', d, ds', p, p', rfl, rfl, rfl, h1, h2⟩ := trodAll_cons h
    simp only [List.all_cons, Bool.and_eq_true, decide_eq_true_eq] at ht
    obtain ⟨qs, hq⟩ := all_stays hlo hb ts vs' ds' p' ht.2 h2 (fun x hx => hlt x (List.mem_append_right _ hx))
    have h1' := Below.trod hlo ht.1.1 ht.1.2 h1 hb (fun x hx => hlt x (List.mem_append_left _ hx))
    exact ⟨_, trodAll_cons_mk h1' hq⟩
/-- The row's closing: the law has returned true and turned nothing. -/
theorem post_true {s : ChangeSpec} {fn : Func} (hv : s.vars = []) (hr : fn.resultTypes = #[4]) (hp : (fn.params.toList.all fun t => Tryz.prog.readableRec t && decide (t < Tryz.prog.types.size)) = true)
    {W W' : World} {args : Array Value} {ds gs : List (DataW H)} {before : List MemPlace} (hW : DataW.Whole enc Tryz.prog fn.params.toList s.vars false W args.toList ds gs before)
    (hfn : s.fn H (ds ++ gs) = { results := [.lit (.bool true)], args := ds }) (hb : Below W.heap.size W W') : s.post enc Tryz.prog fn false true false false W args (.bool true) W' := by
  have hW' := hW
  obtain ⟨p, q, hA, hV, rfl, hfz, hnd⟩ := hW
  have hlt : ∀ x ∈ p, x.block < W.heap.size := fun x hx => hW'.lt x (List.mem_append_left _ hx)
  obtain ⟨qs, hq⟩ := all_stays laidOutP hb _ _ _ _ hp hA hlt
  refine ⟨ds, gs, _, [], qs, [], hW', ?_, ?_, ?_, hb.frame _, fun h => by cases h⟩
  · rw [hfn, hr]; exact trodAll_mk1 (shut_bool uBool true)
  · rw [hfn]; exact hq
  · rw [hfn, hv]; rfl
end
end Go.Proofs.YtjcchjgkkplamaaGreatDoor
