/- Gb: several texts in one. -/
import Derived.Test.YtllfpnbhjfadiaaGreatDoorGa
import Derived.Recover
import Derived.Lib.Builder
import Derived.Lib.UnsafeStr
import Derived.Lib.AppendStr
import Derived.Laws.Externs
import Derived.Laws.Runes
import Derived.Test.YtllfpnbhjfadiaaGreatDoorProg
import Derived.Lib.BitFns
import Derived.WalkKit
import Derived.LaidEql
import Derived.Stop.Asserts
import Derived.RowKitTokens
import Derived.Test.YtllfpnbhjfadiaaGreatDoorRows
import Derived.ChangeSame
import Derived.ChangeVars
import Derived.ChangeSlices
import Derived.JoinedOf
import Derived.RowKit
import Derived.Carry
import Derived.OpenShut
import Derived.LaidLaws
import Derived.LaidHandle
import Derived.Stop.Joined
import Derived.Lib.Bytealg
import Derived.Test.YtllfpnbhjfadiaaGreatDoorShelf
/- The calculus of SW: functions that put off another one which recovers. Plain theorems. -/
set_option linter.unusedVariables false
set_option linter.unusedSimpArgs false
set_option maxRecDepth 100000
namespace Go.SW
open Go Go.RowKit
section
variable {P : Program} {n : Sh} {ops : Array Oper} {Q : Exit → Act → World → Prop} {i : Nat} {fr : Fr} {w w0 : World}
variable {K : Fr → World → Prop} {d : Option Tmp} {ty : TypeId} {pos : String} {aft : Array Edge} {g : Option (Nat × Bool)}
theorem leaves_congr {fn : Func} {t1 t2 : Array Value} (h : results fn t1 = results fn t2) {R : Ending → World → Prop} : ∀ (ds : List Deferred) (u : FrameMode) (w : World), Leaves P fn t1 R ds u w → Leaves P fn t2 R ds u w := by
  intro ds
  induction ds with
  | nil =>
    intro u w hl
    cases u with
    | run => exact hl
    | returning => obtain ⟨v, hv, hR⟩ := hl; exact ⟨v, h ▸ hv, hR⟩
    | panicking c => exact hl
  | cons d ds ih =>
    intro u w hl
    obtain ⟨h0, fv, cap, f, args, ht, hi, hc⟩ := hl
    refine ⟨h0, fv, cap, f, args, ht, hi, CallsD.mono hc fun e u' w' => ?_⟩
    cases e with
    | returned v => exact ih _ _
    | panicked c => exact ih _ _
    | outgrown => exact id
/-- What is handed back hangs on no slot that may still be written. -/
class RK (n : Sh) (fn : Func) : Prop where
  keep : ∀ (a : Act) (d : Option Tmp) (v : Value), dok n d = true → results fn (a.put d v).tmps = results fn a.tmps
theorem put_getD {a : Act} {d : Option Tmp} {v : Value} {x : Tmp} (h : d ≠ some x) : (a.put d v).tmps.getD x undef = a.tmps.getD x undef := by
  cases d with
  | none => rfl
  | some t =>
    have ht : t ≠ x := fun e => h (by rw [e])
    simp only [Act.put, Array.getD_eq_getD_getElem?]
    simp [Array.getElem?_setIfInBounds, ht]
theorem dok_ks {d : Option Tmp} {x : Tmp} (h : dok n d = true) (hx : x ∈ n.ks) : d ≠ some x := by
  rintro rfl
  simp only [dok, Bool.and_eq_true, List.all_eq_true] at h
  have := h.2 x hx
  simp at this
theorem rk2 {fn : Func} {x y : Tmp} {t t' : TypeId} (hr : fn.results = #[.cell x t, .cell y t']) (hx : x ∈ n.ks) (hy : y ∈ n.ks) : RK n fn := ⟨fun a d v hd => by
  rw [results_of, results_of, hr]
  have h1 : resOf (a.put d v) (.cell x t) = resOf a (.cell x t) := by simp only [resOf, put_getD (dok_ks hd hx)]
  have h2 : resOf (a.put d v) (.cell y t') = resOf a (.cell y t') := by simp only [resOf, put_getD (dok_ks hd hy)]
  simp [h1, h2]⟩
instance PQ.bodyD {fn : Func} {R : Ending → World → Prop} [h : RK n fn] : PQ n (bodyPostD P fn R) := ⟨fun c a d v w hd hq => by
  have e : (a.put d v).defers = a.defers := by cases d <;> rfl
  have hq : Leaves P fn (a.put d v).tmps R (a.put d v).defers (.panicking c) w := hq
  rw [e] at hq
  exact leaves_congr (h.keep a d v hd) _ _ _ hq⟩
instance UR.bodyD {fn : Func} {R : Ending → World → Prop} : UR (bodyPostD P fn R) (bodyPostD P fn R) := ⟨fun _ _ h => h⟩
/-- Panics come to the body's end. -/
class UD (Q : Exit → Act → World → Prop) (B : outParam (Exit → Act → World → Prop)) : Prop where
  of : ∀ ch a w, B (.panic ch) a w → Q (.panic ch) a w
instance UD.th {Z : Act → World → Prop} {B : Exit → Act → World → Prop} [h : UD Q B] : UD (Exit.then Z Q) B := ⟨h.of⟩
instance UD.bk {id : Nat} {B : Exit → Act → World → Prop} [h : UD Q B] : UD (Exit.inBlock id Q) B := ⟨h.of⟩
instance UD.body {fn : Func} {R : Ending → World → Prop} : UD (bodyPostD P fn R) (bodyPostD P fn R) := ⟨fun _ _ _ h => h⟩
theorem sw_ks {c : Code} (ks : List Nat) (h : SW P ⟨n.n, n.ds, ks⟩ c Q fr w) : SW P n c Q fr w := fun a ha => h a ⟨ha.size, ha.dfs, ha.get⟩
theorem ent_fits {m N : Nat} {args : List Value} (hn : m = N) (hl : Nat.ble args.length N = true) : Fits ⟨N, [], []⟩ (ent 0 args) { tmps := args.toArray ++ Array.replicate (m - args.toArray.size) undef, defers := [] } := by
  refine ⟨?_, rfl, fun i v hv => ?_⟩
  · have := Nat.le_of_ble_eq_true hl
    simp [hn]; omega
  · obtain ⟨h1, h2⟩ := gt_ent args 0 i v hv
    simp only [Nat.sub_zero] at h2
    have hlt : i < args.length := (List.getElem?_eq_some_iff.1 h2).1
    simp only [Array.getD_eq_getD_getElem?]
    rw [Array.getElem?_append_left (by simpa using hlt)]
    simp [h2]
theorem callsD_of_sw {f : FuncId} {fn : Func} {c : Code} {args : List Value} {R : Ending → World → Prop} (hf : P.funcs[f]? = some fn) (hb : fn.body = some c) (N : Nat) (hn : fn.ntmps = N) (hl : Nat.ble args.length N = true)
    (h : SW P ⟨N, [], []⟩ c (bodyPostD P fn R) (ent 0 args) w) : Calls P f args.toArray w R := calls_of_wp_defers hf hb (h _ (ent_fits hn hl))
theorem retD {fn : Func} {R : Ending → World → Prop} {Q : Exit → Act → World → Prop} [UR Q (bodyPostD P fn R)] (h : ∀ a, Fits n fr a → Leaves P fn a.tmps R n.ds .returning w) : SW P n .ret Q fr w := ur (R := bodyPostD P fn R) fun a ha => by
  show Leaves P fn a.tmps R a.defers .returning w
  rw [ha.dfs]; exact h a ha
theorem cells2 {fn : Func} {r1 r2 : ResultVar} {v1 v2 : Value} (hr : fn.results = #[r1, r2]) (h1 : RS P n fr w r1 v1) (h2 : RS P n fr w r2 v2) {a : Act} (ha : Fits n fr a) : (results fn a.tmps).run P w = .ok (.tuple #[v1, v2]) w := by
  rw [results_of, hr]; simp [h1 a ha, h2 a ha]
theorem SpD {f : FuncId} {ags : Array Operand} {tys : Array TypeId} (hi : ops[i]? = some ⟨d, .call ⟨.value (.func f), ags, tys⟩, ty, pos, aft, g⟩) {args : List Value} (ha : ags.toList.map (ev fr) = args) {Post : Value → World → Prop} {Pan : List PanicEntry → World → Prop} (hf : FunP P f args w Post Pan)
    {fn : Func} {R : Ending → World → Prop} [UD Q (bodyPostD P fn R)] (h : ∀ v w', Post v w' → K (pf fr d v) w') (hp : ∀ c w', Pan c w' → ∀ a, Fits n fr a → Leaves P fn a.tmps R n.ds (.panicking c) w')
    (hg : guardV ops fr ⟨d, .call ⟨.value (.func f), ags, tys⟩, ty, pos, aft, g⟩ = some true := by kernel_rfl) (hs : (dok n d && ags.toList.all (kn fr)) = true := by kernel_rfl) (hc : callable P f = true := by kernel_rfl) : ST P n ops Q i K fr w := by
  rename_i hX
  simp only [Bool.and_eq_true] at hs
  refine st_step hi hg fun a hfit K' hK => ?_
  unfold Oper.wp
  rw [hfit.exec (by simp only [knowns, Op.operands, Call.operands, Array.toList_append, List.all_append, hs.2, Bool.and_true]; rfl) rfl]
  have hr : (execOp (ev fr) ⟨d, .call ⟨.value (.func f), ags, tys⟩, ty, pos, aft, g⟩).run P w = .ok (.enter f args.toArray) w := by
    have hm : ags.map (ev fr) = args.toArray := by rw [← ha]; apply Array.ext'; simp
    simp only [execOp, resolve, Deferred.ofValue, ev, invoke, Sem.run_bind, Sem.run_pure, Result.andThen_ok]
    rw [show (#[] : Array Value) ++ ags.map (ev fr) ++ #[] = args.toArray from by rw [hm]; simp]
    exact run_callFunc_of hc _ w
  rw [hr]
  simp only [Oper.upon]
  refine Calls.mono hf ?_
  intro e w' he
  cases e with
  | returned v => exact hK _ _ _ (hfit.put hs.1 v) (h v w' he)
  | panicked c =>
    refine hX.of _ _ _ ?_
    show Leaves P fn a.tmps R a.defers (.panicking c) w'
    rw [hfit.dfs]; exact hp c w' he a hfit
  | outgrown => exact he.elim
theorem recD {f : FuncId} {fn : Func} {id : Nat} {t : Tmp} {y : Code} {args : List Value} {u u' : FrameMode} {x : Value} {Post : Value → World → Prop} (hf : P.funcs[f]? = some fn) (hb : fn.body = some (.seq (.region id #[⟨some t, .call ⟨.builtin .recover, #[], #[]⟩, ty, pos, #[], none⟩] false) y)) (N : Nat) (hn : fn.ntmps = N) (hl : Nat.ble args.length N = true) (ht : Nat.blt t N = true)
    (hu : ∀ (c : Frame) (cs : List Frame), c.mode = u → recoverD (c :: cs) = some (x, { c with mode := u' } :: cs) ∨ recoverD (c :: cs) = none ∧ x = .nilIface ∧ u' = u)
    (h : SW P ⟨N, [], []⟩ y (bodyPost P fn fun e w' => ∃ v, e = .returned v ∧ Post v w') (pf (ent 0 args) (some t) x) w) : CallsD P f args.toArray u w fun e u2 w' => u2 = u' ∧ ∃ v, e = .returned v ∧ Post v w' := by
  refine callsD_of_wpS hf hb fun c₀ cs hc => wpS_seq (wpS_region ?_)
  have hfit := (ent_fits (m := fn.ntmps) hn hl).put (d := some t) (by simp [dok, ht]) x
  have key : ∀ cs', (cs' = { c₀ with mode := u' } :: cs) → y.wpS P (bodyPostS P fn c₀ cs fun e u2 w' => u2 = u' ∧ ∃ v, e = .returned v ∧ Post v w') (Act.put { tmps := args.toArray ++ Array.replicate (fn.ntmps - args.toArray.size) undef, defers := [] } (some t) x) cs' w := by
    intro cs' hcs
    refine wpS_of_wp (Code.wp_mono (fun e a' w' hq => ?_) (h _ hfit))
    cases e with
    | normal => obtain ⟨hd, v, hr, hR⟩ := hq; exact ⟨hd, u', hcs, v, hr, rfl, hR⟩
    | ret => obtain ⟨hd, v, hr, hR⟩ := hq; exact ⟨hd, u', hcs, v, hr, rfl, hR⟩
    | panic ch => obtain ⟨hd, v, hv, _⟩ := hq; cases hv
    | outgrown => obtain ⟨v, hv, _⟩ := hq; cases hv
    | exit id => exact hq.elim
    | goto l => exact hq.elim
  show wpOpsS P _ _ [0] _ _ _
  simp only [wpOpsS, List.getElem?_toArray, List.getElem?_cons_zero]
  have hr : ∀ ev', (execOp ev' (⟨some t, .call ⟨.builtin .recover, #[], #[]⟩, ty, pos, #[], none⟩ : Oper)).run P w = .ok .recover w := fun _ => rfl
  have hw : ∀ ys, Region.wanted (⟨some t, .call ⟨.builtin .recover, #[], #[]⟩, ty, pos, #[], none⟩ : Oper) ys = true := fun _ => rfl
  rw [if_pos (hw _), hr]
  simp only
  rcases hu c₀ cs hc with e | ⟨e, rfl, rfl⟩
  · rw [e]; exact key _ rfl
  · rw [e]; exact key _ (by subst hc; rfl)
end
end Go.SW
/- The calculus of SW: 64 bits without a sign: or, exclusive or, shifts by any number; errors that are faults. Plain theorems. -/
set_option linter.unusedVariables false
set_option linter.unusedSimpArgs false
set_option maxRecDepth 100000
namespace Go.SW
open Go Go.RowKit
theorem bv64 {a : Nat} (h : a < 18446744073709551616) : (BitVec.ofInt 64 (a : Int)).toNat = a := by
  rw [BitVec.ofInt_natCast, BitVec.toNat_ofNat]; exact Nat.mod_eq_of_lt h
theorem cv_or_u64 {a b : Nat} (ha : a < 18446744073709551616) (hb : b < 18446744073709551616) : Value.int .u64 (IntKind.u64.wrap (((BitVec.ofInt 64 (a : Int) ||| BitVec.ofInt 64 (b : Int)).toNat : Nat) : Int)) = .int .u64 ((a ||| b : Nat) : Int) := by
  rw [BitVec.toNat_or, bv64 ha, bv64 hb]
  have h := Nat.or_lt_two_pow (n := 64) ha hb
  exact cv_u64 ⟨by omega, by omega, rfl⟩
theorem cv_and_u64 {a b : Nat} (ha : a < 18446744073709551616) (hb : b < 18446744073709551616) : Value.int .u64 (IntKind.u64.wrap (((BitVec.ofInt 64 (a : Int) &&& BitVec.ofInt 64 (b : Int)).toNat : Nat) : Int)) = .int .u64 ((a &&& b : Nat) : Int) := by
  rw [BitVec.toNat_and, bv64 ha, bv64 hb]
  have h := Nat.and_lt_two_pow (n := 64) a hb
  exact cv_u64 ⟨by omega, by omega, rfl⟩
theorem cv_xor_u64 {a b : Nat} (ha : a < 18446744073709551616) (hb : b < 18446744073709551616) : Value.int .u64 (IntKind.u64.wrap (((BitVec.ofInt 64 (a : Int) ^^^ BitVec.ofInt 64 (b : Int)).toNat : Nat) : Int)) = .int .u64 ((a ^^^ b : Nat) : Int) := by
  rw [BitVec.toNat_xor, bv64 ha, bv64 hb]
  have h := Nat.xor_lt_two_pow (n := 64) ha hb
  exact cv_u64 ⟨by omega, by omega, rfl⟩
section
variable {P : Program} {n : Sh} {ops : Array Oper} {Q : Exit → Act → World → Prop} {i : Nat} {fr : Fr} {w w0 : World} {z : Zone} {F : List Nat} {os : List Own}
variable {K : Fr → World → Prop} {d : Option Tmp} {ty : TypeId} {pos : String} {aft : Array Edge} {g : Option (Nat × Bool)}
theorem run_shr {t : TypeId} {k k2 : IntKind} {a n : Nat} (hn : n ≤ k.bits) : (binOp .shr t (.int k a) (.int k2 n)).run P w = .ok (.int k ((a / 2 ^ n : Nat) : Int)) w := by
  have h0 : ¬ ((n : Nat) : Int) < 0 := by omega
  show (Op.shift .shr k a k2 n).run P w = _
  unfold Op.shift
  rw [if_neg h0]
  simp only [Int.toNat_natCast, Nat.min_eq_left hn, Sem.run_pure]
  congr 2
  rw [Int.fdiv_eq_ediv_of_nonneg _ (by exact_mod_cast Nat.zero_le _)]
  simp
theorem rd_shr {t t2 : TypeId} {x y : Operand} {k k2 : IntKind} {a n : Nat} (hx : ev fr x = .int k a) (hy : ev fr y = .int k2 n) (hn : n ≤ k.bits) : Runs P fr ⟨d, .binOp .shr t x y t2, ty, pos, aft, g⟩ (.int k ((a / 2 ^ n : Nat) : Int)) w := by
  unfold Runs
  simp only [execOp, hx, hy, Sem.run_bind, run_shr hn]
  simp [eqGuard, Result.andThen]
theorem run_shl {t : TypeId} {k2 : IntKind} {a n : Nat} (hn : n ≤ 64) (h : a * 2 ^ n < 18446744073709551616) : (binOp .shl t (.int .u64 a) (.int k2 n)).run P w = .ok (.int .u64 ((a * 2 ^ n : Nat) : Int)) w := by
  have h0 : ¬ ((n : Nat) : Int) < 0 := by omega
  show (Op.shift .shl .u64 a k2 n).run P w = _
  unfold Op.shift
  rw [if_neg h0]
  simp only [Int.toNat_natCast, show min n (IntKind.bits .u64) = n from Nat.min_eq_left hn, Sem.run_pure]
  have e : ((a : Int) * 2 ^ n) = ((a * 2 ^ n : Nat) : Int) := by simp
  rw [e, cv_u64 ⟨by omega, by omega, rfl⟩]
theorem rd_shl {t t2 : TypeId} {x y : Operand} {k2 : IntKind} {a n : Nat} (hx : ev fr x = .int .u64 a) (hy : ev fr y = .int k2 n) (hn : n ≤ 64) (h : a * 2 ^ n < 18446744073709551616) : Runs P fr ⟨d, .binOp .shl t x y t2, ty, pos, aft, g⟩ (.int .u64 ((a * 2 ^ n : Nat) : Int)) w := by
  unfold Runs
  simp only [execOp, hx, hy, Sem.run_bind, run_shl hn h]
  simp [eqGuard, Result.andThen]
end
end Go.SW
/- The calculus of SW: what package strings' Builder needs: a pointer made unsafe and back, a string laid behind bytes, bytes read as a string. Plain theorems. -/
set_option linter.unusedVariables false
set_option linter.unusedSimpArgs false
set_option maxRecDepth 100000
namespace Go.SW
open Go Go.RowKit
section
variable {P : Program} {n : Sh} {ops : Array Oper} {Q : Exit → Act → World → Prop} {i : Nat} {fr : Fr} {w w0 : World} {z : Zone} {F : List Nat} {os : List Own}
variable {K : Fr → World → Prop} {d : Option Tmp} {ty : TypeId} {pos : String} {aft : Array Edge} {g : Option (Nat × Bool)}
theorem Hp.blk_shape (hH : Hp w0 w z F os) (k : Nat) {b : Nat} {e : TypeId} {cs : List Value} (hk : os[k]? = some (.blk b e cs)) : w.shape? b = some (e, cs.length) := by
  have h : w.heap[b]? = some (.cells cs.toArray e (0, 0)) := hH.own _ (List.mem_of_getElem? hk)
  simp [World.shape?, h]
theorem size_parts {t : TypeId} (h : (P.info? t).map (fun j => j.size != 0) = some true) : ∃ j, P.info? t = some j ∧ j.size ≠ 0 := by
  obtain ⟨j, h1, h2⟩ := Option.map_eq_some_iff.1 h
  exact ⟨j, h1, by simpa using h2⟩
theorem rd_toU {src dst t : TypeId} {x : Operand} (k : Nat) (hH : Hp w0 w z F os) {b : Nat} (hx : ev fr x = .pointer (some ⟨b, 0, none⟩)) {e : TypeId} {cs : List Value} (hk : os[k]? = some (.blk b e cs))
    (hc : 0 < cs.length) (hs : P.underlying src = some (.pointer t)) (hd : P.underlying dst = some .unsafePointer) (ht : (P.info? t).map (fun j => j.size != 0) = some true) :
    Runs P fr ⟨d, .convert src dst x, ty, pos, aft, g⟩ (.pointer (some ⟨b, 0, none⟩)) w := by
  obtain ⟨j, h1, h2⟩ := size_parts ht
  have hr := Lib.run_to_unsafe (P := P) w ⟨b, 0, none⟩ hs hd h1 h2 (hH.blk_shape k hk) hc
  simp [Runs, execOp, hx, hr, Result.andThen]
theorem rd_fromU {src dst u : TypeId} {x : Operand} (k : Nat) (hH : Hp w0 w z F os) {b : Nat} (hx : ev fr x = .pointer (some ⟨b, 0, none⟩)) {e : TypeId} {cs : List Value} (hk : os[k]? = some (.blk b e cs))
    (hl : liesAt P P.depth e (cs.length / P.cellsOf e) 0 u 1 = true) (hs : P.underlying src = some .unsafePointer) (hd : P.underlying dst = some (.pointer u)) (ht : (P.info? u).map (fun j => j.size != 0) = some true) :
    Runs P fr ⟨d, .convert src dst x, ty, pos, aft, g⟩ (.pointer (some ⟨b, 0, none⟩)) w := by
  obtain ⟨j, h1, h2⟩ := size_parts ht
  have hr := Lib.run_from_unsafe (P := P) w ⟨b, 0, none⟩ hs hd h1 (hH.blk_shape k hk) hl
  simp [Runs, execOp, hx, hr, Result.andThen]
theorem rd_same {f : FuncId} {x : Operand} {tys : Array TypeId} (fn : Func) {v : Value} (hx : ev fr x = v) (hf : P.funcs[f]? = some fn) (hname : (fn.name == "runtime.NumGoroutine") = false) (hb : fn.body.isNone = true) (hn : Extern.findNext fn = none) (he : Extern.find fn = some Extern.AbiNoEscape.same) :
    Runs P fr ⟨d, .call ⟨.value (.func f), #[x], tys⟩, ty, pos, aft, g⟩ v w := by
  have hr := run_callFunc_extern (P := P) hf hname hb hn he #[v] w
  rw [Lib.run_noEscape] at hr
  unfold Runs
  simp only [execOp, resolve, Deferred.ofValue, ev, invoke, Sem.run_bind, Sem.run_pure, Result.andThen_ok]
  rw [show (#[] : Array Value) ++ #[x].map (ev fr) ++ #[] = #[v] from by simp [hx]]
  rw [hr]
  simp [Result.andThen]
theorem rd_pneq_same {t te t2 : TypeId} {x y : Operand} (hp : P.underlying t = some (.pointer te)) (hj : (P.info? te).map (fun j => j.size != 0) = some true) {a : Addr} (hx : ev fr x = .pointer (some a)) (hy : ev fr y = .pointer (some a)) :
    Runs P fr ⟨d, .binOp .neq t x y t2, ty, pos, aft, g⟩ (.bool false) w := by
  obtain ⟨j, h1, _⟩ := size_parts hj
  have hr := Lib.run_neq_ptr_same (P := P) w a hp h1
  unfold Runs
  simp only [execOp, hx, hy, Sem.run_bind]
  simp [eqGuard, hr, Result.andThen]
theorem bv_str (l : List UInt8) : Lib.strCells (bs l) = bv l := by simp [Lib.strCells, bs, bv]
theorem st_appS {t u e : TypeId} {x y : Operand} (k : Nat) (hi : ops[i]? = some ⟨d, .call ⟨.builtin .append, #[x, y], #[t, u]⟩, ty, pos, aft, g⟩) (hg : guardV ops fr ⟨d, .call ⟨.builtin .append, #[x, y], #[t, u]⟩, ty, pos, aft, g⟩ = some true) (hs : (dok n d && knowns fr (.call ⟨.builtin .append, #[x, y], #[t, u]⟩) && true) = true)
    (ht : elemT P t = some e) (hu : P.underlying u = some .string) (he : (P.info? e).map (fun i => (i.zero, i.size, i.bytes)) = some (some (.int .u8 0), 1, 1)) (hH : Hp w0 w z F os)
    {v : Value} {l : Nat} {xs : List Value} {s : List UInt8} (hx : ev fr x = v) (hk : os[k]? = some (.row v e 1 l xs)) (hy : ev fr y = .string (bs s)) (hb : l + s.length ≤ 140737488355328)
    (h : ∀ v' w', Hp w0 w' z F (os.set k (.row v' e 1 (l + s.length) (xs ++ bv s))) → K (pf fr d v') w') : ST P n ops Q i K fr w := by
  have hr := hH.row_at k hk
  obtain ⟨inf, k1, k2, k3, k4⟩ := info_parts he
  have hm : l + (bs s).size ≤ maxLen := by rw [bs_size]; unfold maxLen; omega
  have hb2 : l + (bs s).size ≤ 140737488355328 := by rw [bs_size]; omega
  have ht2 := underlying_of_elem ht
  obtain ⟨v', w', r1, r2, r3, r4⟩ := Lib.run_append_own_string (P := P) w 0 t u ty e inf ht2 hu k1 k2 k3 k4 v l xs hr (bs s) hm hb2 (Nat.zero_le _)
  have hnew : ∀ b, v'.ownBlock = some b → v.ownBlock = some b ∨ w.heap.size ≤ b := by
    intro b hvb
    have hr0 := hr
    rcases hr.2 with ⟨rfl, rfl⟩ | ⟨q, cap, cur, rfl, _, hq, hnc, hcm, hcs, htake⟩
    · obtain ⟨v2, w2, q1, q2, _, _⟩ := Lib.run_append_own_string (P := P) w w.heap.size t u ty e inf ht2 hu k1 k2 k3 k4 (.slice none 0 0) 0 xs ⟨hr.1, .inl ⟨rfl, rfl⟩⟩ (bs s) hm hb2 (Nat.le_refl _)
      have hvw := r1.symm.trans q1
      simp only [Result.ok.injEq] at hvw
      rw [hvw.1] at hvb
      exact .inr (q2.lt b hvb).1
    · by_cases hroom : l + (bs s).size ≤ cap
      · have h1 := r1.symm.trans (Lib.run_append_room_string (P := P) w t u ty e inf ht2 hu k1 k3 q l cap cur hq (bs s) hroom (by omega))
        simp only [Result.ok.injEq] at h1
        rw [h1.1] at hvb
        exact .inl hvb
      · have h1 := r1.symm.trans (Lib.run_append_grow_string (P := P) w t u ty e inf (.int .u8 0) ht2 hu k1 k2 ⟨q, 0, none⟩ l cap xs (by rw [k3]; exact hr0.1) (hr0.cells (g := q) rfl) (bs s) (by omega) (by unfold maxLen at hm; omega) (by rw [k4]; exact growslice_fits (by omega) (by omega)))
        simp only [Result.ok.injEq] at h1
        rw [h1.1] at hvb
        simp only [Value.ownBlock, Option.some.injEq] at hvb
        exact .inr (by omega)
  rw [bs_size, bv_str] at r2
  refine st_run hi hg hs v' w' ?_ (h v' w' ?_)
  · simp [execOp, resolve, invoke, builtin, hx, hy, r1, Result.andThen]
  · refine hH.turn k hk v.ownBlock (fun b hb => by simp [Own.row, hb]) r3 r2 (fun b hb => ?_) (by simp only [Own.row]; cases v'.ownBlock <;> simp)
    simp only [Own.row, Option.mem_toList] at hb ⊢
    exact hnew b hb
theorem rd_sliceData {t tp e : TypeId} {x : Operand} {a : Addr} {l c : Nat} (hx : ev fr x = .slice (some a) l c) (hc : c ≠ 0) : Runs P fr ⟨d, .call ⟨.builtin .unsafeSliceData, #[x], #[t]⟩, tp, pos, aft, g⟩ (.pointer (some a)) w := by
  have hr := Lib.run_unsafeSliceData_row (P := P) w #[t] tp a l c hc
  simp [Runs, execOp, resolve, invoke, builtin, hx, hr, Result.andThen]
theorem rd_sliceData0 {t tp e : TypeId} {x : Operand} (hx : ev fr x = .slice none 0 0) : Runs P fr ⟨d, .call ⟨.builtin .unsafeSliceData, #[x], #[t]⟩, tp, pos, aft, g⟩ (.pointer none) w := by
  have hr := Lib.run_unsafeSliceData_nil (P := P) w #[t] tp 0 0
  simp [Runs, execOp, resolve, invoke, builtin, hx, hr, Result.andThen]
theorem rd_ustr0 {t t2 tp : TypeId} {x y : Operand} {p : Option Addr} (hx : ev fr x = .pointer p) (hy : ev fr y = .int .i64 0) : Runs P fr ⟨d, .call ⟨.builtin .unsafeString, #[x, y], #[t, t2]⟩, tp, pos, aft, g⟩ (.string (bs [])) w := by
  have hr := Lib.run_unsafeString_none (P := P) w t t2 tp p
  simp [Runs, execOp, resolve, invoke, builtin, hx, hy, hr, Result.andThen]
  rfl
theorem st_ustr {pt it e : TypeId} {x y : Operand} (k : Nat) (hi : ops[i]? = some ⟨d, .call ⟨.builtin .unsafeString, #[x, y], #[pt, it]⟩, ty, pos, aft, g⟩) (hg : guardV ops fr ⟨d, .call ⟨.builtin .unsafeString, #[x, y], #[pt, it]⟩, ty, pos, aft, g⟩ = some true) (hs : (dok n d && knowns fr (.call ⟨.builtin .unsafeString, #[x, y], #[pt, it]⟩) && true) = true)
    (hp : P.underlying pt = some (.pointer e)) (hc : P.cellsOf e = 1) (hH : Hp w0 w z F os) {q cap : Nat} {l : List UInt8} (hx : ev fr x = .pointer (some ⟨q, 0, none⟩)) (hy : ev fr y = .int .i64 l.length) (h0 : l ≠ [])
    (hk : os[k]? = some (.row (.slice (some ⟨q, 0, none⟩) l.length cap) e 1 l.length (bv l)))
    (h : ∀ w', Hp w0 w' z F (os.eraseIdx k) → K (pf fr d (.string (bs l))) w') : ST P n ops Q i K fr w := by
  have hr := hH.row_at k hk
  have hl0 : l.length ≠ 0 := by simpa using h0
  rcases hr.2 with ⟨h1, _⟩ | ⟨q', cap', cur, h1, _, hq, hnc, hcm, hcs, htake⟩
  · cases h1
  · simp only [Value.slice.injEq, Option.some.injEq, Addr.mk.injEq] at h1
    obtain ⟨⟨rfl, _⟩, _, rfl⟩ := h1
    have hsh : w.shape? q = some (e, cur.size) := by simp [World.shape?, hq]
    have hrun := Lib.run_unsafeString_row (P := P) w pt it ty e hp hc q cur.size hsh l h0 (by omega) (by unfold maxLen at hcm; omega) (fun j x hj => hr.cells (g := q) rfl j (.int .u8 x.toNat) (by simp [bv, hj]))
    refine st_run hi hg hs _ (w.freeze ⟨q, 0, none⟩ l.length) ?_ (h _ ?_)
    · simp [execOp, resolve, invoke, builtin, hx, hy, hrun, Result.andThen, bs]
    · have hz : (Own.row (.slice none 0 0) e 1 0 []).at (w.freeze ⟨q, 0, none⟩ l.length) := ⟨by simp, .inl ⟨rfl, rfl⟩⟩
      have hg2 : w.grownBy (w.freeze ⟨q, 0, none⟩ l.length) (some q) := by
        unfold World.freeze
        split
        · exact World.grownBy.refl _ _
        · refine ⟨rfl, rfl, rfl, by simp, fun k _ hk => ?_⟩
          simp only [Array.getElem?_modify]
          rw [if_neg (fun e => hk (by simp [e]))]
      have h2 := hH.turn k hk (some q) (fun b hb => by cases hb; simp [Own.row, Value.ownBlock]) hg2 hz (fun b hb => by simp [Own.row, Value.ownBlock] at hb) (by simp [Own.row, Value.ownBlock])
      exact h2.sublist (by rw [List.set_eq_take_append_cons_drop, if_pos (List.getElem?_eq_some_iff.1 hk).1, List.eraseIdx_eq_take_drop_succ]; exact List.Sublist.append (List.Sublist.refl _) (List.sublist_cons_self _ _))
end
end Go.SW
/- The calculus of SW: a pool: blocks that stay as they are, however many; what is read in them hangs on no world. Plain theorems. -/
set_option linter.unusedVariables false
set_option linter.unusedSimpArgs false
set_option maxRecDepth 100000
namespace Go.SW
open Go Go.RowKit
abbrev Pl := List (Nat × Obj)
def plO (pl : Pl) : Own := .grp (pl.map fun p => .obj p.1 p.2)
def objCell (o : Obj) (a : Addr) : Option Value := match o with | .cells c _ _ => if a.spot.isSome then none else c[a.off]? | _ => none
def pz (pl : Pl) : Zone := fun a => (pl.find? fun p => Nat.beq p.1 a.block).bind fun p => objCell p.2 a
theorem objCell_is {w : World} {a : Addr} {o : Obj} (h : w.heap[a.block]? = some o) : w.cell? a = objCell o a := by
  unfold World.cell? objCell
  rw [h]
  cases o <;> rfl
theorem plO_at {w : World} {pl : Pl} (h : (plO pl).at w) : ∀ p ∈ pl, w.heap[p.1]? = some p.2 := fun p hp => h (.obj p.1 p.2) (List.mem_map.2 ⟨p, hp, rfl⟩)
theorem plO_blk {pl : Pl} {g : Nat} : g ∈ (plO pl).blks ↔ ∃ p ∈ pl, p.1 = g := by
  show g ∈ blksOf (pl.map fun p => .obj p.1 p.2) ↔ _
  unfold blksOf
  rw [List.mem_flatMap]
  constructor
  · rintro ⟨o, ho, hg⟩
    obtain ⟨p, hp, rfl⟩ := List.mem_map.1 ho
    exact ⟨p, hp, (List.mem_singleton.1 hg).symm⟩
  · rintro ⟨p, hp, rfl⟩
    exact ⟨_, List.mem_map.2 ⟨p, hp, rfl⟩, List.mem_singleton.2 rfl⟩
theorem pz_find {pl : Pl} {a : Addr} {v : Value} (h : pz pl a = some v) : ∃ p ∈ pl, p.1 = a.block ∧ objCell p.2 a = some v := by
  obtain ⟨p, hp, h2⟩ := Option.bind_eq_some_iff.1 h
  exact ⟨p, List.mem_of_find?_eq_some hp, Nat.eq_of_beq_eq_true (List.find?_some (p := fun p : Nat × Obj => Nat.beq p.1 a.block) hp), h2⟩
theorem pz_in {w : World} {pl : Pl} (h : (plO pl).at w) : (pz pl).le w.cell? := by
  intro a v hv
  obtain ⟨p, hp, hb, h2⟩ := pz_find hv
  have := plO_at h p hp
  rw [hb] at this
  rw [objCell_is this]; exact h2
theorem pz_app (pl p2 : Pl) : (pz pl).le (pz (pl ++ p2)) := by
  intro a v hv
  obtain ⟨p, hp, h2⟩ := Option.bind_eq_some_iff.1 hv
  unfold pz
  rw [List.find?_append, hp]; exact h2
theorem pz_skip {pl p2 : Pl} {a : Addr} (h : ∀ p ∈ pl, p.1 ≠ a.block) : pz (pl ++ p2) a = pz p2 a := by
  unfold pz
  rw [List.find?_append, List.find?_eq_none.2 (fun p hp => by simpa using h p hp)]; rfl
section
variable {w w0 : World} {z : Zone} {F : List Nat} {mine os r : List Own}
theorem pz_le (hH : Hp w0 w z F os) (k : Nat) {pl : Pl} (hk : os[k]? = some (plO pl)) : (pz pl).le w.cell? := pz_in (hH.own _ (List.mem_of_getElem? hk))
theorem pz_off (hH : Hp w0 w z F (mine ++ os)) (k : Nat) {pl : Pl} (hk : os[k]? = some (plO pl)) : (pz pl).le (off w (blksOf mine)) := by
  have hm := List.mem_of_getElem? hk
  have hl := pz_in (hH.own _ (List.mem_append_right _ hm))
  intro a v hv
  obtain ⟨p, hp, hb, _⟩ := pz_find hv
  have hn := hH.nodup
  rw [blksOf_append] at hn
  have hnot : a.block ∉ blksOf mine := fun h => (List.nodup_append.1 hn).2.2 _ h _ (List.mem_flatMap.2 ⟨_, hm, plO_blk.2 ⟨p, hp, hb⟩⟩) rfl
  unfold off
  rw [if_neg hnot]
  exact hl a v hv
theorem Row.on {c c' : Zone} {g l cap m n : Nat} {xs : List Value} (h : Row c (.slice (some ⟨g, 0, none⟩) l cap) m n xs) (hc : ∀ a, a.block = g → ∀ v, c a = some v → c' a = some v) : Row c' (.slice (some ⟨g, 0, none⟩) l cap) m n xs := by
  obtain ⟨h0, A, cap', e, h1, h2, h3⟩ := h
  cases e
  refine ⟨h0, _, _, rfl, h1, h2, fun j u hu => ?_⟩
  obtain ⟨ad, e, hp⟩ := h3 j u hu
  cases e
  exact ⟨_, rfl, hc _ (by unfold Addr.add; split <;> rfl) _ hp⟩
theorem Hp.pool (h : Hp w0 w z F os) : Hp w0 w z F (os ++ [plO []]) := h.nogrp
theorem pl_add {v : Value} {e : TypeId} {m n : Nat} {xs : List Value} {pl : Pl} (h : Hp w0 w z F (.row v e m n xs :: plO pl :: r)) : ∃ p2, Row (pz (pl ++ p2)) v m n xs ∧ Hp w0 w z F (plO (pl ++ p2) :: r) := by
  have hr : w.ownsRow 0 e m v n xs := h.own _ List.mem_cons_self
  rcases hr.2 with ⟨rfl, rfl⟩ | ⟨g, cap, cur, rfl, hb, hg, hn, hm, hs, ht⟩
  · have : xs = [] := List.eq_nil_of_length_eq_zero (by simpa using hr.1)
    subst this
    refine ⟨[], Row.nil _ _, ?_⟩
    rw [List.append_nil]
    exact h.sublist (.cons _ (List.Sublist.refl _))
  · have hnd := h.nodup
    have hnot : ∀ p ∈ pl, p.1 ≠ g := fun p hp e => by
      have h2 := (List.nodup_append.1 (show ([g] ++ blksOf (plO pl :: r)).Nodup from hnd)).2.2 g (List.mem_singleton.2 rfl) g
      exact h2 (List.mem_flatMap.2 ⟨_, List.mem_cons_self, plO_blk.2 ⟨p, hp, e⟩⟩) rfl
    refine ⟨[(g, .cells cur e (0, 0))], ?_, ?_⟩
    · refine (Row.of_own hr).on fun a ha u hu => ?_
      rw [pz_skip (fun p hp => by rw [ha]; exact hnot p hp)]
      have hg2 : w.heap[a.block]? = some (.cells cur e (0, 0)) := by rw [ha]; exact hg
      rw [objCell_is hg2] at hu
      unfold pz
      simp only [List.find?_cons, ha, Nat.beq_refl]
      exact hu
    · have h1 : Hp w0 w z F (.obj g (.cells cur e (0, 0)) :: plO pl :: r) := h.weak rfl (fun _ => hg)
      have h2 := (h1.perm (List.Perm.swap _ _ _)).merge
      exact h2.cast (by simp [plO])
end
end Go.SW
/- The calculus of SW: a string made of a row's bytes, whatever of them is frozen already; a row as a block. Plain theorems. -/
set_option linter.unusedVariables false
set_option linter.unusedSimpArgs false
set_option maxRecDepth 100000
namespace Go.SW
open Go Go.RowKit
section
variable {P : Program} {n : Sh} {ops : Array Oper} {Q : Exit → Act → World → Prop} {i : Nat} {fr : Fr} {w w0 : World} {z : Zone} {F : List Nat} {os : List Own}
variable {K : Fr → World → Prop} {d : Option Tmp} {ty : TypeId} {pos : String} {aft : Array Edge} {g : Option (Nat × Bool)}
/-- The first cells of a block are these bytes. -/
structure Byts (cur : Array Value) (l : List UInt8) : Prop where
  at_ : ∀ (j : Nat) (x : UInt8), l[j]? = some x → cur[j]? = some (.int .u8 x.toNat)
  le : l.length ≤ cur.size
  max : l.length ≤ maxLen
theorem st_ustrO {pt it e : TypeId} {x y : Operand} (k : Nat) (hi : ops[i]? = some ⟨d, .call ⟨.builtin .unsafeString, #[x, y], #[pt, it]⟩, ty, pos, aft, g⟩) (hg : guardV ops fr ⟨d, .call ⟨.builtin .unsafeString, #[x, y], #[pt, it]⟩, ty, pos, aft, g⟩ = some true) (hs : (dok n d && knowns fr (.call ⟨.builtin .unsafeString, #[x, y], #[pt, it]⟩) && true) = true)
    (hp : P.underlying pt = some (.pointer e)) (hc : P.cellsOf e = 1) (hH : Hp w0 w z F os) {q : Nat} {l : List UInt8} (hx : ev fr x = .pointer (some ⟨q, 0, none⟩)) (hy : ev fr y = .int .i64 l.length) (h0 : l ≠ [])
    {cur : Array Value} {fz : Nat × Nat} (hk : os[k]? = some (.obj q (.cells cur e fz))) (hb : Byts cur l)
    (h : ∀ fz2 w', Hp w0 w' z F (os.set k (.obj q (.cells cur e fz2))) → K (pf fr d (.string (bs l))) w') : ST P n ops Q i K fr w := by
  have hq : w.heap[q]? = some (.cells cur e fz) := hH.own _ (List.mem_of_getElem? hk)
  have hl0 : l.length ≠ 0 := by simpa using h0
  have hsh : w.shape? q = some (e, cur.size) := by simp [World.shape?, hq]
  have hrun := Lib.run_unsafeString_row (P := P) w pt it ty e hp hc q cur.size hsh l h0 hb.le (by have := hb.max; unfold maxLen at this; omega) (fun j x hj => by
    rw [add_blk, objCell_is (a := ⟨q, 0 + j, none⟩) hq]
    simp only [objCell, Nat.zero_add]
    exact hb.at_ j x hj)
  refine st_run hi hg hs _ (w.freeze ⟨q, 0, none⟩ l.length) ?_ (h (if fz.1 == fz.2 then (0, 0 + l.length) else (min fz.1 0, max fz.2 (0 + l.length))) _ ?_)
  · simp [execOp, resolve, invoke, builtin, hx, hy, hrun, Result.andThen, bs]
  · have hz : (Own.obj q (.cells cur e (if fz.1 == fz.2 then (0, 0 + l.length) else (min fz.1 0, max fz.2 (0 + l.length))))).at (w.freeze ⟨q, 0, none⟩ l.length) := by
      show (w.freeze ⟨q, 0, none⟩ l.length).heap[q]? = _
      unfold World.freeze
      rw [if_neg hl0]
      simp only [Array.getElem?_modify, if_true, hq, Option.map_some]
    have hg2 : w.grownBy (w.freeze ⟨q, 0, none⟩ l.length) (some q) := by
      unfold World.freeze
      split
      · exact World.grownBy.refl _ _
      · refine ⟨rfl, rfl, rfl, by simp, fun k _ hk => ?_⟩
        simp only [Array.getElem?_modify]
        rw [if_neg (fun e => hk (by simp [e]))]
    exact hH.turn k hk (some q) (fun b hb => by cases hb; simp [Own.obj]) hg2 hz (fun b hb => .inl hb) (by simp [Own.obj])
theorem rowObj {v : Value} {e : TypeId} {l : List UInt8} {r : List Own} (h : Hp w0 w z F (.row v e 1 l.length (bv l) :: r)) (h0 : l ≠ []) : ∃ q cap cur, v = .slice (some ⟨q, 0, none⟩) l.length cap ∧ cap ≠ 0 ∧ Byts cur l ∧ Hp w0 w z F (.obj q (.cells cur e (0, 0)) :: r) := by
  have hr : w.ownsRow 0 e 1 v l.length (bv l) := h.own _ List.mem_cons_self
  have hl0 : l.length ≠ 0 := by simpa using h0
  rcases hr.2 with ⟨_, h1⟩ | ⟨g, cap, cur, rfl, hb, hg, hn, hm, hs, ht⟩
  · exact absurd h1 hl0
  · refine ⟨g, cap, cur, rfl, by omega, ⟨fun j x hj => ?_, by omega, by omega⟩, h.weak rfl (fun _ => hg)⟩
    have h1 := hr.cells (g := g) rfl j (.int .u8 x.toNat) (by simp [bv, hj])
    rw [add_blk, objCell_is (a := ⟨g, 0 + j, none⟩) hg] at h1
    rw [Nat.zero_add] at h1
    exact h1
end
end Go.SW
/- The calculus of SW: arrays of four words held against each other; a byte made a string. Plain theorems. -/
set_option linter.unusedVariables false
set_option linter.unusedSimpArgs false
set_option maxRecDepth 100000
namespace Go.SW
open Go Go.RowKit
section
variable {P : Program} {fr : Fr} {w : World} {d : Option Tmp} {ty : TypeId} {pos : String} {aft : Array Edge} {g : Option (Nat × Bool)}
theorem run_arr4 {t e : TypeId} (ht : arrT P t = some (4, e)) (hz : sizeT P e = some 1) (hs : scalarT P e = true) {k0 : IntKind} (he : P.underlying e = some (.int k0)) (n : Nat) {k : IntKind} (a b c f a' b' c' f' : Int) :
    (Op.equalIn (n + 2) t (.agg #[.int k a, .int k b, .int k c, .int k f]) (.agg #[.int k a', .int k b', .int k c', .int k f'])).run P w = .ok (a == a' && (b == b' && (c == c' && f == f'))) w := by
  have hu := underlying_of_arr ht
  have hsz : ∀ w, (sizeOf e).run P w = .ok 1 w := fun w => run_sizeOf_of hz
  rw [Op.equalIn]
  simp only [Sem.run_bind, run_underlying hu, Result.andThen_ok, hsz]
  simp only [Std.Legacy.Range.forIn_eq_forIn_range', Std.Legacy.Range.size, show (4 - 0 + 1 - 1) / 1 = 4 from rfl, show List.range' 0 4 1 = [0, 1, 2, 3] from rfl]
  have hp : ∀ (cs : Array Value) (o : Nat) (v : Value), cs[o]? = some v → ∀ w, (part e cs o).run P w = .ok v w := fun cs o v hv w => run_part_scalar hs cs o hv
  obtain ⟨B0, hB0⟩ : ∃ B : Bool, B = (a == a') := ⟨_, rfl⟩
  have r0 : ∀ w, (Op.equalIn (n + 1) e (.int k a) (.int k a')).run P w = .ok B0 w := fun w => by rw [hB0]; exact run_equalIn_int w n e k k0 a a' he
  obtain ⟨B1, hB1⟩ : ∃ B : Bool, B = (b == b') := ⟨_, rfl⟩
  have r1 : ∀ w, (Op.equalIn (n + 1) e (.int k b) (.int k b')).run P w = .ok B1 w := fun w => by rw [hB1]; exact run_equalIn_int w n e k k0 b b' he
  obtain ⟨B2, hB2⟩ : ∃ B : Bool, B = (c == c') := ⟨_, rfl⟩
  have r2 : ∀ w, (Op.equalIn (n + 1) e (.int k c) (.int k c')).run P w = .ok B2 w := fun w => by rw [hB2]; exact run_equalIn_int w n e k k0 c c' he
  obtain ⟨B3, hB3⟩ : ∃ B : Bool, B = (f == f') := ⟨_, rfl⟩
  have r3 : ∀ w, (Op.equalIn (n + 1) e (.int k f) (.int k f')).run P w = .ok B3 w := fun w => by rw [hB3]; exact run_equalIn_int w n e k k0 f f' he
  rw [← hB0, ← hB1, ← hB2, ← hB3]
  have p0 := hp #[.int k a, .int k b, .int k c, .int k f] 0 _ rfl
  have p1 := hp #[.int k a, .int k b, .int k c, .int k f] 1 _ rfl
  have p2 := hp #[.int k a, .int k b, .int k c, .int k f] 2 _ rfl
  have p3 := hp #[.int k a, .int k b, .int k c, .int k f] 3 _ rfl
  have q0 := hp #[.int k a', .int k b', .int k c', .int k f'] 0 _ rfl
  have q1 := hp #[.int k a', .int k b', .int k c', .int k f'] 1 _ rfl
  have q2 := hp #[.int k a', .int k b', .int k c', .int k f'] 2 _ rfl
  have q3 := hp #[.int k a', .int k b', .int k c', .int k f'] 3 _ rfl
  clear hB0 hB1 hB2 hB3
  cases B0 <;> cases B1 <;> cases B2 <;> cases B3 <;> simp [List.forIn_cons, p0, p1, p2, p3, q0, q1, q2, q3, r0, r1, r2, r3, Result.andThen]
theorem rd_arr4_eql {t t2 e : TypeId} {x y : Operand} (ht : arrT P t = some (4, e)) (hz : sizeT P e = some 1) (hs : scalarT P e = true) (hm : P.eqGuardType P.depth t = false) {k0 : IntKind} (he : P.underlying e = some (.int k0)) {k : IntKind} {a b c f a' b' c' f' : Int}
    (hx : ev fr x = .agg #[.int k a, .int k b, .int k c, .int k f]) (hy : ev fr y = .agg #[.int k a', .int k b', .int k c', .int k f']) : Runs P fr ⟨d, .binOp .eql t x y t2, ty, pos, aft, g⟩ (.bool (a == a' && (b == b' && (c == c' && f == f')))) w := by
  unfold Runs
  simp only [execOp, hx, hy, Sem.run_bind, run_eqGuard_agg w .eql t x y _ _ hm, Result.andThen_ok, run_eql_struct, run_arr4 ht hz hs he 9998, Sem.run_pure]
theorem rd_arr4_neq {t t2 e : TypeId} {x y : Operand} (ht : arrT P t = some (4, e)) (hz : sizeT P e = some 1) (hs : scalarT P e = true) (hm : P.eqGuardType P.depth t = false) {k0 : IntKind} (he : P.underlying e = some (.int k0)) {k : IntKind} {a b c f a' b' c' f' : Int}
    (hx : ev fr x = .agg #[.int k a, .int k b, .int k c, .int k f]) (hy : ev fr y = .agg #[.int k a', .int k b', .int k c', .int k f']) : Runs P fr ⟨d, .binOp .neq t x y t2, ty, pos, aft, g⟩ (.bool (!(a == a' && (b == b' && (c == c' && f == f'))))) w := by
  unfold Runs
  simp only [execOp, hx, hy, Sem.run_bind, run_eqGuard_agg w .neq t x y _ _ hm, Result.andThen_ok, run_neq_struct, run_arr4 ht hz hs he 9998, Sem.run_pure]
theorem rd_i2s {t t2 : TypeId} {x : Operand} {k : IntKind} {c : Nat} (hx : ev fr x = .int k (c : Nat)) (hc : c < 128) (hs : (P.underlying t).isSome = true) (hd : P.underlying t2 = some .string) : Runs P fr ⟨d, .convert t t2 x, ty, pos, aft, g⟩ (.string (bs [UInt8.ofNat c])) w := by
  have hr := run_convert_int_string (P := P) w t t2 k (c : Int) hs hd
  have he : Utf8.encode (c : Int) = bs [UInt8.ofNat c] := by
    have hv : Utf8.valid (c : Int) = true := by simp [Utf8.valid]; omega
    unfold Utf8.encode
    simp [hv, hc, bs]
  rw [he] at hr
  simp [Runs, execOp, hx, hr, Result.andThen]
end
end Go.SW
/- The calculus of SW: structs of three Bools held against each other. Plain theorems. -/
set_option linter.unusedVariables false
set_option linter.unusedSimpArgs false
set_option maxRecDepth 100000
namespace Go.SW
open Go Go.RowKit
section
variable {P : Program} {fr : Fr} {w : World} {d : Option Tmp} {ty : TypeId} {pos : String} {aft : Array Edge} {g : Option (Nat × Bool)}
def triT (P : Program) (t : TypeId) : Option TypeId :=
  match (P.fieldsOf t).toList with
  | [f, h, q] => if f.name == "_" || h.name == "_" || q.name == "_" || f.offset != 0 || h.offset != 1 || q.offset != 2 || h.type != f.type || q.type != f.type then none else some f.type
  | _ => none
theorem run_tri {t T0 : TypeId} (hu : P.underlying t = some (.struct (P.fieldsOf t))) (hp : P.stoodInHeld t = false) (hf : triT P t = some T0) (h0 : scalarT P T0 = true) (u0 : P.underlying T0 = some .bool)
    (n : Nat) (a b c a' b' c' : Bool) : (Op.equalIn (n + 2) t (.agg #[.bool a, .bool b, .bool c]) (.agg #[.bool a', .bool b', .bool c'])).run P w = .ok (a == a' && (b == b' && c == c')) w := by
  rw [run_equalIn_agg w (n + 1) t _ _ hu hp]
  unfold triT at hf
  split at hf
  · rename_i f h q hl
    split at hf
    · cases hf
    · rename_i hc
      simp only [Bool.or_eq_true, bne_iff_ne, ne_eq, beq_iff_eq, not_or, Decidable.not_not] at hc
      obtain ⟨⟨⟨⟨⟨⟨⟨c1, c2⟩, c3⟩, c4⟩, c5⟩, c6⟩, c7⟩, c8⟩ := hc
      cases hf
      rw [hl]
      have hb : ∀ x y : Bool, (Op.equalIn (n + 1) f.type (.bool x) (.bool y)).run P w = .ok (x == y) w := fun x y => by
        rw [Op.equalIn]
        simp only [Sem.run_bind, run_underlying u0, Result.andThen_ok]
        simp
      have p0 := run_part_scalar (w := w) h0 #[.bool a, .bool b, .bool c] 0 (v := .bool a) rfl
      have p1 := run_part_scalar (w := w) h0 #[.bool a, .bool b, .bool c] 1 (v := .bool b) rfl
      have p2 := run_part_scalar (w := w) h0 #[.bool a, .bool b, .bool c] 2 (v := .bool c) rfl
      have q0 := run_part_scalar (w := w) h0 #[.bool a', .bool b', .bool c'] 0 (v := .bool a') rfl
      have q1 := run_part_scalar (w := w) h0 #[.bool a', .bool b', .bool c'] 1 (v := .bool b') rfl
      have q2 := run_part_scalar (w := w) h0 #[.bool a', .bool b', .bool c'] 2 (v := .bool c') rfl
      have e0 := hb a a'
      have e1 := hb b b'
      have e2 := hb c c'
      obtain ⟨B0, hB0⟩ : ∃ B : Bool, B = (a == a') := ⟨_, rfl⟩
      obtain ⟨B1, hB1⟩ : ∃ B : Bool, B = (b == b') := ⟨_, rfl⟩
      obtain ⟨B2, hB2⟩ : ∃ B : Bool, B = (c == c') := ⟨_, rfl⟩
      rw [← hB0] at e0
      rw [← hB1] at e1
      rw [← hB2] at e2
      rw [← hB0, ← hB1, ← hB2]
      clear hB0 hB1 hB2
      cases B0 <;> cases B1 <;> cases B2 <;> simp [Op.eqFields, c1, c2, c3, c4, c5, c6, c7, c8, p0, p1, p2, q0, q1, q2, e0, e1, e2, Result.andThen]
  · cases hf
theorem rd_tri_neq {t t2 : TypeId} {x y : Operand} (T0 : TypeId) (hu : P.underlying t = some (.struct (P.fieldsOf t))) (hp : P.stoodInHeld t = false) (hm : P.eqGuardType P.depth t = false) (hf : triT P t = some T0) (h0 : scalarT P T0 = true) (u0 : P.underlying T0 = some .bool)
    {a b c a' b' c' : Bool} (hx : ev fr x = .agg #[.bool a, .bool b, .bool c]) (hy : ev fr y = .agg #[.bool a', .bool b', .bool c']) : Runs P fr ⟨d, .binOp .neq t x y t2, ty, pos, aft, g⟩ (.bool (!(a == a' && (b == b' && c == c')))) w := by
  unfold Runs
  simp only [execOp, hx, hy, Sem.run_bind, run_eqGuard_agg w .neq t x y _ _ hm, Result.andThen_ok, run_neq_struct, run_tri hu hp hf h0 u0 9998, Sem.run_pure]
end
end Go.SW
/- Errors by their numbers. -/
namespace Go.Proofs.YtllfpnbhjfadiaaGreatDoor
open Go.SW
abbrev errV (e : Nat) : Value := errW 50 e
end Go.Proofs.YtllfpnbhjfadiaaGreatDoor
/- Rows of whole numbers, as cells. Plain theorems. -/
namespace Go.Proofs.YtllfpnbhjfadiaaGreatDoor
open Go.SW
def iv (zs : List Int) : List Value := zs.map fun z => .int .i64 z
end Go.Proofs.YtllfpnbhjfadiaaGreatDoor
/- Layer 1 (wire): numbers in bytes. Plain mathematics. -/
set_option linter.unusedVariables false
namespace Go.Proofs.YtllfpnbhjfadiaaGreatDoor
open Go.SW
end Go.Proofs.YtllfpnbhjfadiaaGreatDoor
/- errors.As at an error of the kind *api.Fault and a target of that kind: what it answers and leaves; after the kit's worked example of errors.As. Plain theorems. -/
set_option maxRecDepth 100000
set_option linter.unusedVariables false
set_option linter.unusedSimpArgs false
namespace Go.Proofs.YtllfpnbhjfadiaaGreatDoor
open Go.RowKit Go.Extern.Stop Go.Stop Go.Extern Go.SW

abbrev hdl (t : Nat) : Value := .pointer (some ⟨12, t, none⟩)
abbrev errTy : Value := .iface 223 (.agg #[hdl 32])
theorem valueOfP (t : Addr) (w : World) : (ReflectliteValue.unpack (.iface 95 (.pointer (some t)))).run Tryz.prog w
    = .ok (.agg #[hdl 95, .pointer (some ⟨w.heap.size, 0, none⟩), .int .u64 150]) (w.alloc (.cells #[.pointer (some t)] 95)) := by kernel_rfl
theorem typeP (a : Addr) (w : World) : (ReflectliteValue.methodAny (ReflectliteValue.valueError "reflectlite.Value.Type" 0) (fun t _ _ _ => ReflectliteType.toType t) #[.agg #[hdl 95, .pointer (some a), .int .u64 150]]).run Tryz.prog w
    = .ok (.iface 223 (.agg #[hdl 95])) w := by kernel_rfl
theorem methodKind (h : Value) (w : World) : (Go.method 482 223 (.agg #[h]) "Kind").run Tryz.prog w = .ok (298, h) w := by kernel_rfl
theorem kindP (w : World) : ((ReflectliteType.abiMethod fun t => (fun a : Nat => Value.int IntKind.u8 (a : Int)) <$> Rtype.kind t) #[hdl 95]).run Tryz.prog w = .ok (.int .u8 22) w := by kernel_rfl
theorem kindE (w : World) : ((ReflectliteType.abiMethod fun t => (fun a : Nat => Value.int IntKind.u8 (a : Int)) <$> Rtype.kind t) #[hdl 94]).run Tryz.prog w = .ok (.int .u8 22) w := by kernel_rfl
theorem rlm (z : Sem Value) (f : TypeId → Addr → Nat → Nat → Sem Value) (v : Value) :
    ReflectliteValue.method z f #[v] = (do match ← ReflectliteValue.parts v with | none => z | some (t, a, fl) => f t a fl (fl % 32)) := rfl
theorem partsP (a : Addr) (w : World) : (ReflectliteValue.parts (.agg #[hdl 95, .pointer (some a), .int .u64 150])).run Tryz.prog w = .ok (some (95, a, 150)) w := by kernel_rfl
theorem isNilP (a p : Addr) (W : World) (ha : W.cell? a = some (.pointer (some p))) :
    (ReflectliteValue.method (ReflectliteValue.valueError "reflectlite.Value.IsNil" 0) ReflectliteValue.isNil #[.agg #[hdl 95, .pointer (some a), .int .u64 150]]).run Tryz.prog W = .ok (.bool false) W := by
  rw [rlm]
  simp only [Sem.run_bind, partsP, Result.andThen]
  simp [ReflectliteValue.isNil, loadVar, isAgg, underlying, Tryz.underlying95, ha, Result.andThen]
theorem methodElem (h : Value) (w : World) : (Go.method 482 223 (.agg #[h]) "Elem").run Tryz.prog w = .ok (311, .agg #[h]) w := by kernel_rfl
theorem methodImplements (h : Value) (w : World) : (Go.method 482 223 (.agg #[h]) "Implements").run Tryz.prog w = .ok (312, .agg #[h]) w := by kernel_rfl
theorem methodAssignableTo (h : Value) (w : World) : (Go.method 482 223 (.agg #[h]) "AssignableTo").run Tryz.prog w = .ok (309, .agg #[h]) w := by kernel_rfl
theorem elemP (w : World) : (ReflectliteType.method ReflectliteType.elem #[.agg #[hdl 95]]).run Tryz.prog w = .ok (.iface 223 (.agg #[hdl 94])) w := by kernel_rfl
theorem implementsE (w : World) : (ReflectliteType.relation "Implements" ReflectliteType.implements_ #[.agg #[hdl 94], errTy]).run Tryz.prog w = .ok (.bool true) w := by kernel_rfl
theorem typeOfE (v : Value) (w : World) : (ReflectliteType.typeOf #[.iface 94 v]).run Tryz.prog w = .ok (.iface 223 (.agg #[hdl 94])) w := by kernel_rfl
theorem assignableE (w : World) : (ReflectliteType.relation "AssignableTo" ReflectliteType.assignableTo #[.agg #[hdl 94], .iface 223 (.agg #[hdl 94])]).run Tryz.prog w = .ok (.bool true) w := by kernel_rfl
theorem valueOfE (e : Addr) (w : World) : (ReflectliteValue.unpack (.iface 94 (.pointer (some e)))).run Tryz.prog w
    = .ok (.agg #[hdl 94, .pointer (some ⟨w.heap.size, 0, none⟩), .int .u64 150]) (w.alloc (.cells #[.pointer (some e)] 94)) := by kernel_rfl
theorem elemOfP (w : World) : (Rtype.elem? 95).run Tryz.prog w = .ok (some 94) w := by kernel_rfl
theorem mkE (p : Addr) (w : World) : (ReflectliteValue.mk 94 p ReflectliteValue.flagAddr).run Tryz.prog w = .ok (.agg #[hdl 94, .pointer (some p), .int .u64 406]) w := by kernel_rfl
theorem elemVP (a p : Addr) (W : World) (ha : W.cell? a = some (.pointer (some p))) :
    (ReflectliteValue.method (ReflectliteValue.valueError "reflectlite.Value.Elem" 0) ReflectliteValue.elem #[.agg #[hdl 95, .pointer (some a), .int .u64 150]]).run Tryz.prog W
      = .ok (.agg #[hdl 94, .pointer (some p), .int .u64 406]) W := by
  rw [rlm]
  simp only [Sem.run_bind, partsP, Result.andThen]
  simp [ReflectliteValue.elem, loadVar, isAgg, underlying, Tryz.underlying95, ha, Result.andThen, elemOfP, mkE]
theorem rls (v x : Value) : ReflectliteValue.set #[v, x] = (do
    let (some (dst, a, fl), some (src, b, _)) := (← ReflectliteValue.parts v, ← ReflectliteValue.parts x)
      | unsupported (.noEntry "extern/(internal/reflectlite.Value).Set.zeroValue")
    if fl / ReflectliteValue.flagAddr % 2 == 0 then unsupported (.noEntry "extern/(internal/reflectlite.Value).Set.unaddressable")
    let val ← loadVar src b
    if ← Rtype.directlyAssignable dst src then storeVar dst a val
    else if ← Rtype.implements dst src then
      if (← Rtype.kind src) == 20 then
        match val with
        | .nilIface => unsupported (.noEntry "extern/reflectlite: a nil value of one interface type handed on as a value of another")
        | _ => storeVar dst a val
      else storeVar dst a (.iface src val)
    else panicString ("reflectlite.Set: value of type " ++ (← Rtype.spelt src) ++ " is not assignable to type " ++ (← Rtype.spelt dst))
    pure (.tuple #[])) := rfl
theorem partsEa (a : Addr) (w : World) : (ReflectliteValue.parts (.agg #[hdl 94, .pointer (some a), .int .u64 406])).run Tryz.prog w = .ok (some (94, a, 406)) w := by kernel_rfl
theorem partsE (a : Addr) (w : World) : (ReflectliteValue.parts (.agg #[hdl 94, .pointer (some a), .int .u64 150])).run Tryz.prog w = .ok (some (94, a, 150)) w := by kernel_rfl
theorem directE (w : World) : (Rtype.directlyAssignable 94 94).run Tryz.prog w = .ok true w := by kernel_rfl
theorem setE (ta b : Addr) (e : Addr) (old : Value) (W : World) (hb : W.cell? b = some (.pointer (some e))) (ht : W.cell? ta = some old) (hf : W.frozen? ta = false) :
    (ReflectliteValue.set #[.agg #[hdl 94, .pointer (some ta), .int .u64 406], .agg #[hdl 94, .pointer (some b), .int .u64 150]]).run Tryz.prog W
      = .ok (.tuple #[]) (W.setCell ta (.pointer (some e))) := by
  rw [rls]
  simp only [Sem.run_bind, partsEa, partsE, Result.andThen]
  simp [ReflectliteValue.flagAddr, loadVar, isAgg, underlying, Tryz.underlying94, hb, Result.andThen, directE, storeVar, Value.cells, storeCells, Addr.add]
  rw [run_store Tryz.prog W ta _ _ (by rfl)]
  simp [ht, hf]

set_option maxHeartbeats 8000000 in
theorem as_hit (e : Addr) (t : Addr) (old : Value) (w : World) (hg : w.cell? ⟨0, 0, none⟩ = some errTy) (ht0 : w.cell? t = some old) (hf0 : w.frozen? t = false) :
    Calls Tryz.prog 38 #[.iface 94 (.pointer (some e)), .iface 95 (.pointer (some t))] w fun ev w' => ev = .returned (.bool true) ∧ w' = ((((w.alloc (.cells #[.pointer (some t)] 95)).alloc (.cells #[hdl 95, .pointer (some ⟨w.heap.size, 0, none⟩), .int .u64 150] 158)).alloc (.cells #[hdl 95, .pointer (some ⟨w.heap.size, 0, none⟩), .int .u64 150] 158)).alloc (.cells #[.pointer (some e)] 94)).setCell t (.pointer (some e)) := by
  have h6 := @run_callFunc_extern Tryz.prog 77 _ (fun args => ReflectliteValue.unpack (args.getD 0 (.tuple #[]))) Tryz.func77 (by kernel_rfl) (by kernel_rfl) (by kernel_rfl) (by kernel_rfl)
  have h7 := @run_callFunc_extern Tryz.prog 78 _ (ReflectliteValue.methodAny (ReflectliteValue.valueError "reflectlite.Value.Type" 0) (fun t _ _ _ => ReflectliteType.toType t)) Tryz.func78 (by kernel_rfl) (by kernel_rfl) (by kernel_rfl) (by kernel_rfl)
  have h8 := @run_callFunc_extern Tryz.prog 79 _ (ReflectliteValue.method (ReflectliteValue.valueError "reflectlite.Value.IsNil" 0) ReflectliteValue.isNil) Tryz.func79 (by kernel_rfl) (by kernel_rfl) (by kernel_rfl) (by kernel_rfl)
  have h27 := @run_callFunc_extern Tryz.prog 298 _ (ReflectliteType.abiMethod fun t => do pure (.int .u8 (← Rtype.kind t))) Tryz.func298 (by kernel_rfl) (by kernel_rfl) (by kernel_rfl) (by kernel_rfl)
  have h37 := @run_callFunc_extern Tryz.prog 311 _ (ReflectliteType.method ReflectliteType.elem) Tryz.func311 (by kernel_rfl) (by kernel_rfl) (by kernel_rfl) (by kernel_rfl)
  have h38 := @run_callFunc_extern Tryz.prog 312 _ (ReflectliteType.relation "Implements" ReflectliteType.implements_) Tryz.func312 (by kernel_rfl) (by kernel_rfl) (by kernel_rfl) (by kernel_rfl)
  have h10 := @run_callFunc_extern Tryz.prog 130 _ ReflectliteType.typeOf Tryz.func130 (by kernel_rfl) (by kernel_rfl) (by kernel_rfl) (by kernel_rfl)
  have h35 := @run_callFunc_extern Tryz.prog 309 _ (ReflectliteType.relation "AssignableTo" ReflectliteType.assignableTo) Tryz.func309 (by kernel_rfl) (by kernel_rfl) (by kernel_rfl) (by kernel_rfl)
  have h11 := @run_callFunc_extern Tryz.prog 131 _ (ReflectliteValue.method (ReflectliteValue.valueError "reflectlite.Value.Elem" 0) ReflectliteValue.elem) Tryz.func131 (by kernel_rfl) (by kernel_rfl) (by kernel_rfl) (by kernel_rfl)
  have h12 := @run_callFunc_extern Tryz.prog 132 _ ReflectliteValue.set Tryz.func132 (by kernel_rfl) (by kernel_rfl) (by kernel_rfl) (by kernel_rfl)
  have tO := typeOfE
  have mA := methodAssignableTo
  have a25 := assignableE
  have v25 := valueOfE
  have f6 := valueOfP
  have f7 := typeP
  have mK := methodKind
  have mE := methodElem
  have mI := methodImplements
  have k27 := kindP
  have k25 := kindE
  have e27 := elemP
  have i25 := implementsE
  have n8 := isNilP ⟨w.heap.size, 0, none⟩ t ((w.alloc (.cells #[.pointer (some t)] 95)).alloc (.cells #[hdl 95, .pointer (some ⟨w.heap.size, 0, none⟩), .int .u64 150] 158)) (by simp)
  have hlt : 0 < w.heap.size := by
    rcases Nat.eq_zero_or_pos w.heap.size with h0 | h
    · simp [World.cell?, h0] at hg
    · exact h
  have hg2 : ((w.alloc (.cells #[.pointer (some t)] 95)).alloc (.cells #[hdl 95, .pointer (some ⟨w.heap.size, 0, none⟩), .int .u64 150] 158)).cell? ⟨0, 0, none⟩ = some errTy := by
    rw [World.cell?_alloc_lt _ _ ⟨0, 0, none⟩ (by simp), World.cell?_alloc_lt _ _ ⟨0, 0, none⟩ hlt]; exact hg
  have htl : t.block < w.heap.size := by
    rcases Nat.lt_or_ge t.block w.heap.size with h | h
    · exact h
    · simp [World.cell?, Array.getElem?_eq_none h] at ht0
  have el := elemVP ⟨w.heap.size, 0, none⟩ t (((w.alloc (.cells #[.pointer (some t)] 95)).alloc (.cells #[hdl 95, .pointer (some ⟨w.heap.size, 0, none⟩), .int .u64 150] 158)).alloc (.cells #[hdl 95, .pointer (some ⟨w.heap.size, 0, none⟩), .int .u64 150] 158)) (by rw [World.cell?_alloc_lt _ _ ⟨w.heap.size, 0, none⟩ (by simp; omega)]; simp)
  have st := setE t ⟨w.heap.size + 1 + 1 + 1, 0, none⟩ e old ((((w.alloc (.cells #[.pointer (some t)] 95)).alloc (.cells #[hdl 95, .pointer (some ⟨w.heap.size, 0, none⟩), .int .u64 150] 158)).alloc (.cells #[hdl 95, .pointer (some ⟨w.heap.size, 0, none⟩), .int .u64 150] 158)).alloc (.cells #[.pointer (some e)] 94))
    (by rw [World.cell?_alloc_at _ _ _ _ (by simp)]; rfl)
    (by rw [World.cell?_alloc_lt _ _ t (by simp; omega), World.cell?_alloc_lt _ _ t (by simp; omega), World.cell?_alloc_lt _ _ t (by simp; omega), World.cell?_alloc_lt _ _ t htl]; exact ht0)
    (by rw [World.frozen?_alloc_old _ _ t (by simp; omega), World.frozen?_alloc_old _ _ t (by simp; omega), World.frozen?_alloc_old _ _ t (by simp; omega), World.frozen?_alloc_old _ _ t (Nat.ne_of_lt htl)]; exact hf0)
  go_enter Tryz.func38, Tryz.ntmps38
  go_wp2
  refine wp_loop_rounds 1 ?_
  rw [rounds_succ]
  go_wp2
  go_ret
  exact ⟨rfl, rfl⟩
theorem As_ct (e : Addr) (b : Nat) (w : World) (hM : Mine w [.blk b 94 [.pointer none]]) (hg : off w (blksOf [.blk b 94 [.pointer none]]) ⟨0, 0, none⟩ = some errTy) :
    Fun Tryz.prog 38 [.iface 94 (.pointer (some e)), .iface 95 (.pointer (some ⟨b, 0, none⟩))] w fun v w' => v = .bool true ∧ Turn w w' [.blk b 94 [.pointer none]] [.blk b 94 [.pointer (some e)]] := by
  have hH := Hp.start_mine hM
  have h := as_hit e ⟨b, 0, none⟩ (.pointer none) w (off_le _ _ _ _ hg) (hH.blk_cell 0 rfl rfl) (hH.blk_free 0 rfl 0)
  refine Calls.mono h ?_
  rintro ev w' ⟨rfl, rfl⟩
  refine ⟨_, rfl, rfl, ?_⟩
  have h1 := hH.call (Fresh.alloc w [.pointer (some ⟨b, 0, none⟩)] 95)
  have h2 := h1.call (Fresh.alloc _ [hdl 95, .pointer (some ⟨w.heap.size, 0, none⟩), .int .u64 150] 158)
  have h3 := h2.call (Fresh.alloc _ [hdl 95, .pointer (some ⟨w.heap.size, 0, none⟩), .int .u64 150] 158)
  have h4 := h3.call (Fresh.alloc _ [.pointer (some e)] 94)
  have h5 := h4.blk_set 0 rfl 0 (.pointer (some e))
  exact (h5.sublist (.cons_cons _ (List.nil_sublist _))).turned
end Go.Proofs.YtllfpnbhjfadiaaGreatDoor
/- How a law's arguments are opened (bytes, snapshots, whole numbers), what the row lists (errors.errorType), and how a walk that turns nothing closes a row. -/
set_option linter.unusedVariables false
set_option maxRecDepth 100000
namespace Go.Proofs.YtllfpnbhjfadiaaGreatDoor
open Go.ChangeShapes Go.WideShapes Go.RowKit Go.SW
theorem ownP : ownKnob Tryz.prog.godebug = none := by kernel_rfl
theorem etP : Tryz.prog.globalNamed "errors.errorType" = some 0 := by kernel_rfl
theorem rtP : (Tryz.prog.cutTypes.find? (·.1 == "internal/reflectlite.rtype")).map (·.2) = some 223 := by kernel_rfl
theorem oneRowP : ((List.range 382).filter fun t => Tryz.prog.rowNamed t [101, 114, 114, 111, 114]) = [32] := by kernel_rfl
theorem sizeP : Tryz.prog.types.size = 382 := by kernel_rfl
def laidL {H : Type} : List (String × DataW H) := [("errors.errorType", Rows.laid_errors_errorType)]
theorem handle_of_laid {W : World} (h : laidMetH Tryz.prog laidL W) : W.cell? ⟨0, 0, none⟩ = some errTy := by
  have h' : laidMet Tryz.prog [] W ∧ handlesMet Tryz.prog laidL W := h
  obtain ⟨name, u, ty, e1, e2, e3, e4, e5⟩ := h'.2 _ (List.mem_singleton.2 rfl)
  have en : name = [101, 114, 114, 111, 114] := (Option.some.inj e1).symm
  subst en
  obtain rfl := Option.some.inj (rtP.symm.trans e2)
  have hm : ty ∈ (List.range 382).filter fun t => Tryz.prog.rowNamed t [101, 114, 114, 111, 114] := List.mem_filter.2 ⟨List.mem_range.2 (by rw [← sizeP]; exact e3), e4⟩
  rw [oneRowP] at hm
  obtain rfl := List.mem_singleton.1 hm
  have hh : typeHandle Tryz.prog 32 = hdl 32 := by kernel_rfl
  rw [hh] at e5
  simpa using World.var?_cell etP e5 0
section
variable {H : Type} {enc : TypeId × Value → H} {P : Program} {w : World} {base : Nat} {spare : Nat → Bool} {held : Bool}
theorem struct_parts {t : TypeId} {fuel : Nat} {cs : List Value} {x : DataW H × List MemPlace} (ht : P.underlying t = some (.struct (P.fieldsOf t))) (types : List (TypeId × Nat)) (hf : (P.fieldsOf t).toList.map (fun f => (f.type, f.offset)) = types)
    (h : DataW.trod enc P w base spare held fuel t cs = some x) :
    ∃ (xs : List (DataW H × List MemPlace)) (n : Nat), x = (.agg (xs.map (·.1)), xs.flatMap (·.2)) ∧ cs.length = P.cellsOf t ∧ xs.length = types.length ∧ ∀ (i : Nat) ty o, types[i]? = some (ty, o) → DataW.trod enc P w base spare held n ty ((cs.drop o).take (P.cellsOf ty)) = xs[i]? := by
  obtain ⟨xs, n, _, rfl, hl, hlen, hf'⟩ := DataW.trod_struct ht h
  refine ⟨xs, n, rfl, hl, by rw [hlen, ← hf]; simp, fun i ty o hi => ?_⟩
  rw [← hf, List.getElem?_map] at hi
  cases hq : (P.fieldsOf t).toList[i]? with
  | none => rw [hq] at hi; cases hi
  | some f =>
    rw [hq] at hi
    cases hi
    exact hf' i f (by simpa using hq)
end
theorem uInt : Tryz.prog.underlying 3 = some (.int .i64) := by kernel_rfl
theorem uBool : Tryz.prog.underlying 4 = some .bool := by kernel_rfl
theorem cInt : Tryz.prog.cellsOf 3 = 1 := by kernel_rfl
theorem laidOutP : laidOutB Tryz.prog = true := by kernel_rfl
section
variable {H : Type} {enc : TypeId × Value → H} {w : World} {base : Nat} {spare : Nat → Bool} {held : Bool}
theorem wf_i64 {n : Int} (h : (Lit.int .i64 n).wf = true) : -9223372036854775808 ≤ n ∧ n ≤ 9223372036854775807 := by
  have e1 : IntKind.i64.min = -9223372036854775808 := by decide
  have e2 : IntKind.i64.max = 9223372036854775807 := by decide
  simpa only [Lit.wf, e1, e2, Bool.and_eq_true, decide_eq_true_eq] using h
theorem all_stays {P : Program} (hlo : laidOutB P = true) {W W' : World} (hb : Below W.heap.size W W') : ∀ (ts : List TypeId) (vs : List Value) (ds : List (DataW H)) (ps : List MemPlace), (ts.all fun t => P.readableRec t && decide (t < P.types.size)) = true →
    DataW.TrodAll enc P W 0 (fun _ => true) true ts vs ds ps → (∀ x ∈ ps, x.block < W.heap.size) → ∃ qs, DataW.TrodAll enc P W' 0 (fun b => decide (b < W.heap.size)) true ts vs ds qs
  | [], vs, ds, ps, _, h, _ => by
    obtain ⟨rfl, rfl, rfl⟩ := trodAll_nil h
    exact ⟨[], trodAll_mk0⟩
  | t :: ts, vs, ds, ps, ht, h, hlt => by
    obtain ⟨v, vs', d, ds', p, p', rfl, rfl, rfl, h1, h2⟩ := trodAll_cons h
    simp only [List.all_cons, Bool.and_eq_true, decide_eq_true_eq] at ht
    obtain ⟨qs, hq⟩ := all_stays hlo hb ts vs' ds' p' ht.2 h2 (fun x hx => hlt x (List.mem_append_right _ hx))
    have h1' := Below.trod hlo ht.1.1 ht.1.2 h1 hb (fun x hx => hlt x (List.mem_append_left _ hx))
    exact ⟨_, trodAll_cons_mk h1' hq⟩
theorem post_true {s : ChangeSpec} {fn : Func} (hv : s.vars = []) (hr : fn.resultTypes = #[4]) (hp : (fn.params.toList.all fun t => Tryz.prog.readableRec t && decide (t < Tryz.prog.types.size)) = true)
    {W W' : World} {args : Array Value} {ds gs : List (DataW H)} {before : List MemPlace} (hW : DataW.Whole enc Tryz.prog fn.params.toList s.vars false W args.toList ds gs before)
    (hfn : s.fn H (ds ++ gs) = { results := [.lit (.bool true)], args := ds }) (hb : Below W.heap.size W W') : s.post enc Tryz.prog fn false true false false W args (.bool true) W' := by
  have hW' := hW
  obtain ⟨p, q, hA, hV, rfl, hfz, hnd⟩ := hW
  have hlt : ∀ x ∈ p, x.block < W.heap.size := fun x hx => hW'.lt x (List.mem_append_left _ hx)
  obtain ⟨qs, hq⟩ := all_stays laidOutP hb _ _ _ _ hp hA hlt
  refine ⟨ds, gs, _, [], qs, [], hW', ?_, ?_, ?_, hb.frame _, fun h => by cases h⟩
  · rw [hfn, hr]; exact trodAll_mk1 (shut_bool uBool true)
  · rw [hfn]; exact hq
  · rw [hfn, hv]; rfl
end
end Go.Proofs.YtllfpnbhjfadiaaGreatDoor
/- How a row of structs (or of rows) among a law's arguments is opened, element by element. -/
set_option linter.unusedVariables false
set_option maxRecDepth 100000
namespace Go.Proofs.YtllfpnbhjfadiaaGreatDoor
open Go.ChangeShapes Go.WideShapes Go.RowKit Go.SW
section
variable {H : Type} {enc : TypeId × Value → H} {P : Program} {w : World} {base : Nat} {spare : Nat → Bool} {held : Bool}
end
end Go.Proofs.YtllfpnbhjfadiaaGreatDoor
/- How the arguments of a law of the second form are opened: what their bulk bounds. -/
set_option linter.unusedVariables false
set_option maxRecDepth 100000
namespace Go.Proofs.YtllfpnbhjfadiaaGreatDoor
open Go.ChangeShapes Go.WideShapes Go.RowKit Go.SW
section
variable {H : Type}
theorem bk_one (d : DataW H) : 1 ≤ Rows.uptoBulk d := by
  cases d with
  | lit l => cases l <;> simp [Rows.uptoBulk]
  | _ => simp [Rows.uptoBulk]
theorem bk_part : ∀ {l : List (DataW H)} {i : Nat} {d : DataW H}, l[i]? = some d → Rows.uptoBulk d ≤ Rows.uptoBulkAll l
  | [], i, d, h => by simp at h
  | x :: l, 0, d, h => by
    simp only [List.getElem?_cons_zero, Option.some.injEq] at h
    subst h
    simp only [Rows.uptoBulkAll]; omega
  | x :: l, i + 1, d, h => by
    have := bk_part (l := l) (i := i) (d := d) (by simpa using h)
    simp only [Rows.uptoBulkAll]; omega
variable {enc : TypeId × Value → H} {P : Program} {w : World} {base : Nat} {spare : Nat → Bool} {held : Bool}
theorem open_strU {t : TypeId} {fuel : Nat} {cs : List Value} {x : DataW H × List MemPlace} (ht : P.underlying t = some .string) (h : DataW.trod enc P w base spare held fuel t cs = some x) : ∃ l : List UInt8, cs = [.string (bs l)] ∧ l.length + 1 = Rows.uptoBulk x.1 ∧ l.length ≤ maxLen := by
  obtain ⟨s, rfl, rfl, hs⟩ := DataW.trod_string ht h
  refine ⟨s.data.toList, rfl, ?_, by simpa using hs⟩
  simp [Rows.uptoBulk]
theorem open_rowU {t e : TypeId} {m fuel : Nat} {cs : List Value} {x : DataW H × List MemPlace} (ht : P.underlying t = some (.slice e)) (hm : P.cellsOf e = m) (h : DataW.trod enc P w base spare held fuel t cs = some x) :
    ∃ (v : Value) (L : List (List Value)) (ys : List (DataW H)), cs = [v] ∧ Row w.cell? v m L.length L.flatten ∧ (∀ c ∈ L, c.length = m) ∧ L.length = ys.length ∧
      (∀ (i : Nat) c, L[i]? = some c → ∃ fuel' y, ys[i]? = some y.1 ∧ DataW.trod enc P w base spare held fuel' e c = some y) ∧ Rows.uptoBulkAll ys + 1 ≤ Rows.uptoBulk x.1 := by
  rcases DataW.trod_slice ht h with ⟨rfl, rfl⟩ | ⟨a, len, cap, elems, rest, n, _, rfl, rfl, hb, hl, hmx, hlen, hel, hsp, hns⟩
  · exact ⟨_, [], [], rfl, Row.nil _ _, by simp, rfl, by simp, bk_one _⟩
  have hsome : ∀ i, i < len → ∃ c y, w.cells? base (a.add (i * m)) m = some c ∧ elems[i]? = some y ∧ DataW.trod enc P w base spare held n e c = some y := by
    intro i hi
    have h1 := hel i hi
    rw [hm, List.getElem?_eq_getElem (show i < elems.length by omega), Option.bind_eq_some_iff] at h1
    obtain ⟨c, h2, h3⟩ := h1
    exact ⟨c, _, h2, List.getElem?_eq_getElem (show i < elems.length by omega), h3⟩
  let L := (List.range len).map fun i => (w.cells? base (a.add (i * m)) m).getD []
  have hL : ∀ i, i < len → ∃ c y, L[i]? = some c ∧ w.cells? base (a.add (i * m)) m = some c ∧ elems[i]? = some y ∧ DataW.trod enc P w base spare held n e c = some y := by
    intro i hi
    obtain ⟨c, y, h1, h2, h3⟩ := hsome i hi
    exact ⟨c, y, by simp [L, hi, h1], h1, h2, h3⟩
  have hLl : L.length = len := by simp [L]
  have hlens : ∀ c ∈ L, c.length = m := fun c hc => by
    obtain ⟨i, hi⟩ := List.getElem?_of_mem hc
    have hil : i < len := by have := (List.getElem?_eq_some_iff.1 hi).1; omega
    obtain ⟨c', y, h0, h1, h2, h3⟩ := hL i hil
    rw [hi] at h0; cases h0
    exact (World.cells?_some h1).2.1
  refine ⟨_, L, elems.map (·.1), rfl, ⟨flat_len L m hlens, some a, cap, by rw [hLl], by omega, hmx, fun j u hu => ⟨a, rfl, ?_⟩⟩, hlens, by rw [hLl, List.length_map, hlen], fun i c hi => ?_, ?_⟩
  · have hj : j < L.length * m := by rw [← flat_len L m hlens]; exact (List.getElem?_eq_some_iff.1 hu).1
    have hm0 : 0 < m := by
      rcases Nat.eq_zero_or_pos m with h0 | h0
      · rw [h0] at hj; omega
      · exact h0
    have hi : j / m < len := by rw [← hLl]; exact (Nat.div_lt_iff_lt_mul hm0).2 hj
    have hq : j % m < m := Nat.mod_lt _ hm0
    obtain ⟨c, y, h0, h1, _, _⟩ := hL _ hi
    have hf := flat_get L m hlens (j / m) (j % m) c h0 hq
    have ej : j / m * m + j % m = j := by rw [Nat.mul_comm]; exact Nat.div_add_mod j m
    rw [ej, hu] at hf
    have h2 := (World.cells?_some h1).2.2 (j % m) hq
    rw [← hf, add_add, ej] at h2
    exact h2
  · have hil : i < len := by have := (List.getElem?_eq_some_iff.1 hi).1; omega
    obtain ⟨c', y, h0, h1, h2, h3⟩ := hL i hil
    rw [hi] at h0; cases h0
    exact ⟨n, y, by rw [List.getElem?_map, h2]; rfl, h3⟩
  · simp only [Rows.uptoBulk]; omega
theorem rows_choose {β : Type} {f : β → List Value} {Q : β → Prop} {g : β → Nat} : ∀ (L : List (List Value)) (ys : List (DataW H)), L.length = ys.length → (∀ (i : Nat) c, L[i]? = some c → ∃ y b, ys[i]? = some y ∧ c = f b ∧ Q b ∧ g b ≤ Rows.uptoBulk y) →
    ∃ bs : List β, L = bs.map f ∧ (∀ b ∈ bs, Q b) ∧ (bs.map g).sum ≤ Rows.uptoBulkAll ys
  | [], ys, _, _ => ⟨[], rfl, by simp, Nat.zero_le _⟩
  | c :: L, [], h, _ => by simp at h
  | c :: L, y :: ys, hl, h => by
    obtain ⟨y0, b, e0, e1, hq, hg⟩ := h 0 c rfl
    cases e0
    obtain ⟨bs, e2, hQ, hs⟩ := rows_choose L ys (by simpa using hl) (fun i c hi => h (i + 1) c (by simpa using hi))
    refine ⟨b :: bs, by rw [e1, e2]; rfl, fun x hx => ?_, ?_⟩
    · rcases List.mem_cons.1 hx with rfl | hx
      · exact hq
      · exact hQ x hx
    · simp only [List.map_cons, List.sum_cons, Rows.uptoBulkAll]; omega
end
theorem uStr : Tryz.prog.underlying 9 = some .string := by kernel_rfl
theorem cStr : Tryz.prog.cellsOf 9 = 1 := by kernel_rfl
section
variable {H : Type} {enc : TypeId × Value → H} {w : World} {base : Nat} {spare : Nat → Bool} {held : Bool} {r : Reach} {b0 : Nat} {v : Value} {d : DataW H} {pl : List MemPlace}
end
end Go.Proofs.YtllfpnbhjfadiaaGreatDoor
/- Names (layer 3): what the program and the document call a name: what their functions answer. -/
set_option maxRecDepth 100000
set_option maxHeartbeats 2000000
set_option linter.unusedVariables false
set_option linter.unusedSimpArgs false
namespace Go.Proofs.YtllfpnbhjfadiaaGreatDoor
open Go.RowKit Go.SW
def letN (c : Nat) : Bool := decide (65 ≤ c ∧ c ≤ 90 ∨ 97 ≤ c ∧ c ≤ 122 ∨ c = 95)
def digN (c : Nat) : Bool := decide (48 ≤ c ∧ c ≤ 57)
theorem or32 : ∀ c : Nat, c < 256 → ((97 ≤ c ||| 32 ∧ c ||| 32 ≤ 122) ↔ (65 ≤ c ∧ c ≤ 90 ∨ 97 ≤ c ∧ c ≤ 122)) := of_decide_eq_true (by kernel_rfl)
def okN (l : List UInt8) (i : Nat) : Bool := letN (gb l i) || (i != 0 && digN (gb l i))
def nameN (l : List UInt8) : Nat := ((List.range l.length).find? fun i => !okN l i).getD l.length
theorem nameN_some {l : List UInt8} {i : Nat} (hi : i < l.length) (hb : ∀ j : Nat, j < i → okN l j = true) (hn : okN l i = false) : nameN l = i := by
  unfold nameN
  rw [List.find?_range_eq_some.2 ⟨by simp [hn], List.mem_range.2 hi, fun j hj => by simp [hb j hj]⟩]; rfl
theorem nameN_none {l : List UInt8} (hb : ∀ j : Nat, j < l.length → okN l j = true) : nameN l = l.length := by
  unfold nameN
  rw [List.find?_range_eq_none.2 (fun j hj => by simp [hb j hj])]; rfl
def nameB (l : List UInt8) : Bool := decide (nameN l = l.length ∧ 1 ≤ l.length ∧ l.length ≤ 32)
theorem ok_not {l : List UInt8} {i : Nat} (h : letN (gb l i) = false) (h2 : i = 0 ∨ digN (gb l i) = false) : okN l i = false := by
  unfold okN
  rw [h, Bool.false_or]
  rcases h2 with rfl | h2
  · rfl
  · rw [h2, Bool.and_false]
theorem ok_dig {l : List UInt8} {i : Nat} (h : i ≠ 0) (h2 : digN (gb l i) = true) : okN l i = true := by
  unfold okN
  rw [h2, show (i != 0) = true from by simpa using h]; simp
theorem ok_let {l : List UInt8} {i : Nat} (h : letN (gb l i) = true) : okN l i = true := by unfold okN; rw [h, Bool.true_or]
theorem all_next {p : Nat → Bool} {i : Nat} (h : ∀ j : Nat, j < i → p j = true) (hi : p i = true) : ∀ j : Nat, j < i + 1 → p j = true := fun j hj => (Nat.lt_succ_iff_lt_or_eq.1 hj).elim (h j) (fun e => e ▸ hi)

theorem Letter_ct (c : Nat) (w : World) (hc : c < 256) :
    Fun Tryz.prog 164 [.int .u8 (c : Nat)] w fun v w' => v = .bool (letN c) ∧ Fresh w w' [] := by
 have hor := or32 c hc
 refine fun_of_sw Tryz.func164 rfl 15 rfl rfl ?_
 have hH := Hp.start w
 refine sw_sr <| Go0 1 <| Dn <| sw_sr <| Gc0 2 4 _ (.int .u8 ((c ||| 32 : Nat) : Int)) (cv_or_u8 (by omega) (by omega)) <| Go1 2 6 (.bool (decide ((97 : Int) ≤ ((c ||| 32 : Nat) : Int)))) <| Gi 6 rfl (fun hg1 => ?_) (fun hg1 => ?_)
 refine Gc0 2 8 _ (.int .u8 ((c ||| 32 : Nat) : Int)) (cv_or_u8 (by omega) (by omega)) <| Go1 3 11 (.bool (decide (((c ||| 32 : Nat) : Int) ≤ (122 : Int)))) <| Gi 11 rfl (fun hg2 => ?_) (fun hg2 => ?_)
 refine Go1 4 2 (.bool true) <| Dn <| Rt1 rfl rfl ?_
 generalize c ||| 32 = q at *
 exact ⟨by congr 1; rw [Bool.eq_iff_iff]; simp [letN] <;> omega, (hH.sb sln).fresh⟩
 refine Go1 4 2 (.bool ((c : Int) == (95 : Int))) <| Dn <| Rt1 rfl rfl ?_
 generalize c ||| 32 = q at *
 exact ⟨by congr 1; rw [Bool.eq_iff_iff]; simp [letN] <;> omega, (hH.sb sln).fresh⟩
 refine Go1 9 2 (.bool ((c : Int) == (95 : Int))) <| Dn <| Rt1 rfl rfl ?_
 generalize c ||| 32 = q at *
 exact ⟨by congr 1; rw [Bool.eq_iff_iff]; simp [letN] <;> omega, (hH.sb sln).fresh⟩
theorem Digit_ct (c : Nat) (w : World) (hc : c < 256) :
    Fun Tryz.prog 165 [.int .u8 (c : Nat)] w fun v w' => v = .bool (digN c) ∧ Fresh w w' [] := by
 refine fun_of_sw Tryz.func165 rfl 9 rfl rfl ?_
 have hH := Hp.start w
 refine sw_sr <| Go0 1 <| Dn <| sw_sr <| Go1 3 5 (.bool (decide ((48 : Int) ≤ (c : Int)))) <| Gi 5 rfl (fun hg1 => ?_) (fun hg1 => ?_)
 refine Go1 4 2 (.bool (decide ((c : Int) ≤ (57 : Int)))) <| Dn <| Rt1 rfl rfl ?_
 exact ⟨by congr 1; rw [Bool.eq_iff_iff]; simp [digN] <;> omega, (hH.sb sln).fresh⟩
 refine Go1 4 2 (.bool false) <| Dn <| Rt1 rfl rfl ?_
 exact ⟨by congr 1; rw [Bool.eq_iff_iff]; simp [digN] <;> omega, (hH.sb sln).fresh⟩
theorem LexName0_ct (s : List UInt8) (w : World) (hs : s.length ≤ 140737488355328) :
    Fun Tryz.prog 137 [.string (bs s)] w fun v w' => v = .int .i64 ((nameN s : Nat) : Int) ∧ Fresh w w' [] := by
 refine fun_of_sw Tryz.func137 rfl 29 rfl rfl ?_
 have hH := Hp.start w
 refine sw_sr <| Go0 1 <| Dn <| sw_seq <| sw_sr <| Gc0 2 5 (.int .i64 (((bs s).size : Nat) : Int)) (Ni s.length) (by rw [bs_size]) <| Go1 1 6 (.int .i64 0) <| Dn <| sw_block <| Lp (γ := Nat) hH (fun i => [(0, .string (bs s)), (5, Ni s.length), (6, Ni i)]) (fun i w_ H_ => (i ≤ s.length) ∧ (∀ j : Nat, j < i → okN s j = true) ∧ H_ []) (fun i => s.length - i) (0) ?_ ?_
 · exact ⟨by omega, fun j hj => absurd hj (by omega), hH⟩
 clear hH
 rintro i w1 ⟨hi, hall, hH⟩
 refine swk [(0, .string (bs s)), (5, Ni s.length), (6, Ni i)] <| sw_sr <| Go1 1 7 (.bool (decide ((i : Int) < ((s.length : Nat) : Int)))) <| Dn <| sw_seq <| If rfl (fun hc1 => ?_) (fun hc1 => ?_)
 refine Sk <| sw_seq <| sw_block <| sw_sr <| Go1 2 3 (Ni i) <| Dn <| sw_sr <| Go2 2 9 (.string (bs s)) 10 (Ni i) <| Gq rfl (rd_sidx (by kernel_rfl) rfl i rfl (by omega)) <| gl_st (Sc rfl rfl (Letter_ct (gb s i) _ (gb_lt _ _)) ?_)
 rintro _ w2 ⟨rfl, hF3⟩
 replace hH := hH.call hF3
 refine Go1 2 14 (.bool (!(letN (gb s i)))) <| Gi 14 rfl (fun hg2 => ?_) (fun hg2 => ?_)
 have hL0 := hg2
 refine Go1 3 17 (.bool ((i : Int) == (0 : Int))) <| Gi 17 rfl (fun hg3 => ?_) (fun hg3 => ?_)
 have hZ0 := hg3
 refine Go1 7 24 (.bool true) <| Dn <| It <| sw_sr <| Go1 2 2 (Ni i) <| Dn <| Rt1 rfl rfl ?_
 exact ⟨by rw [nameN_some (by omega) hall (ok_not hL0 (.inl (by omega)))], (hH.sb sln).fresh⟩
 have hZ1 := hg3
 refine Go2 2 18 (.string (bs s)) 19 (Ni i) <| Gq rfl (rd_sidx (by kernel_rfl) rfl i rfl (by omega)) <| gl_st (Sc rfl rfl (Digit_ct (gb s i) _ (gb_lt _ _)) ?_)
 rintro _ w4 ⟨rfl, hF5⟩
 replace hH := hH.call hF5
 refine Go1 3 24 (.bool (!(digN (gb s i)))) <| Dn <| If rfl (fun hc5 => ?_) (fun hc5 => ?_)
 have hD0 := hc5
 refine sw_sr <| Go1 2 2 (Ni i) <| Dn <| Rt1 rfl rfl ?_
 exact ⟨by rw [nameN_some (by omega) hall (ok_not hL0 (.inr hD0))], (hH.sb sln).fresh⟩
 have hD1 := hc5
 refine sw_skip <| bkN <| sw_next <| sw_region <| Gw0 1 26 ((i : Int) + 1) ((i + 1 : Nat) : Int) <| Go1 1 6 (Ni (i + 1)) <| Dd <| rnd_end (g := (i)) (i + 1) (by kernel_rfl) ?_ ?_
 · exact ⟨by omega, all_next hall (by first | exact ok_let hL1 | exact ok_dig (by omega) hD1), hH⟩
 · show s.length - (i + 1) < s.length - i; omega
 have hL1 := hg2
 refine Go1 10 24 (.bool false) <| Dn <| Iz <| sw_skip <| bkN <| sw_next <| sw_region <| Gw0 1 26 ((i : Int) + 1) ((i + 1 : Nat) : Int) <| Go1 1 6 (Ni (i + 1)) <| Dd <| rnd_end (g := (i)) (i + 1) (by kernel_rfl) ?_ ?_
 · exact ⟨by omega, all_next hall (by first | exact ok_let hL1 | exact ok_dig (by omega) hD1), hH⟩
 · show s.length - (i + 1) < s.length - i; omega
 refine sw_exit <| thX <| thX <| bkH <| sw_next <| sw_sr <| Gc0 2 28 (.int .i64 (((bs s).size : Nat) : Int)) (Ni s.length) (by rw [bs_size]) <| Go1 1 2 (Ni s.length) <| Dn <| Rt1 rfl rfl ?_
 exact ⟨by rw [nameN_none (fun j hj => hall j (by omega))], (hH.sb sln).fresh⟩
theorem LexName_ct (s : List UInt8) (w : World) (hs : s.length ≤ 140737488355328) :
    Fun Tryz.prog 262 [.string (bs s)] w fun v w' => v = .bool (nameB s) ∧ Fresh w w' [] := by
 refine fun_of_sw Tryz.func262 rfl 17 rfl rfl ?_
 have hH := Hp.start w
 refine sw_sr <| Go0 1 <| Dn <| sw_sr <| Go1 1 3 (.string (bs s)) <| Gq rfl (rd_sneq (by kernel_rfl) rfl rfl) <| Go1 1 5 (.bool (!(s == []))) <| Gi 5 rfl (fun hg1 => ?_) (fun hg1 => ?_)
 have hne : 1 ≤ s.length := List.length_pos_iff.2 hg1
 refine Gc0 2 7 (.int .i64 (((bs s).size : Nat) : Int)) (Ni s.length) (by rw [bs_size]) <| Go1 3 10 (.bool (decide (((s.length : Nat) : Int) ≤ (32 : Int)))) <| Gi 10 rfl (fun hg2 => ?_) (fun hg2 => ?_)
 refine Go1 1 11 (.string (bs s)) <| gl_st (Sc rfl rfl (LexName0_ct s _ (by first | omega | (simp <;> omega))) ?_)
 rintro _ w1 ⟨rfl, hF2⟩
 replace hH := hH.call hF2
 refine Gc0 2 14 (.int .i64 (((bs s).size : Nat) : Int)) (Ni s.length) (by rw [bs_size]) <| Go1 3 2 (.bool (((nameN s : Nat) : Int) == ((s.length : Nat) : Int))) <| Dn <| Rt1 rfl rfl ?_
 exact ⟨by congr 1; rw [Bool.eq_iff_iff]; unfold nameB; simp only [decide_eq_true_eq, beq_iff_eq, Bool.false_eq_true, false_iff]; omega, (hH.sb sln).fresh⟩
 refine Go1 7 2 (.bool false) <| Dn <| Rt1 rfl rfl ?_
 exact ⟨by congr 1; rw [Bool.eq_iff_iff]; unfold nameB; simp only [decide_eq_true_eq, beq_iff_eq, Bool.false_eq_true, false_iff]; omega, (hH.sb sln).fresh⟩
 have hne : s.length = 0 := by rw [hg1]; rfl
 refine Go1 12 2 (.bool false) <| Dn <| Rt1 rfl rfl ?_
 exact ⟨by congr 1; rw [Bool.eq_iff_iff]; unfold nameB; simp only [decide_eq_true_eq, beq_iff_eq, Bool.false_eq_true, false_iff]; omega, (hH.sb sln).fresh⟩
end Go.Proofs.YtllfpnbhjfadiaaGreatDoor
/- Sets of bytes (layer 2), as four words: what the program makes of them. Plain mathematics. -/
set_option linter.unusedVariables false
namespace Go.Proofs.YtllfpnbhjfadiaaGreatDoor
open Go.SW Go.RowKit
structure Cl where
  a : Nat
  b : Nat
  c : Nat
  d : Nat
def Cl.zero : Cl := ⟨0, 0, 0, 0⟩
def Cl.w (x : Cl) : Nat → Nat
  | 0 => x.a
  | 1 => x.b
  | 2 => x.c
  | _ => x.d
def Cl.isZ (x : Cl) : Bool := x.a == 0 && (x.b == 0 && (x.c == 0 && x.d == 0))
structure Cl.Ok (x : Cl) : Prop where
  a : x.a < 18446744073709551616
  b : x.b < 18446744073709551616
  c : x.c < 18446744073709551616
  d : x.d < 18446744073709551616
def clC (x : Cl) : List Value := [.int .u64 ((x.a : Nat) : Int), .int .u64 ((x.b : Nat) : Int), .int .u64 ((x.c : Nat) : Int), .int .u64 ((x.d : Nat) : Int)]
def Cl.has (x : Cl) (b : Nat) : Bool := (x.w (b / 64)).testBit (b % 64)
def spanW (lo hi i : Nat) : Nat :=
  let f := max ((lo : Int) - 64 * i) 0
  let t := min ((hi : Int) - 64 * i) 63
  if f ≤ t then 18446744073709551615 / 2 ^ (63 - t + f).toNat * 2 ^ f.toNat else 0
def spanC (lo hi : Nat) : Cl := ⟨spanW lo hi 0, spanW lo hi 1, spanW lo hi 2, spanW lo hi 3⟩
theorem span_lt {a b : Nat} (h : b ≤ a) : 18446744073709551615 / 2 ^ a * 2 ^ b < 18446744073709551616 := by
  have h1 : 18446744073709551615 / 2 ^ a ≤ 18446744073709551615 / 2 ^ b := Nat.div_le_div_left (Nat.pow_le_pow_right (by decide) h) (Nat.pow_pos (by decide))
  have h2 := Nat.mul_le_mul_right (2 ^ b) h1
  have h3 := Nat.div_mul_le_self 18446744073709551615 (2 ^ b)
  omega
theorem spanW_lt (lo hi i : Nat) (hh : hi ≤ 255) : spanW lo hi i < 18446744073709551616 := by
  unfold spanW
  simp only
  split
  · exact span_lt (by omega)
  · omega
theorem spanC_ok {lo hi : Nat} (hh : hi ≤ 255) : (spanC lo hi).Ok := ⟨spanW_lt _ _ _ hh, spanW_lt _ _ _ hh, spanW_lt _ _ _ hh, spanW_lt _ _ _ hh⟩
def eitherC (x y : Cl) : Cl := ⟨x.a ||| y.a, x.b ||| y.b, x.c ||| y.c, x.d ||| y.d⟩
def notC (x : Cl) : Cl := ⟨18446744073709551615 ^^^ x.a, 18446744073709551615 ^^^ x.b, 18446744073709551615 ^^^ x.c, 18446744073709551615 ^^^ x.d⟩
theorem eitherC_ok {x y : Cl} (h : x.Ok) (k : y.Ok) : (eitherC x y).Ok := ⟨Nat.or_lt_two_pow (n := 64) h.a k.a, Nat.or_lt_two_pow (n := 64) h.b k.b, Nat.or_lt_two_pow (n := 64) h.c k.c, Nat.or_lt_two_pow (n := 64) h.d k.d⟩
theorem notC_ok {x : Cl} (h : x.Ok) : (notC x).Ok := ⟨Nat.xor_lt_two_pow (n := 64) (by decide) h.a, Nat.xor_lt_two_pow (n := 64) (by decide) h.b, Nat.xor_lt_two_pow (n := 64) (by decide) h.c, Nat.xor_lt_two_pow (n := 64) (by decide) h.d⟩
theorem Cl.zero_ok : Cl.zero.Ok := ⟨by decide, by decide, by decide, by decide⟩
theorem Cl.Ok.w {x : Cl} (h : x.Ok) (i : Nat) : x.w i < 18446744073709551616 := by
  unfold Cl.w
  split
  · exact h.a
  · exact h.b
  · exact h.c
  · exact h.d
theorem clC_at (x : Cl) {i : Nat} (h : i < 4) : (clC x)[0 + i * 1]? = some (.int .u64 ((x.w i : Nat) : Int)) := by
  match i, h with
  | 0, _ => rfl
  | 1, _ => rfl
  | 2, _ => rfl
  | 3, _ => rfl
theorem has_eq (x : Cl) (b : Nat) : x.has b = ((((x.w (b / 64) / 2 ^ (b % 64)) &&& 1 : Nat) : Int) != 0) := by
  unfold Cl.has Nat.testBit
  rw [Nat.shiftRight_eq_div_pow, Nat.and_comm, Bool.eq_iff_iff]
  simp only [bne_iff_ne, ne_eq]
  omega
def nextF (x : Cl) (inn : Bool) : Nat → Nat → Nat
  | 0, b => b
  | k + 1, b => if x.has b == inn then b else nextF x inn k (b + 1)
def nextC (x : Cl) (b : Nat) (inn : Bool) : Nat := nextF x inn (256 - b) b
def runsF (x : Cl) : Nat → Nat → List (Nat × Nat)
  | 0, _ => []
  | k + 1, lo => if lo < 256 then (lo, nextC x lo false - 1) :: runsF x k (nextC x (nextC x lo false) true) else []
def runsC (x : Cl) : List (Nat × Nat) := if x.isZ then [] else runsF x 257 (nextC x 0 true)
def hexS (n : Nat) : List UInt8 := [if n < 10 then UInt8.ofNat (48 + n) else UInt8.ofNat (87 + n)]
def signC (b : Nat) : List UInt8 :=
  if b = 10 then [92, 110] else if b = 13 then [92, 114] else if b = 9 then [92, 116] else
  if b < 32 ∨ 126 < b then [92, 120] ++ hexS (b / 16) ++ hexS (b % 16) else
  if b = 91 ∨ b = 93 ∨ b = 92 ∨ b = 45 ∨ b = 94 then [92, UInt8.ofNat b] else [UInt8.ofNat b]
def runS (r : Nat × Nat) : List UInt8 := signC r.1 ++ (if r.2 - r.1 = 0 then [] else if r.2 - r.1 = 1 then signC r.2 else [45] ++ signC r.2)
def textC (x : Cl) : List UInt8 := [91] ++ (runsC x).flatMap runS ++ [93]
def wrongC (s : List UInt8) (at_ : Nat) : Nat × Nat := if s.length ≤ at_ then (3, s.length) else (4, at_)
def bAt (s : List UInt8) (i : Nat) : Option Nat := (s[i]?).map (·.toNat)
def isC (s : List UInt8) (p c : Nat) : Bool := bAt s p == some c
def pickI (s : List UInt8) (p : Nat) (of_ : List UInt8) : Int :=
  match s[p]? with
  | none => -1
  | some b => Lib.indexByte of_ b
def pickP (s : List UInt8) (p : Nat) (of_ : List UInt8) : Nat := if 0 ≤ pickI s p of_ then p + 1 else p
def rsignC (s : List UInt8) (p : Nat) : Except (Nat × Nat) (Nat × Nat) :=
  if isC s p 92 = false then
    if s.length ≤ p ∨ gb s p < 32 ∨ 126 < gb s p ∨ 0 ≤ Lib.indexByte [91, 93, 92, 45, 94] (UInt8.ofNat (gb s p)) then .error (wrongC s p) else .ok (gb s p, p + 1)
  else if 0 ≤ pickI s (p + 1) [110, 114, 116] then .ok (gb [10, 13, 9] (pickI s (p + 1) [110, 114, 116]).toNat, p + 2)
  else if 0 ≤ pickI s (p + 1) [91, 93, 92, 45, 94] then .ok (gb [91, 93, 92, 45, 94] (pickI s (p + 1) [91, 93, 92, 45, 94]).toNat, p + 2)
  else if pickI s (p + 1) [120] < 0 then .error (wrongC s (p + 1))
  else if pickI s (p + 2) [48, 49, 50, 51, 52, 53, 54, 55, 56, 57, 97, 98, 99, 100, 101, 102] < 0 then .error (wrongC s (p + 2))
  else if pickI s (p + 3) [48, 49, 50, 51, 52, 53, 54, 55, 56, 57, 97, 98, 99, 100, 101, 102] < 0 then .error (wrongC s (p + 3))
  else .ok ((16 * pickI s (p + 2) [48, 49, 50, 51, 52, 53, 54, 55, 56, 57, 97, 98, 99, 100, 101, 102] + pickI s (p + 3) [48, 49, 50, 51, 52, 53, 54, 55, 56, 57, 97, 98, 99, 100, 101, 102]).toNat, p + 4)
def memC (s : List UInt8) (p : Nat) : Except (Nat × Nat) (Cl × Nat) :=
  match rsignC s p with
  | .error e => .error e
  | .ok (lo, e) =>
    if isC s e 45 = true then
      match rsignC s (e + 1) with
      | .error e => .error e
      | .ok (hi, e2) => if hi < lo then .error (4, p) else .ok (spanC lo hi, e2)
    else .ok (spanC lo lo, e)
def memsC (s : List UInt8) : Nat → Cl → Nat → Except (Nat × Nat) (Cl × Nat)
  | 0, _, _ => .error (0, 0)
  | k + 1, c, p =>
    if pickI s p [93] < 0 then
      match memC s p with
      | .error e => .error e
      | .ok (m, e) => memsC s k (eitherC c m) e
    else .ok (c, p + 1)
def parseC (s : List UInt8) : Except (Nat × Nat) (Cl × Nat) :=
  if pickI s 0 [91] < 0 then .error (wrongC s 0) else
  match memsC s (s.length + 1) Cl.zero (pickP s 1 [94]) with
  | .error e => .error e
  | .ok (c, e) => .ok (if 0 ≤ pickI s 1 [94] then notC c else c, e)
theorem idx_lt : ∀ (l : List UInt8) (c : UInt8), -1 ≤ Lib.indexByte l c ∧ Lib.indexByte l c < l.length
  | [], c => by simp [Lib.indexByte]
  | b :: l, c => by
    have h := idx_lt l c
    rw [Lib.indexByte]
    simp only [List.length_cons]
    split
    · omega
    · split <;> (try simp_all) <;> omega
theorem pickI_lt (s : List UInt8) (p : Nat) (l : List UInt8) : -1 ≤ pickI s p l ∧ (pickI s p l < l.length) := by
  unfold pickI
  split
  · omega
  · exact idx_lt _ _
theorem pickI_in {s : List UInt8} {p : Nat} {l : List UInt8} (h : 0 ≤ pickI s p l) : p < s.length := by
  unfold pickI at h
  split at h
  · omega
  · rename_i hb; exact (List.getElem?_eq_some_iff.1 hb).1
theorem pickI_none {s : List UInt8} {p : Nat} (l : List UInt8) (h : s.length ≤ p) : pickI s p l = -1 := by
  unfold pickI
  rw [List.getElem?_eq_none h]
theorem pickI_some {s : List UInt8} {p : Nat} (l : List UInt8) (h : p < s.length) : pickI s p l = Lib.indexByte l (UInt8.ofNat (gb s p)) := by
  unfold pickI
  rw [List.getElem?_eq_getElem h]
  simp only
  congr 1
  unfold gb
  simp [List.getElem?_eq_getElem h]
end Go.Proofs.YtllfpnbhjfadiaaGreatDoor
/- strings.Builder: what its methods answer, whatever else lies in memory. -/
set_option maxRecDepth 100000
set_option maxHeartbeats 2000000
set_option linter.unusedVariables false
set_option linter.unusedSimpArgs false
namespace Go.Proofs.YtllfpnbhjfadiaaGreatDoor
open Go.RowKit Go.SW
def Lies (T : TypeId) : Prop := liesAt Tryz.prog Tryz.prog.depth T (2 / Tryz.prog.cellsOf T) 0 209 1 = true

theorem CopyF_ct (g T : Nat) (v : Value) (w : World) (hM : Mine w [.blk g T [.pointer none, v]]) (hl : Lies T) :
    Fun Tryz.prog 149 [Pp g 0] w fun x w' => x = .tuple #[] ∧ Turn w w' [.blk g T [.pointer none, v]] [.blk g T [Pp g 0, v]] := by
 refine fun_of_sw Tryz.func149 rfl 20 rfl rfl ?_
 have hH := Hp.start_mine hM
 refine sw_sr <| Go1 3 4 (Pp g 0) <| Gq rfl (Lk 0 hH rfl rfl rfl) <| Go1 1 6 (.bool true) <| Dn <| It <| sw_region <| Go2 2 7 (Pp g 0) 8 (Pp g 0) <| Gq rfl (rd_toU (t := 209) 0 hH rfl rfl (Nat.zero_lt_succ 1) (by kernel_rfl) (by kernel_rfl) (by kernel_rfl)) <| Gq rfl (rd_same Tryz.f180 rfl Tryz.func180 (by kernel_rfl) (by kernel_rfl) (by kernel_rfl) (by kernel_rfl)) <| Gq rfl (rd_fromU (u := 209) 0 hH rfl rfl hl (by kernel_rfl) (by kernel_rfl) (by kernel_rfl)) <| Go1 2 13 (Pp g 0) <| gl_st (Ks 0 (Pp g 0) rfl hH rfl rfl ?_)
 clear hH; intro w1 hH
 refine Dd <| end0 rfl ?_
 exact ⟨rfl, (hH.sb (slk sln)).turned⟩
theorem CopyU_ct (g T : Nat) (v : Value) (w : World) (hM : Mine w [.blk g T [Pp g 0, v]]) (hl : Lies T) :
    Fun Tryz.prog 149 [Pp g 0] w fun x w' => x = .tuple #[] ∧ Turn w w' [.blk g T [Pp g 0, v]] [.blk g T [Pp g 0, v]] := by
 refine fun_of_sw Tryz.func149 rfl 20 rfl rfl ?_
 have hH := Hp.start_mine hM
 refine sw_sr <| Go1 3 4 (Pp g 0) <| Gq rfl (Lk 0 hH rfl rfl rfl) <| Go1 1 6 (.bool false) <| Dn <| Iz <| sw_sr <| Go1 3 16 (Pp g 0) <| Gq rfl (Lk 0 hH rfl rfl rfl) <| Go1 1 18 (Pp g 0) <| Gq rfl (rd_pneq_same (te := 209) (by kernel_rfl) (by kernel_rfl) rfl rfl) <| Dn <| Iz <| sw_skip <| end0 rfl ?_
 exact ⟨rfl, (hH.sb (slk sln)).turned⟩
def AdB (a : Value) (g : Nat) : Prop := a = .pointer none ∨ a = Pp g 0
theorem Copy_ct (g T : Nat) (a v : Value) (w : World) (ha : AdB a g) (hM : Mine w [.blk g T [a, v]]) (hl : Lies T) : Fun Tryz.prog 149 [Pp g 0] w fun x w' => x = .tuple #[] ∧ Turn w w' [.blk g T [a, v]] [.blk g T [Pp g 0, v]] := by
  rcases ha with rfl | rfl
  · exact CopyF_ct g T v w hM hl
  · exact CopyU_ct g T v w hM hl

theorem WriteByte_ct (g T : Nat) (a v : Value) (l : List UInt8) (c : Nat) (w : World) (ha : AdB a g) (hM : Mine w [.blk g T [a, v], .row v 5 1 l.length (bv l)]) (hl : Lies T) (hc : c < 256) (hn : l.length + 1 ≤ 140737488355328) :
    Fun Tryz.prog 152 [Pp g 0, .int .u8 ((c : Nat) : Int)] w fun x w' => ∃ v1, x = .nilIface ∧ Turn w w' [.blk g T [a, v], .row v 5 1 l.length (bv l)] [.blk g T [Pp g 0, v1], .row v1 5 1 (l ++ [UInt8.ofNat c]).length (bv (l ++ [UInt8.ofNat c]))] := by
 refine fun_of_sw Tryz.func152 rfl 17 rfl rfl ?_
 have hH := Hp.start_mine hM
 refine sw_sr <| Go0 1 <| Dn <| sw_sr <| Go1 1 5 (Pp g 0) ?_
 replace hH : Hp w w _ _ ([_] ++ [_]) := hH
 refine gl_st (Sc rfl rfl (Copy_ct g T a v _ ha hH.mine hl) ?_)
 rintro _ w1 ⟨rfl, hF2⟩
 replace hH := hH.turns hF2
 replace hH := hH.n2
 refine Dn <| sw_sr <| Go2 4 7 (Pp g 0) 10 (Pp g 1) <| Gq rfl (Lk 1 hH rfl rfl rfl) <| Go1 1 12 (.int .u8 (c : Int)) <| gl_st (st_buildS (e := 5) (zv := .int .u8 0) (m := 1) (bytes := 1) rfl rfl rfl (by kernel_rfl) (by kernel_rfl) rfl (cs := [.int .u8 (c : Int)]) (by kernel_rfl) rfl hH ?_)
 clear hH; intro b3 w4 hH
 replace hH := hH.row_eq 2 (l' := 1) (xs' := bv [UInt8.ofNat c]) rfl (rfl) (by simp [bv, Nat.mod_eq_of_lt hc])
 refine gl_st (Apd (e := 5) (.int .u8 0) 1 1 0 rfl hH rfl rfl rfl (hH.row_reads 2 rfl) (bv_one _) (by unfold maxLen; omega) (by omega) ?_)
 clear hH; intro v5 w6 hH
 replace hH := hH.row_eq 0 (l' := (l ++ [UInt8.ofNat c]).length) (xs' := bv (l ++ [UInt8.ofNat c])) rfl (by simp only [List.length_append, List.length_cons, List.length_nil] <;> omega) ((bv_append _ _).symm)
 obtain ⟨A7, c8, rfl, hl9, hm10⟩ := hH.row_form 0 rfl
 refine Go1 2 16 (Pp g 1) <| gl_st (Ks 1 (.slice A7 ((l ++ [UInt8.ofNat c]).length) c8) rfl hH rfl rfl ?_)
 clear hH; intro w11 hH
 refine Dn <| sw_sr <| Go1 1 4 (.nilIface) <| Dn <| Rt1 rfl rfl ?_
 replace hH := hH.fr2
 exact ⟨_, rfl, (hH.sb (slk (slk sln))).turned⟩
theorem WriteString_ct (g T : Nat) (a v : Value) (l : List UInt8) (s : List UInt8) (w : World) (ha : AdB a g) (hM : Mine w [.blk g T [a, v], .row v 5 1 l.length (bv l)]) (hl : Lies T) (hn : l.length + s.length ≤ 140737488355328) :
    Fun Tryz.prog 119 [Pp g 0, .string (bs s)] w fun x w' => ∃ v1, x = .tuple #[.int .i64 ((s.length : Nat) : Int), .nilIface] ∧ Turn w w' [.blk g T [a, v], .row v 5 1 l.length (bv l)] [.blk g T [Pp g 0, v1], .row v1 5 1 (l ++ s).length (bv (l ++ s))] := by
 refine fun_of_sw Tryz.func119 rfl 19 rfl rfl ?_
 have hH := Hp.start_mine hM
 refine sw_sr <| Go0 2 <| Dn <| sw_sr <| Go1 1 6 (Pp g 0) ?_
 replace hH : Hp w w _ _ ([_] ++ [_]) := hH
 refine gl_st (Sc rfl rfl (Copy_ct g T a v _ ha hH.mine hl) ?_)
 rintro _ w1 ⟨rfl, hF2⟩
 replace hH := hH.turns hF2
 replace hH := hH.n2
 refine Dn <| sw_sr <| Go2 4 8 (Pp g 0) 11 (Pp g 1) <| Gq rfl (Lk 1 hH rfl rfl rfl) <| Go1 1 13 (.string (bs s)) <| gl_st (st_appS (e := 5) 0 rfl rfl rfl (by kernel_rfl) (by kernel_rfl) (by kernel_rfl) hH rfl rfl rfl (by omega) ?_)
 clear hH; intro v3 w4 hH
 replace hH := hH.row_eq 0 (l' := (l ++ s).length) (xs' := bv (l ++ s)) rfl (by simp) ((bv_append _ _).symm)
 obtain ⟨A5, c6, rfl, hl7, hm8⟩ := hH.row_form 0 rfl
 refine Go1 2 16 (Pp g 1) <| gl_st (Ks 1 (.slice A5 ((l ++ s).length) c6) rfl hH rfl rfl ?_)
 clear hH; intro w9 hH
 refine Dn <| sw_sr <| Gc0 2 18 (.int .i64 (((bs s).size : Nat) : Int)) (Ni s.length) (by rw [bs_size]) <| Go2 2 4 (Ni s.length) 5 (.nilIface) <| Dn <| Rt2 rfl rfl rfl ?_
 replace hH := hH.fr2
 exact ⟨_, rfl, (hH.sb (slk (slk sln))).turned⟩
theorem StrN_ct (g T : Nat) (a : Value) (w : World) (hM : Mine w [.blk g T [a, .slice none 0 0], .row (.slice none 0 0) 5 1 0 (bv [])]) :
    Fun Tryz.prog 123 [Pp g 0] w fun x w' => x = .string (bs []) ∧ Turn w w' [.blk g T [a, .slice none 0 0], .row (.slice none 0 0) 5 1 0 (bv [])] [] := by
 refine fun_of_sw Tryz.func123 rfl 14 rfl rfl ?_
 have hH := Hp.start_mine hM
 refine sw_sr <| Go0 1 <| Dn <| sw_seq <| Dr hH (slk (slk sln)) ?_
 clear hH; intro w1 hH hS9
 refine Gp1 3 [0,1,2] 5 (Pp g 1) hS9 <| Dq 3 rfl (fun _ hS => (Lk 0 hS rfl rfl rfl)) hS9 <| gdk [(0, Pp g 0), (6, .slice none 0 0)] <| Gp1 3 [5,6,7] 10 (Pp g 1) hS9 <| Dq 8 rfl (fun _ hS => (Lk 0 hS rfl rfl rfl)) hS9 <| gdk [(6, .slice none 0 0), (11, .slice none 0 0)] <| Gp1 1 [9] 12 (.int .i64 0) hS9 <| gds 4 (st_q rfl rfl rfl (rd_sliceData0 (e := 5) rfl) ?_)
 refine Nl hS9 fun hS9 => gdk [(7, .pointer none), (12, .int .i64 0)] <| gds 10 (st_q rfl rfl rfl (rd_ustr0 rfl rfl) ?_)
 refine Nl hS9 fun hS9 => gdk [(13, .string (bs []))] <| Gp1 1 [11] 2 (.string (bs [])) hS9 <| gdn [(2, .string (bs []))] <| sw_next <| Rt1 rfl rfl ?_
 exact ⟨rfl, (hH.sb sln).turned⟩
theorem StrR_ct (g T q cap : Nat) (a : Value) (l : List UInt8) (w : World) (hM : Mine w [.blk g T [a, (.slice (some ⟨q, 0, none⟩) l.length cap)], .row (.slice (some ⟨q, 0, none⟩) l.length cap) 5 1 l.length (bv l)]) (h0 : l ≠ []) :
    Fun Tryz.prog 123 [Pp g 0] w fun x w' => x = .string (bs l) ∧ Turn w w' [.blk g T [a, (.slice (some ⟨q, 0, none⟩) l.length cap)], .row (.slice (some ⟨q, 0, none⟩) l.length cap) 5 1 l.length (bv l)] [] := by
 refine fun_of_sw Tryz.func123 rfl 14 rfl rfl ?_
 have hH := Hp.start_mine hM
 have hcap : cap ≠ 0 := by
   obtain ⟨_, _, h1, h2, _⟩ := hH.row_form 1 rfl
   cases h1
   have : l.length ≠ 0 := by simpa using h0
   omega
 refine sw_sr <| Go0 1 <| Dn <| sw_seq <| Dr hH (slk sln) ?_
 clear hH; intro w1 hH hS9
 refine Gp1 3 [0,1,2] 5 (Pp g 1) hS9 <| Dq 3 rfl (fun _ hS => (Lk 0 hS rfl rfl rfl)) hS9 <| gdk [(0, Pp g 0), (6, .slice (some ⟨q, 0, none⟩) l.length cap)] <| Gp1 3 [5,6,7] 10 (Pp g 1) hS9 <| Dq 8 rfl (fun _ hS => (Lk 0 hS rfl rfl rfl)) hS9 <| gdk [(6, .slice (some ⟨q, 0, none⟩) l.length cap), (11, .slice (some ⟨q, 0, none⟩) l.length cap)] <| Dq 9 rfl (fun _ hS => (Ln (e := 5) rfl)) hS9 <| gds 4 (st_q rfl rfl rfl (rd_sliceData (e := 5) rfl hcap) ?_)
 refine Nl hS9 fun hS9 => gdk [(7, Pp q 0), (12, Ni l.length)] <| gds 10 (st_ustr (e := 5) 1 rfl rfl rfl (by kernel_rfl) (by kernel_rfl) hH rfl rfl h0 rfl ?_)
 clear hH; intro w2 hH
 refine Nl (hH.sb (slk sln)) fun hS9 => gdk [(13, .string (bs l))] <| Gp1 1 [11] 2 (.string (bs l)) hS9 <| gdn [(2, .string (bs l))] <| sw_next <| Rt1 rfl rfl ?_
 exact ⟨rfl, (hH.sb sln).turned⟩
theorem String_ct (g T : Nat) (a v : Value) (l : List UInt8) (w : World) (hM : Mine w [.blk g T [a, v], .row v 5 1 l.length (bv l)]) (h0 : l ≠ [] ∨ v = .slice none 0 0) :
    Fun Tryz.prog 123 [Pp g 0] w fun x w' => x = .string (bs l) ∧ Turn w w' [.blk g T [a, v], .row v 5 1 l.length (bv l)] [] := by
  have hr : w.ownsRow 0 5 1 v l.length (bv l) := (Hp.start_mine hM).row_at 1 rfl
  by_cases hl : l = []
  · subst hl
    obtain rfl := h0.resolve_left (by simp)
    exact StrN_ct g T a w hM
  · rcases hr.2 with ⟨_, h1⟩ | ⟨q, cap, cur, rfl, _⟩
    · exact absurd (List.eq_nil_of_length_eq_zero h1) hl
    · exact StrR_ct g T q cap a l w hM hl
theorem lies_bd : Lies 209 := by unfold Lies; kernel_rfl

theorem BLenS_ct (g n cap : Nat) (A : Option Addr) (w : World) (h1 : w.cell? ⟨g, 1, none⟩ = some (.slice A n cap)) :
    Fun Tryz.prog 170 [.pointer (some ⟨g, 0, none⟩)] w fun x w' => x = .int .i64 ((n : Nat) : Int) ∧ Fresh w w' [] := by
 refine fun_of_sw Tryz.func170 rfl 8 rfl rfl ?_
 have hH := Hp.start w
 refine sw_sr <| Go0 1 <| Dn <| sw_sr <| Go1 3 5 (.pointer (some ⟨g, 1, none⟩)) <| Gq rfl (rd_load (by kernel_rfl) rfl (hH.zin _ _ h1)) <| Gq rfl (Ln (e := 5) rfl) <| Go1 1 2 (Ni n) <| Dn <| Rt1 rfl rfl ?_
 exact ⟨rfl, (hH.sb sln).fresh⟩
theorem BLen_ct (g n : Nat) (v : Value) (w : World) (h1 : w.cell? ⟨g, 1, none⟩ = some v) (hf : ∃ A cap, v = .slice A n cap) : Fun Tryz.prog 170 [Pp g 0] w fun x w' => x = .int .i64 ((n : Nat) : Int) ∧ Fresh w w' [] := by
  obtain ⟨A, cap, rfl⟩ := hf
  exact BLenS_ct g n cap A w h1

end Go.Proofs.YtllfpnbhjfadiaaGreatDoor
/- Layer 2 (class): sets of bytes: what the program's functions answer. -/
set_option maxRecDepth 100000
set_option maxHeartbeats 2000000
set_option linter.unusedVariables false
set_option linter.unusedSimpArgs false
namespace Go.Proofs.YtllfpnbhjfadiaaGreatDoor
open Go.RowKit Go.SW
theorem cv_and63 {b : Nat} (h : b < 256) : Value.int .u8 (IntKind.u8.wrap (((BitVec.ofInt 8 ((b : Nat) : Int) &&& BitVec.ofInt 8 63).toNat : Nat) : Int)) = .int .u8 ((b % 64 : Nat) : Int) := by
  have h1 := cv_and_u8 (a := b) (b := 63) h (by decide)
  rw [show b % 64 = b &&& 63 from (Nat.and_two_pow_sub_one_eq_mod b 6).symm]
  exact h1
theorem nextC_step {x : Cl} {b : Nat} (h : b < 256) (inn : Bool) : nextC x b inn = if x.has b == inn then b else nextC x (b + 1) inn := by
  unfold nextC
  rw [show 256 - b = (256 - (b + 1)) + 1 from by omega, nextF]
theorem nextC_end (x : Cl) (inn : Bool) : nextC x 256 inn = 256 := rfl
theorem nextF_le (x : Cl) (inn : Bool) : ∀ (k b : Nat), b ≤ nextF x inn k b ∧ nextF x inn k b ≤ b + k
  | 0, b => ⟨Nat.le_refl _, Nat.le_refl _⟩
  | k + 1, b => by
    rw [nextF]
    have := nextF_le x inn k (b + 1)
    split <;> omega
theorem nextC_le {x : Cl} {b : Nat} (h : b ≤ 256) (inn : Bool) : b ≤ nextC x b inn ∧ nextC x b inn ≤ 256 := by
  have := nextF_le x inn (256 - b) b
  unfold nextC
  omega
theorem div_lt64 {a b : Nat} (h : a < 18446744073709551616) : a / b < 18446744073709551616 := Nat.lt_of_le_of_lt (Nat.div_le_self _ _) h

theorem Has_ct (x : Cl) (b : Nat) (w : World) (hx : x.Ok) (hb : b < 256) :
    Fun Tryz.prog 219 [.agg #[.int .u64 ((x.a : Nat) : Int), .int .u64 ((x.b : Nat) : Int), .int .u64 ((x.c : Nat) : Int), .int .u64 ((x.d : Nat) : Int)], .int .u8 ((b : Nat) : Int)] w fun v w' => v = .bool (x.has b) ∧ Fresh w w' [] := by
 refine fun_of_sw Tryz.func219 rfl 14 rfl rfl ?_
 have hH := Hp.start w
 refine sw_sr <| gl_st (Bx [.int .u64 ((x.a : Nat) : Int), .int .u64 ((x.b : Nat) : Int), .int .u64 ((x.c : Nat) : Int), .int .u64 ((x.d : Nat) : Int)] rfl hH ?_)
 clear hH; intro b1 w2 hH
 refine Go0 1 <| Dn <| sw_sr <| Gc0 2 6 (.int .u8 (Int.fdiv (b : Int) (2 ^ 6))) (.int .u8 ((b / 64 : Nat) : Int)) (cv_shr) <| Gq rfl (rd_idxA (l := 4) (e := 36) (m := 1) (by kernel_rfl) (by kernel_rfl) rfl (b / 64) rfl (by omega)) <| Gq rfl (Lk 0 hH rfl rfl (clC_at x (by omega))) <| Gc0 2 10 (.int .u8 (IntKind.u8.wrap (((BitVec.ofInt 8 (b : Int) &&& BitVec.ofInt 8 63).toNat : Nat) : Int))) (.int .u8 ((b % 64 : Nat) : Int)) (cv_and63 hb) <| Gq rfl (rd_shr (a := x.w (b / 64)) (n := b % 64) rfl rfl (by show _ ≤ 64; omega)) <| Gc0 1 12 _ (.int .u64 ((((x.w (b / 64)) / 2 ^ (b % 64)) &&& 1 : Nat) : Int)) (cv_and_u64 (div_lt64 (hx.w _)) (by decide)) <| Go1 2 4 (.bool (((((x.w (b / 64)) / 2 ^ (b % 64)) &&& 1 : Nat) : Int) != (0 : Int))) <| Dn <| Rt1 rfl rfl ?_
 exact ⟨by rw [has_eq], (hH.sb sln).fresh⟩
theorem Next_ct (x : Cl) (b0 : Nat) (inn : Bool) (w : World) (hx : x.Ok) (hb : b0 ≤ 256) :
    Fun Tryz.prog 183 [.agg #[.int .u64 ((x.a : Nat) : Int), .int .u64 ((x.b : Nat) : Int), .int .u64 ((x.c : Nat) : Int), .int .u64 ((x.d : Nat) : Int)], .int .i64 ((b0 : Nat) : Int), .bool inn] w fun v w' => v = .int .i64 ((nextC x b0 inn : Nat) : Int) ∧ Fresh w w' [] := by
 refine fun_of_sw Tryz.func183 rfl 18 rfl rfl ?_
 have hH := Hp.start w
 refine sw_sr <| gl_st (Bx [.int .u64 ((x.a : Nat) : Int), .int .u64 ((x.b : Nat) : Int), .int .u64 ((x.c : Nat) : Int), .int .u64 ((x.d : Nat) : Int)] rfl hH ?_)
 clear hH; intro b1 w2 hH
 refine Go0 1 <| Dn <| sw_seq <| sw_block <| Lp (γ := Nat) hH (fun b => [(1, Ni b), (2, .bool inn), (3, Pp b1 0)]) (fun b w_ H_ => (b ≤ 256) ∧ (nextC x b0 inn = nextC x b inn) ∧ H_ [.blk b1 38 [.int .u64 ((x.a : Nat) : Int), .int .u64 ((x.b : Nat) : Int), .int .u64 ((x.c : Nat) : Int), .int .u64 ((x.d : Nat) : Int)]]) (fun b => 256 - b) (b0) ?_ ?_
 · exact ⟨hb, rfl, hH⟩
 clear hH
 rintro b w3 ⟨hb1, hb2, hH⟩
 refine swk [(1, Ni b), (2, .bool inn), (3, Pp b1 0)] <| sw_seq <| sw_sr <| Go1 2 8 (.bool (decide ((b : Int) < (256 : Int)))) <| Dn <| If rfl (fun hc1 => ?_) (fun hc1 => ?_)
 refine Sk <| sw_seq <| sw_block <| sw_sr <| Gq rfl (La 0 [.int .u64 ((x.a : Nat) : Int), .int .u64 ((x.b : Nat) : Int), .int .u64 ((x.c : Nat) : Int), .int .u64 ((x.d : Nat) : Int)] hH rfl rfl) <| Gc0 2 13 (.int .u8 (IntKind.u8.wrap (b : Int))) (.int .u8 (b : Int)) (cv_u8 (by omega)) <| gl_st (Sc rfl rfl (Has_ct x b _ hx (by omega)) ?_)
 rintro _ w4 ⟨rfl, hF5⟩
 replace hH := hH.call hF5
 refine Go1 2 16 (.bool ((x.has b) == inn)) <| Dn <| If rfl (fun hc2 => ?_) (fun hc2 => ?_)
 have heq := hc2
 refine sw_exit <| bkX rfl <| thX <| thX <| bkH <| sw_next <| sw_sr <| Go1 2 6 (Ni b) <| Dn <| Rt1 rfl rfl ?_
 first
 | exact ⟨by rw [hb2, nextC_step (by omega), if_pos (by simpa using heq)], (hH.sb sln).fresh⟩
 | exact ⟨by rw [hb2, show b = 256 from by omega, nextC_end], (hH.sb sln).fresh⟩
 have hne := hc2
 refine sw_skip <| bkN <| sw_next <| sw_region <| Gw0 2 10 ((b : Int) + 1) ((b + 1 : Nat) : Int) <| Go1 1 1 (Ni (b + 1)) <| Dd <| rnd_end (g := (b)) (b + 1) (by kernel_rfl) ?_ ?_
 · exact ⟨by omega, by rw [hb2, nextC_step (by omega), if_neg (by simpa using hne)], hH⟩
 · show 256 - (b + 1) < 256 - b; omega
 refine sw_exit <| thX <| thX <| bkH <| sw_next <| sw_sr <| Go1 2 6 (Ni b) <| Dn <| Rt1 rfl rfl ?_
 first
 | exact ⟨by rw [hb2, nextC_step (by omega), if_pos (by simpa using heq)], (hH.sb sln).fresh⟩
 | exact ⟨by rw [hb2, show b = 256 from by omega, nextC_end], (hH.sb sln).fresh⟩
theorem Either_ct (x y : Cl) (w : World) (hx : x.Ok) (hy : y.Ok) :
    Fun Tryz.prog 197 [.agg #[.int .u64 ((x.a : Nat) : Int), .int .u64 ((x.b : Nat) : Int), .int .u64 ((x.c : Nat) : Int), .int .u64 ((x.d : Nat) : Int)], .agg #[.int .u64 ((y.a : Nat) : Int), .int .u64 ((y.b : Nat) : Int), .int .u64 ((y.c : Nat) : Int), .int .u64 ((y.d : Nat) : Int)]] w fun v w' => v = .agg (clC (eitherC x y)).toArray ∧ Fresh w w' [] := by
 refine fun_of_sw Tryz.func197 rfl 19 rfl rfl ?_
 have hH := Hp.start w
 refine sw_sr <| gl_st (Bx [.int .u64 ((x.a : Nat) : Int), .int .u64 ((x.b : Nat) : Int), .int .u64 ((x.c : Nat) : Int), .int .u64 ((x.d : Nat) : Int)] rfl hH ?_)
 clear hH; intro b1 w2 hH
 refine gl_st (Bx [.int .u64 ((y.a : Nat) : Int), .int .u64 ((y.b : Nat) : Int), .int .u64 ((y.c : Nat) : Int), .int .u64 ((y.d : Nat) : Int)] rfl hH ?_)
 clear hH; intro b3 w4 hH
 refine gl_st (Alc [.int .u64 0, .int .u64 0, .int .u64 0, .int .u64 0] rfl hH ?_)
 clear hH; intro b5 w6 hH
 refine Dn <| sw_seq <| sw_sr <| Go1 1 6 (.int .i64 0) <| Dn <| sw_block <| sw_unroll <| sw_sr <| Go1 1 7 (.bool true) <| Dn <| sw_seq <| It <| sw_skip <| sw_next <| sw_seq <| sw_block <| sw_sr <| Go1 2 5 (.int .i64 0) <| Dn <| Dr hH (slc (slk (slk sln))) ?_
 clear hH; intro w7 hH hS9
 refine Gp1 1 [0] 9 (.int .i64 0) hS9 <| Dq 1 rfl (fun _ hS => (rd_idxA (l := 4) (e := 36) (m := 1) (by kernel_rfl) (by kernel_rfl) rfl 0 rfl (by omega))) hS9 <| Gp1 1 [3] 12 (.int .i64 0) hS9 <| Dq 4 rfl (fun _ hS => (rd_idxA (l := 4) (e := 36) (m := 1) (by kernel_rfl) (by kernel_rfl) rfl 0 rfl (by omega))) hS9 <| Dq 5 rfl (fun _ hS => (Lk 0 hS rfl rfl rfl)) hS9 <| gds 2 (st_q rfl rfl rfl (Lk 0 hH rfl rfl rfl) ?_)
 refine Nl hS9 fun hS9 => Dc0 1 [6] 15 _ (.int .u64 ((x.a ||| y.a : Nat) : Int)) (cv_or_u64 hx.a hy.a) hS9 <| Dq 7 rfl (fun _ hS => (rd_idxA (l := 4) (e := 36) (m := 1) (by kernel_rfl) (by kernel_rfl) rfl 0 rfl (by omega))) hS9 <| gds 8 (Ks 0 (.int .u64 ((x.a ||| y.a : Nat) : Int)) rfl hH rfl rfl ?_)
 clear hH; intro w8 hH
 refine Nl (hH.sb (slc (slk (slk sln)))) fun hS9 => gdn [(2, Pp b1 0), (3, Pp b3 0), (4, Pp b5 0), (6, .int .i64 0)] <| bkN <| sw_next <| sw_region <| Gw0 1 17 (0 + 1) 1 <| Go1 1 6 (.int .i64 1) <| Dd <| sw_again <| swk [(2, Pp b1 0), (3, Pp b3 0), (4, Pp b5 0), (6, .int .i64 1)] <| sw_sr <| Go1 1 7 (.bool true) <| Dn <| sw_seq <| It <| sw_skip <| sw_next <| sw_seq <| sw_block <| sw_sr <| Go1 2 5 (.int .i64 1) <| Dn <| Dr hH (slc (slk (slk sln))) ?_
 clear hH; intro w9 hH hS9
 refine Gp1 1 [0] 9 (.int .i64 1) hS9 <| Dq 1 rfl (fun _ hS => (rd_idxA (l := 4) (e := 36) (m := 1) (by kernel_rfl) (by kernel_rfl) rfl 1 rfl (by omega))) hS9 <| Gp1 1 [3] 12 (.int .i64 1) hS9 <| Dq 4 rfl (fun _ hS => (rd_idxA (l := 4) (e := 36) (m := 1) (by kernel_rfl) (by kernel_rfl) rfl 1 rfl (by omega))) hS9 <| Dq 5 rfl (fun _ hS => (Lk 0 hS rfl rfl rfl)) hS9 <| gds 2 (st_q rfl rfl rfl (Lk 0 hH rfl rfl rfl) ?_)
 refine Nl hS9 fun hS9 => Dc0 1 [6] 15 _ (.int .u64 ((x.b ||| y.b : Nat) : Int)) (cv_or_u64 hx.b hy.b) hS9 <| Dq 7 rfl (fun _ hS => (rd_idxA (l := 4) (e := 36) (m := 1) (by kernel_rfl) (by kernel_rfl) rfl 1 rfl (by omega))) hS9 <| gds 8 (Ks 0 (.int .u64 ((x.b ||| y.b : Nat) : Int)) rfl hH rfl rfl ?_)
 clear hH; intro w10 hH
 refine Nl (hH.sb (slc (slk (slk sln)))) fun hS9 => gdn [(2, Pp b1 0), (3, Pp b3 0), (4, Pp b5 0), (6, .int .i64 1)] <| bkN <| sw_next <| sw_region <| Gw0 1 17 (1 + 1) 2 <| Go1 1 6 (.int .i64 2) <| Dd <| sw_again <| swk [(2, Pp b1 0), (3, Pp b3 0), (4, Pp b5 0), (6, .int .i64 2)] <| sw_sr <| Go1 1 7 (.bool true) <| Dn <| sw_seq <| It <| sw_skip <| sw_next <| sw_seq <| sw_block <| sw_sr <| Go1 2 5 (.int .i64 2) <| Dn <| Dr hH (slc (slk (slk sln))) ?_
 clear hH; intro w11 hH hS9
 refine Gp1 1 [0] 9 (.int .i64 2) hS9 <| Dq 1 rfl (fun _ hS => (rd_idxA (l := 4) (e := 36) (m := 1) (by kernel_rfl) (by kernel_rfl) rfl 2 rfl (by omega))) hS9 <| Gp1 1 [3] 12 (.int .i64 2) hS9 <| Dq 4 rfl (fun _ hS => (rd_idxA (l := 4) (e := 36) (m := 1) (by kernel_rfl) (by kernel_rfl) rfl 2 rfl (by omega))) hS9 <| Dq 5 rfl (fun _ hS => (Lk 0 hS rfl rfl rfl)) hS9 <| gds 2 (st_q rfl rfl rfl (Lk 0 hH rfl rfl rfl) ?_)
 refine Nl hS9 fun hS9 => Dc0 1 [6] 15 _ (.int .u64 ((x.c ||| y.c : Nat) : Int)) (cv_or_u64 hx.c hy.c) hS9 <| Dq 7 rfl (fun _ hS => (rd_idxA (l := 4) (e := 36) (m := 1) (by kernel_rfl) (by kernel_rfl) rfl 2 rfl (by omega))) hS9 <| gds 8 (Ks 0 (.int .u64 ((x.c ||| y.c : Nat) : Int)) rfl hH rfl rfl ?_)
 clear hH; intro w12 hH
 refine Nl (hH.sb (slc (slk (slk sln)))) fun hS9 => gdn [(2, Pp b1 0), (3, Pp b3 0), (4, Pp b5 0), (6, .int .i64 2)] <| bkN <| sw_next <| sw_region <| Gw0 1 17 (2 + 1) 3 <| Go1 1 6 (.int .i64 3) <| Dd <| sw_again <| swk [(2, Pp b1 0), (3, Pp b3 0), (4, Pp b5 0), (6, .int .i64 3)] <| sw_sr <| Go1 1 7 (.bool true) <| Dn <| sw_seq <| It <| sw_skip <| sw_next <| sw_seq <| sw_block <| sw_sr <| Go1 2 5 (.int .i64 3) <| Dn <| Dr hH (slc (slk (slk sln))) ?_
 clear hH; intro w13 hH hS9
 refine Gp1 1 [0] 9 (.int .i64 3) hS9 <| Dq 1 rfl (fun _ hS => (rd_idxA (l := 4) (e := 36) (m := 1) (by kernel_rfl) (by kernel_rfl) rfl 3 rfl (by omega))) hS9 <| Gp1 1 [3] 12 (.int .i64 3) hS9 <| Dq 4 rfl (fun _ hS => (rd_idxA (l := 4) (e := 36) (m := 1) (by kernel_rfl) (by kernel_rfl) rfl 3 rfl (by omega))) hS9 <| Dq 5 rfl (fun _ hS => (Lk 0 hS rfl rfl rfl)) hS9 <| gds 2 (st_q rfl rfl rfl (Lk 0 hH rfl rfl rfl) ?_)
 refine Nl hS9 fun hS9 => Dc0 1 [6] 15 _ (.int .u64 ((x.d ||| y.d : Nat) : Int)) (cv_or_u64 hx.d hy.d) hS9 <| Dq 7 rfl (fun _ hS => (rd_idxA (l := 4) (e := 36) (m := 1) (by kernel_rfl) (by kernel_rfl) rfl 3 rfl (by omega))) hS9 <| gds 8 (Ks 0 (.int .u64 ((x.d ||| y.d : Nat) : Int)) rfl hH rfl rfl ?_)
 clear hH; intro w14 hH
 refine Nl (hH.sb (slc (slk (slk sln)))) fun hS9 => gdn [(2, Pp b1 0), (3, Pp b3 0), (4, Pp b5 0), (6, .int .i64 3)] <| bkN <| sw_next <| sw_region <| Gw0 1 17 (3 + 1) 4 <| Go1 1 6 (.int .i64 4) <| Dd <| sw_again <| swk [(2, Pp b1 0), (3, Pp b3 0), (4, Pp b5 0), (6, .int .i64 4)] <| sw_sr <| Go1 1 7 (.bool false) <| Dn <| sw_seq <| Iz <| sw_exit <| thX <| thX <| bkH <| sw_next <| sw_sr <| Gq rfl (La 0 [.int .u64 ((x.a ||| y.a : Nat) : Int), .int .u64 ((x.b ||| y.b : Nat) : Int), .int .u64 ((x.c ||| y.c : Nat) : Int), .int .u64 ((x.d ||| y.d : Nat) : Int)] hH rfl rfl) <| gl_st (Ka 2 [.int .u64 ((x.a ||| y.a : Nat) : Int), .int .u64 ((x.b ||| y.b : Nat) : Int), .int .u64 ((x.c ||| y.c : Nat) : Int), .int .u64 ((x.d ||| y.d : Nat) : Int)] [.int .u64 ((x.a ||| y.a : Nat) : Int), .int .u64 ((x.b ||| y.b : Nat) : Int), .int .u64 ((x.c ||| y.c : Nat) : Int), .int .u64 ((x.d ||| y.d : Nat) : Int)] rfl hH rfl rfl ?_)
 clear hH; intro w15 hH
 refine Dn <| sw_ret <| retC1 rfl (RS.cellA hH 2 (by kernel_rfl) rfl rfl (by kernel_rfl) [.int .u64 ((x.a ||| y.a : Nat) : Int), .int .u64 ((x.b ||| y.b : Nat) : Int), .int .u64 ((x.c ||| y.c : Nat) : Int), .int .u64 ((x.d ||| y.d : Nat) : Int)] rfl rfl) ?_
 exact ⟨rfl, (hH.sb sln).fresh⟩
theorem Not_ct (x : Cl) (w : World) (hx : x.Ok) :
    Fun Tryz.prog 198 [.agg #[.int .u64 ((x.a : Nat) : Int), .int .u64 ((x.b : Nat) : Int), .int .u64 ((x.c : Nat) : Int), .int .u64 ((x.d : Nat) : Int)]] w fun v w' => v = .agg (clC (notC x)).toArray ∧ Fresh w w' [] := by
 refine fun_of_sw Tryz.func198 rfl 15 rfl rfl ?_
 have hH := Hp.start w
 refine sw_sr <| gl_st (Bx [.int .u64 ((x.a : Nat) : Int), .int .u64 ((x.b : Nat) : Int), .int .u64 ((x.c : Nat) : Int), .int .u64 ((x.d : Nat) : Int)] rfl hH ?_)
 clear hH; intro b1 w2 hH
 refine gl_st (Alc [.int .u64 0, .int .u64 0, .int .u64 0, .int .u64 0] rfl hH ?_)
 clear hH; intro b3 w4 hH
 refine Dn <| sw_seq <| sw_sr <| Go1 1 4 (.int .i64 0) <| Dn <| sw_block <| sw_unroll <| sw_sr <| Go1 1 5 (.bool true) <| Dn <| sw_seq <| It <| sw_skip <| sw_next <| sw_seq <| sw_block <| sw_sr <| Go1 2 3 (.int .i64 0) <| Dn <| sw_region <| Go2 2 7 (.int .i64 0) 8 (.int .i64 0) <| Gq rfl (rd_idxA (l := 4) (e := 36) (m := 1) (by kernel_rfl) (by kernel_rfl) rfl 0 rfl (by omega)) <| Gq rfl (Lk 0 hH rfl rfl rfl) <| Gc0 1 11 _ (.int .u64 ((18446744073709551615 ^^^ x.a : Nat) : Int)) (cv_xor_u64 (by decide) hx.a) <| Gq rfl (rd_idxA (l := 4) (e := 36) (m := 1) (by kernel_rfl) (by kernel_rfl) rfl 0 rfl (by omega)) <| gl_st (Ks 0 (.int .u64 ((18446744073709551615 ^^^ x.a : Nat) : Int)) rfl hH rfl rfl ?_)
 clear hH; intro w5 hH
 refine Dd <| bkN <| sw_next <| sw_region <| Gw0 1 13 (0 + 1) 1 <| Go1 1 4 (.int .i64 1) <| Dd <| sw_again <| swk [(1, Pp b1 0), (2, Pp b3 0), (4, .int .i64 1)] <| sw_sr <| Go1 1 5 (.bool true) <| Dn <| sw_seq <| It <| sw_skip <| sw_next <| sw_seq <| sw_block <| sw_sr <| Go1 2 3 (.int .i64 1) <| Dn <| sw_region <| Go2 2 7 (.int .i64 1) 8 (.int .i64 1) <| Gq rfl (rd_idxA (l := 4) (e := 36) (m := 1) (by kernel_rfl) (by kernel_rfl) rfl 1 rfl (by omega)) <| Gq rfl (Lk 0 hH rfl rfl rfl) <| Gc0 1 11 _ (.int .u64 ((18446744073709551615 ^^^ x.b : Nat) : Int)) (cv_xor_u64 (by decide) hx.b) <| Gq rfl (rd_idxA (l := 4) (e := 36) (m := 1) (by kernel_rfl) (by kernel_rfl) rfl 1 rfl (by omega)) <| gl_st (Ks 0 (.int .u64 ((18446744073709551615 ^^^ x.b : Nat) : Int)) rfl hH rfl rfl ?_)
 clear hH; intro w6 hH
 refine Dd <| bkN <| sw_next <| sw_region <| Gw0 1 13 (1 + 1) 2 <| Go1 1 4 (.int .i64 2) <| Dd <| sw_again <| swk [(1, Pp b1 0), (2, Pp b3 0), (4, .int .i64 2)] <| sw_sr <| Go1 1 5 (.bool true) <| Dn <| sw_seq <| It <| sw_skip <| sw_next <| sw_seq <| sw_block <| sw_sr <| Go1 2 3 (.int .i64 2) <| Dn <| sw_region <| Go2 2 7 (.int .i64 2) 8 (.int .i64 2) <| Gq rfl (rd_idxA (l := 4) (e := 36) (m := 1) (by kernel_rfl) (by kernel_rfl) rfl 2 rfl (by omega)) <| Gq rfl (Lk 0 hH rfl rfl rfl) <| Gc0 1 11 _ (.int .u64 ((18446744073709551615 ^^^ x.c : Nat) : Int)) (cv_xor_u64 (by decide) hx.c) <| Gq rfl (rd_idxA (l := 4) (e := 36) (m := 1) (by kernel_rfl) (by kernel_rfl) rfl 2 rfl (by omega)) <| gl_st (Ks 0 (.int .u64 ((18446744073709551615 ^^^ x.c : Nat) : Int)) rfl hH rfl rfl ?_)
 clear hH; intro w7 hH
 refine Dd <| bkN <| sw_next <| sw_region <| Gw0 1 13 (2 + 1) 3 <| Go1 1 4 (.int .i64 3) <| Dd <| sw_again <| swk [(1, Pp b1 0), (2, Pp b3 0), (4, .int .i64 3)] <| sw_sr <| Go1 1 5 (.bool true) <| Dn <| sw_seq <| It <| sw_skip <| sw_next <| sw_seq <| sw_block <| sw_sr <| Go1 2 3 (.int .i64 3) <| Dn <| sw_region <| Go2 2 7 (.int .i64 3) 8 (.int .i64 3) <| Gq rfl (rd_idxA (l := 4) (e := 36) (m := 1) (by kernel_rfl) (by kernel_rfl) rfl 3 rfl (by omega)) <| Gq rfl (Lk 0 hH rfl rfl rfl) <| Gc0 1 11 _ (.int .u64 ((18446744073709551615 ^^^ x.d : Nat) : Int)) (cv_xor_u64 (by decide) hx.d) <| Gq rfl (rd_idxA (l := 4) (e := 36) (m := 1) (by kernel_rfl) (by kernel_rfl) rfl 3 rfl (by omega)) <| gl_st (Ks 0 (.int .u64 ((18446744073709551615 ^^^ x.d : Nat) : Int)) rfl hH rfl rfl ?_)
 clear hH; intro w8 hH
 refine Dd <| bkN <| sw_next <| sw_region <| Gw0 1 13 (3 + 1) 4 <| Go1 1 4 (.int .i64 4) <| Dd <| sw_again <| swk [(1, Pp b1 0), (2, Pp b3 0), (4, .int .i64 4)] <| sw_sr <| Go1 1 5 (.bool false) <| Dn <| sw_seq <| Iz <| sw_exit <| thX <| thX <| bkH <| sw_next <| sw_sr <| Gq rfl (La 0 [.int .u64 ((18446744073709551615 ^^^ x.a : Nat) : Int), .int .u64 ((18446744073709551615 ^^^ x.b : Nat) : Int), .int .u64 ((18446744073709551615 ^^^ x.c : Nat) : Int), .int .u64 ((18446744073709551615 ^^^ x.d : Nat) : Int)] hH rfl rfl) <| gl_st (Ka 1 [.int .u64 ((18446744073709551615 ^^^ x.a : Nat) : Int), .int .u64 ((18446744073709551615 ^^^ x.b : Nat) : Int), .int .u64 ((18446744073709551615 ^^^ x.c : Nat) : Int), .int .u64 ((18446744073709551615 ^^^ x.d : Nat) : Int)] [.int .u64 ((18446744073709551615 ^^^ x.a : Nat) : Int), .int .u64 ((18446744073709551615 ^^^ x.b : Nat) : Int), .int .u64 ((18446744073709551615 ^^^ x.c : Nat) : Int), .int .u64 ((18446744073709551615 ^^^ x.d : Nat) : Int)] rfl hH rfl rfl ?_)
 clear hH; intro w9 hH
 refine Dn <| sw_ret <| retC1 rfl (RS.cellA hH 1 (by kernel_rfl) rfl rfl (by kernel_rfl) [.int .u64 ((18446744073709551615 ^^^ x.a : Nat) : Int), .int .u64 ((18446744073709551615 ^^^ x.b : Nat) : Int), .int .u64 ((18446744073709551615 ^^^ x.c : Nat) : Int), .int .u64 ((18446744073709551615 ^^^ x.d : Nat) : Int)] rfl rfl) ?_
 exact ⟨rfl, (hH.sb sln).fresh⟩
end Go.Proofs.YtllfpnbhjfadiaaGreatDoor
/- Layer 2 (class): a text of a class is read: what the program's functions answer. -/
set_option maxRecDepth 100000
set_option maxHeartbeats 2000000
set_option linter.unusedVariables false
set_option linter.unusedSimpArgs false
namespace Go.Proofs.YtllfpnbhjfadiaaGreatDoor
open Go.RowKit Go.SW
abbrev fltV (er : Option (Nat × Int)) (fb : Nat) : Value := ifW er.isNone 94 (.pointer (some ⟨fb, 0, none⟩))
def fltO (er : Option (Nat × Int)) (fb : Nat) : Own := .grp (match er with | none => [] | some p => [.blk fb 97 [.int .i64 ((p.1 : Nat) : Int), .int .i64 p.2]])
def erOf {α : Type} : Except (Nat × Nat) α → Option (Nat × Int)
  | .ok _ => none
  | .error p => some (p.1, ((p.2 : Nat) : Int))
abbrev rdcO (g : Nat) (s : List UInt8) (p : Nat) : Own := .blk g 289 [.string (bs s), .int .i64 ((p : Nat) : Int)]
theorem flt_some {w0 w : World} {z : Zone} {F : List Nat} {r : List Own} {fb c : Nat} {a : Int} (h : Hp w0 w z F (.blk fb 97 [.int .i64 ((c : Nat) : Int), .int .i64 a] :: r)) : Hp w0 w z F (fltO (some (c, a)) fb :: r) := Hp.close (l := [.blk fb 97 [.int .i64 ((c : Nat) : Int), .int .i64 a]]) h
theorem flt_none {w0 w : World} {z : Zone} {F : List Nat} {r : List Own} (fb : Nat) (h : Hp w0 w z F r) : Hp w0 w z F (fltO none fb :: r) := Hp.close (l := []) h
theorem pickP_pos {s : List UInt8} {p : Nat} {l : List UInt8} (h : 0 ≤ pickI s p l) : pickP s p l = p + 1 := if_pos h
theorem pickP_neg {s : List UInt8} {p : Nat} {l : List UInt8} (h : pickI s p l < 0) : pickP s p l = p := if_neg (by omega)
theorem isC_in {s : List UInt8} {p c : Nat} (h : p < s.length) : isC s p c = (((gb s p : Nat) : Int) == ((c : Nat) : Int)) := by
  unfold isC bAt gb
  rw [List.getElem?_eq_getElem h, Bool.eq_iff_iff]
  simp [List.getElem?_eq_getElem h]
  omega
theorem isC_out {s : List UInt8} {p c : Nat} (h : s.length ≤ p) : isC s p c = false := by
  unfold isC bAt
  rw [List.getElem?_eq_none h]; rfl
theorem IndexByte_ct (l : List UInt8) (c : Nat) (w : World) : Fun Tryz.prog 101 [.string (bs l), .int .u8 ((c : Nat) : Int)] w fun v w' => v = .int .i64 (Lib.indexByte l (UInt8.ofNat c)) ∧ Fresh w w' [] := by
  refine Calls.mono (Tryz.strings_IndexByte (bs l) ((c : Nat) : Int) w) ?_
  rintro e w' ⟨rfl, rfl⟩
  exact ⟨_, rfl, by rw [show (bs l).data.toList = l from by simp [bs]]; rfl, Fresh.none (Below.refl _ _)⟩

theorem CWrong_ct (g p : Nat) (s : List UInt8) (w : World) (h0 : w.cell? ⟨g, 0, none⟩ = some (.string (bs s))) (h1 : w.cell? ⟨g, 1, none⟩ = some (.int .i64 ((p : Nat) : Int))) (hs : s.length ≤ 140737488355328) :
    Fun Tryz.prog 195 [.pointer (some ⟨g, 0, none⟩)] w fun v w' => ∃ fb, v = .iface 94 (.pointer (some ⟨fb, 0, none⟩)) ∧ Fresh w w' [.blk fb 97 [.int .i64 (((wrongC s p).1 : Nat) : Int), .int .i64 (((wrongC s p).2 : Nat) : Int)]] := by
 refine fun_of_sw Tryz.func195 rfl 28 rfl rfl ?_
 have hH := Hp.start w
 refine sw_sr <| Go0 1 <| Dn <| sw_seq <| sw_seq <| Dr hH sln ?_
 clear hH; intro w1 hH hS9
 refine Gp1 3 [0,1,2] 5 (.pointer (some ⟨g, 1, none⟩)) hS9 <| Dq 3 rfl (fun _ hS => (rd_load (by kernel_rfl) rfl (hS.zin _ _ h1))) hS9 <| Gp1 3 [4,5,6] 9 (.pointer (some ⟨g, 0, none⟩)) hS9 <| Dq 7 rfl (fun _ hS => (rd_load (by kernel_rfl) rfl (hS.zin _ _ h0))) hS9 <| Dc0 1 [8] 11 (.int .i64 (((bs s).size : Nat) : Int)) (Ni s.length) (by rw [bs_size]) hS9 <| Gp1 1 [9] 12 (.bool (decide ((p : Int) ≥ ((s.length : Nat) : Int)))) hS9 <| gdn [(0, .pointer (some ⟨g, 0, none⟩)), (12, .bool (decide ((p : Int) ≥ ((s.length : Nat) : Int))))] <| sw_next <| If rfl (fun hc1 => ?_) (fun hc1 => ?_)
 have hw : wrongC s p = (3, s.length) := if_pos (by omega)
 refine sw_sr <| Go1 3 15 (.pointer (some ⟨g, 0, none⟩)) <| Gq rfl (rd_load (by kernel_rfl) rfl (hH.zin _ _ h0)) <| Gc0 1 17 (.int .i64 (((bs s).size : Nat) : Int)) (Ni s.length) (by rw [bs_size]) <| Go1 1 18 (.agg #[.int .i64 3, Ni s.length]) <| gl_st (Bx [.int .i64 3, Ni s.length] rfl hH ?_)
 clear hH; intro b2 w3 hH
 refine Go1 2 2 (.iface 94 (Pp b2 0)) <| Dn <| Rt1 rfl rfl ?_
 rw [hw]
 exact ⟨_, rfl, (hH.sb (slk sln)).fresh⟩
 have hw : wrongC s p = (4, p) := if_neg (by omega)
 refine Sk <| sw_sr <| Go1 3 23 (.pointer (some ⟨g, 1, none⟩)) <| Gq rfl (rd_load (by kernel_rfl) rfl (hH.zin _ _ h1)) <| Go1 1 25 (.agg #[.int .i64 4, Ni p]) <| gl_st (Bx [.int .i64 4, Ni p] rfl hH ?_)
 clear hH; intro b4 w5 hH
 refine Go1 2 2 (.iface 94 (Pp b4 0)) <| Dn <| Rt1 rfl rfl ?_
 rw [hw]
 exact ⟨_, rfl, (hH.sb (slk sln)).fresh⟩
theorem CIs_ct (g p c : Nat) (s : List UInt8) (w : World) (h0 : w.cell? ⟨g, 0, none⟩ = some (.string (bs s))) (h1 : w.cell? ⟨g, 1, none⟩ = some (.int .i64 ((p : Nat) : Int))) (hs : s.length ≤ 140737488355328) :
    Fun Tryz.prog 231 [.pointer (some ⟨g, 0, none⟩), .int .u8 ((c : Nat) : Int)] w fun v w' => v = .bool (isC s p c) ∧ Fresh w w' [] := by
 refine fun_of_sw Tryz.func231 rfl 28 rfl rfl ?_
 have hH := Hp.start w
 refine sw_sr <| Go0 1 <| Dn <| sw_seq <| Dr hH sln ?_
 clear hH; intro w1 hH hS9
 refine Gp1 3 [0,1,2] 7 (.pointer (some ⟨g, 1, none⟩)) hS9 <| Dq 3 rfl (fun _ hS => (rd_load (by kernel_rfl) rfl (hS.zin _ _ h1))) hS9 <| Gp1 3 [4,5,6] 11 (.pointer (some ⟨g, 0, none⟩)) hS9 <| Dq 7 rfl (fun _ hS => (rd_load (by kernel_rfl) rfl (hS.zin _ _ h0))) hS9 <| Dc0 1 [8] 13 (.int .i64 (((bs s).size : Nat) : Int)) (Ni s.length) (by rw [bs_size]) hS9 <| Gp1 2 [9,10] 15 (.bool (decide ((p : Int) < ((s.length : Nat) : Int)))) hS9 <| Di 15 rfl (fun hg1 => ?_) (fun hg1 => ?_)
 have hlt := hg1
 refine Gp1 3 [11,12,13] 18 (.pointer (some ⟨g, 0, none⟩)) hS9 <| Dq 14 rfl (fun _ hS => (rd_load (by kernel_rfl) rfl (hS.zin _ _ h0))) hS9 <| Gp1 3 [15,16,17] 22 (.pointer (some ⟨g, 1, none⟩)) hS9 <| Dq 18 rfl (fun _ hS => (rd_load (by kernel_rfl) rfl (hS.zin _ _ h1))) hS9 <| Dq 19 rfl (fun _ hS => (rd_sidx (by kernel_rfl) rfl p rfl (by omega))) hS9 <| Gp1 4 [20,21,22,23] 4 (.bool (((gb s p : Nat) : Int) == (c : Int))) hS9 <| gdn [(4, .bool (((gb s p : Nat) : Int) == (c : Int)))] <| sw_next <| Rt1 rfl rfl ?_
 first
 | exact ⟨by rw [isC_in (by omega)], (hH.sb sln).fresh⟩
 | exact ⟨by rw [isC_out (by omega)], (hH.sb sln).fresh⟩
 have hge := hg1
 refine Gp1 13 [11,12,13,14,15,16,17,18,19,20,21,22,23] 4 (.bool false) hS9 <| gdn [(4, .bool false)] <| sw_next <| Rt1 rfl rfl ?_
 first
 | exact ⟨by rw [isC_in (by omega)], (hH.sb sln).fresh⟩
 | exact ⟨by rw [isC_out (by omega)], (hH.sb sln).fresh⟩
theorem CPick_ct (g p : Nat) (s l : List UInt8) (w : World) (hM : Mine w [rdcO g s p]) (hs : s.length ≤ 140737488355328) :
    Fun Tryz.prog 194 [.pointer (some ⟨g, 0, none⟩), .string (bs l)] w fun v w' => v = .int .i64 (pickI s p l) ∧ Turn w w' [rdcO g s p] [rdcO g s (pickP s p l)] := by
 refine fun_of_sw Tryz.func194 rfl 37 rfl rfl ?_
 have hH := Hp.start_mine hM
 refine sw_sr <| Go0 1 <| Dn <| sw_seq <| sw_seq <| Dr hH (slk sln) ?_
 clear hH; intro w1 hH hS9
 refine Gp1 3 [0,1,2] 8 (Pp g 1) hS9 <| Dq 3 rfl (fun _ hS => (Lk 0 hS rfl rfl rfl)) hS9 <| Gp1 3 [4,5,6] 12 (Pp g 0) hS9 <| Dq 7 rfl (fun _ hS => (Lk 0 hS rfl rfl rfl)) hS9 <| Dc0 1 [8] 14 (.int .i64 (((bs s).size : Nat) : Int)) (Ni s.length) (by rw [bs_size]) hS9 <| Gp1 1 [9] 15 (.bool (decide ((p : Int) ≥ ((s.length : Nat) : Int)))) hS9 <| gdn [(0, Pp g 0), (1, .string (bs l)), (15, .bool (decide ((p : Int) ≥ ((s.length : Nat) : Int))))] <| sw_next <| If rfl (fun hc1 => ?_) (fun hc1 => ?_)
 have hn := pickI_none l (show s.length ≤ p by omega)
 refine sw_sr <| Go1 1 4 (.int .i64 (-1)) <| Dn <| Rt1 rfl rfl ?_
 first
 | (rw [pickP_neg (by omega)]; exact ⟨by rw [hn], (hH.sb (slk sln)).turned⟩)
 | (rw [hp]; exact ⟨by rw [hn], (hH.sb (slk sln)).turned⟩)
 have hn := pickI_some l (show p < s.length by omega)
 refine Sk <| sw_seq <| Dr hH (slk sln) ?_
 clear hH; intro w2 hH hS9
 refine Gp2 4 [0,1,2,3] 16 (.string (bs l)) 19 (Pp g 0) hS9 <| Dq 4 rfl (fun _ hS => (Lk 0 hS rfl rfl rfl)) hS9 <| Gp1 3 [5,6,7] 23 (Pp g 1) hS9 <| Dq 8 rfl (fun _ hS => (Lk 0 hS rfl rfl rfl)) hS9 <| Dq 9 rfl (fun _ hS => (rd_sidx (by kernel_rfl) rfl p rfl (by omega))) hS9 <| gds 10 (Sc rfl rfl (IndexByte_ct l (gb s p) _) ?_)
 rintro _ w3 ⟨rfl, hF4⟩
 replace hH := hH.call hF4
 refine Nl (hH.sb (slk sln)) fun hS9 => Gp1 1 [11] 5 (.int .i64 (Lib.indexByte l (UInt8.ofNat (gb s p)))) hS9 <| gdn [(0, Pp g 0), (5, .int .i64 (Lib.indexByte l (UInt8.ofNat (gb s p))))] <| sw_next <| sw_seq <| sw_sr <| Go1 2 28 (.bool (decide ((Lib.indexByte l (UInt8.ofNat (gb s p))) ≥ (0 : Int)))) <| Dn <| If rfl (fun hc2 => ?_) (fun hc2 => ?_)
 have hp := pickP_pos (s := s) (p := p) (l := l) (by omega)
 refine sw_region <| Go2 3 29 (Pp g 0) 31 (Pp g 1) <| Gq rfl (Lk 0 hH rfl rfl rfl) <| Gw0 1 33 ((p : Int) + 1) ((p + 1 : Nat) : Int) <| Go1 2 35 (Pp g 1) <| gl_st (Ks 0 (Ni (p + 1)) rfl hH rfl rfl ?_)
 clear hH; intro w5 hH
 refine Dd <| sw_next <| sw_sr <| Go1 2 4 (.int .i64 (Lib.indexByte l (UInt8.ofNat (gb s p)))) <| Dn <| Rt1 rfl rfl ?_
 first
 | (rw [pickP_neg (by omega)]; exact ⟨by rw [hn], (hH.sb (slk sln)).turned⟩)
 | (rw [hp]; exact ⟨by rw [hn], (hH.sb (slk sln)).turned⟩)
 have hp := pickP_neg (s := s) (p := p) (l := l) (by omega)
 refine Sk <| sw_sr <| Go1 2 4 (.int .i64 (Lib.indexByte l (UInt8.ofNat (gb s p)))) <| Dn <| Rt1 rfl rfl ?_
 first
 | (rw [pickP_neg (by omega)]; exact ⟨by rw [hn], (hH.sb (slk sln)).turned⟩)
 | (rw [hp]; exact ⟨by rw [hn], (hH.sb (slk sln)).turned⟩)
end Go.Proofs.YtllfpnbhjfadiaaGreatDoor
/- Layer 2 (class): signs, members, the whole text of a class: what the program's functions answer. -/
set_option maxRecDepth 100000
set_option maxHeartbeats 2000000
set_option linter.unusedVariables false
set_option linter.unusedSimpArgs false
namespace Go.Proofs.YtllfpnbhjfadiaaGreatDoor
open Go.RowKit Go.SW
def SgPost (g : Nat) (s : List UInt8) (p : Nat) (R : Except (Nat × Nat) (Nat × Nat)) (w : World) (v : Value) (w' : World) : Prop :=
  ∃ x e fb, v = .tuple #[.int .i64 ((x : Nat) : Int), fltV (erOf R) fb] ∧ ((∃ er, R = .error er) ∨ (R = .ok (x, e) ∧ x < 256 ∧ p < e ∧ e ≤ s.length)) ∧ Turn w w' [rdcO g s p] [rdcO g s e, fltO (erOf R) fb]
theorem sg_err {g : Nat} {s : List UInt8} {p q fb : Nat} {R : Except (Nat × Nat) (Nat × Nat)} {er : Nat × Nat} {w w' : World} (hR : R = .error er) (h : Turn w w' [rdcO g s p] [.blk fb 97 [.int .i64 ((er.1 : Nat) : Int), .int .i64 ((er.2 : Nat) : Int)], rdcO g s q]) : SgPost g s p R w (.tuple #[.int .i64 0, .iface 94 (.pointer (some ⟨fb, 0, none⟩))]) w' := by
  subst hR
  refine ⟨0, q, fb, rfl, .inl ⟨er, rfl⟩, ?_⟩
  have h2 : Hp w w' (fun _ => none) (blksOf [rdcO g s p]) [fltO (erOf (α := Nat × Nat) (.error er)) fb, rdcO g s q] := flt_some (c := er.1) (a := ((er.2 : Nat) : Int)) h
  exact h2.fr2
theorem sg_ok {g : Nat} {s : List UInt8} {p x e : Nat} {R : Except (Nat × Nat) (Nat × Nat)} {w w' : World} (hR : R = .ok (x, e)) (h1 : x < 256) (h2 : p < e) (h3 : e ≤ s.length) (h : Turn w w' [rdcO g s p] [rdcO g s e]) : SgPost g s p R w (.tuple #[.int .i64 ((x : Nat) : Int), .nilIface]) w' := by
  subst hR
  refine ⟨x, e, 0, rfl, .inr ⟨rfl, h1, h2, h3⟩, ?_⟩
  have h2 : Hp w w' (fun _ => none) (blksOf [rdcO g s p]) [fltO (erOf (α := Nat × Nat) (.ok (x, e))) 0, rdcO g s e] := flt_none 0 h
  exact h2.fr2
theorem isC_eq {s : List UInt8} {p c : Nat} (h : isC s p c = true) : p < s.length ∧ gb s p = c := by
  by_cases hp : p < s.length
  · rw [isC_in hp, beq_iff_eq] at h
    exact ⟨hp, by omega⟩
  · rw [isC_out (by omega)] at h; cases h

theorem CSign_ct (g p : Nat) (s : List UInt8) (w : World) (hM : Mine w [rdcO g s p]) (hs : s.length ≤ 140737488355328) (hp : p ≤ s.length) :
    Fun Tryz.prog 230 [.pointer (some ⟨g, 0, none⟩)] w fun v w' => SgPost g s p (rsignC s p) w v w' := by
 refine fun_of_sw Tryz.func230 rfl 120 rfl rfl ?_
 have hH := Hp.start_mine hM
 refine sw_sr <| Go0 2 <| Dn <| sw_seq <| sw_sr <| Go1 1 8 (Pp g 0) <| gl_st (Sc rfl rfl (CIs_ct g p 92 s _ (hH.blk_cell 0 rfl rfl) (hH.blk_cell 0 rfl rfl) hs) ?_)
 rintro _ w1 ⟨rfl, hF2⟩
 replace hH := hH.call hF2
 refine Go1 1 10 (.bool (!(isC s p 92))) <| Dn <| If rfl (fun hc1 => ?_) (fun hc1 => ?_)
 have h92 := hc1
 refine sw_seq <| sw_seq <| Dr hH (slk sln) ?_
 clear hH; intro w3 hH hS9
 refine Gp1 3 [0,1,2] 13 (Pp g 1) hS9 <| Dq 3 rfl (fun _ hS => (Lk 0 hS rfl rfl rfl)) hS9 <| Gp1 3 [4,5,6] 17 (Pp g 0) hS9 <| Dq 7 rfl (fun _ hS => (Lk 0 hS rfl rfl rfl)) hS9 <| Dc0 1 [8] 19 (.int .i64 (((bs s).size : Nat) : Int)) (Ni s.length) (by rw [bs_size]) hS9 <| Gp1 2 [9,10] 21 (.bool (decide ((p : Int) ≥ ((s.length : Nat) : Int)))) hS9 <| Di 21 rfl (fun hg2 => ?_) (fun hg2 => ?_)
 have ha := hg2
 refine Gp1 36 [11,12,13,14,15,16,17,18,19,20,21,22,23,24,25,26,27,28,29,30,31,32,33,34,35,36,37,38,39,40,41,42,43,44,45,46] 57 (.bool true) hS9 <| gdn [(0, Pp g 0), (57, .bool true)] <| sw_next <| It <| sw_sr <| Go1 1 58 (Pp g 0) <| gl_st (Sc rfl rfl (CWrong_ct g p s _ (hH.blk_cell 0 rfl rfl) (hH.blk_cell 0 rfl rfl) hs) ?_)
 rintro _ w5 ⟨fb4, rfl, hF6⟩
 replace hH := hH.call hF6
 refine Go2 2 2 (.int .i64 0) 3 (.iface 94 (Pp fb4 0)) <| Dn <| Rt2 rfl rfl rfl ?_
 replace hH := hH.fr2
 replace hH := (hH.sb (slk (slk sln))).n2
 exact sg_err (by unfold rsignC; rw [if_pos h92, if_pos (.inl (by omega))]) hH.turned
 have na := hg2
 refine Gp1 3 [11,12,13] 24 (Pp g 0) hS9 <| Dq 14 rfl (fun _ hS => (Lk 0 hS rfl rfl rfl)) hS9 <| Gp1 3 [15,16,17] 28 (Pp g 1) hS9 <| Dq 18 rfl (fun _ hS => (Lk 0 hS rfl rfl rfl)) hS9 <| Dq 19 rfl (fun _ hS => (rd_sidx (by kernel_rfl) rfl p rfl (by omega))) hS9 <| Gp1 3 [20,21,22] 33 (.bool (decide (((gb s p : Nat) : Int) < (32 : Int)))) hS9 <| Di 33 rfl (fun hg4 => ?_) (fun hg4 => ?_)
 have hb := hg4
 refine Gp1 24 [23,24,25,26,27,28,29,30,31,32,33,34,35,36,37,38,39,40,41,42,43,44,45,46] 57 (.bool true) hS9 <| gdn [(0, Pp g 0), (57, .bool true)] <| sw_next <| It <| sw_sr <| Go1 1 58 (Pp g 0) <| gl_st (Sc rfl rfl (CWrong_ct g p s _ (hH.blk_cell 0 rfl rfl) (hH.blk_cell 0 rfl rfl) hs) ?_)
 rintro _ w8 ⟨fb7, rfl, hF9⟩
 replace hH := hH.call hF9
 refine Go2 2 2 (.int .i64 0) 3 (.iface 94 (Pp fb7 0)) <| Dn <| Rt2 rfl rfl rfl ?_
 replace hH := hH.fr2
 replace hH := (hH.sb (slk (slk sln))).n2
 exact sg_err (by unfold rsignC; rw [if_pos h92, if_pos (.inr (.inl (by omega)))]) hH.turned
 have nb := hg4
 refine Gp1 3 [23,24,25] 36 (Pp g 0) hS9 <| Dq 26 rfl (fun _ hS => (Lk 0 hS rfl rfl rfl)) hS9 <| Gp1 3 [27,28,29] 40 (Pp g 1) hS9 <| Dq 30 rfl (fun _ hS => (Lk 0 hS rfl rfl rfl)) hS9 <| Dq 31 rfl (fun _ hS => (rd_sidx (by kernel_rfl) rfl p rfl (by omega))) hS9 <| Gp1 3 [32,33,34] 45 (.bool (decide (((gb s p : Nat) : Int) > (126 : Int)))) hS9 <| Di 45 rfl (fun hg6 => ?_) (fun hg6 => ?_)
 have hc := hg6
 refine Gp1 12 [35,36,37,38,39,40,41,42,43,44,45,46] 57 (.bool true) hS9 <| gdn [(0, Pp g 0), (57, .bool true)] <| sw_next <| It <| sw_sr <| Go1 1 58 (Pp g 0) <| gl_st (Sc rfl rfl (CWrong_ct g p s _ (hH.blk_cell 0 rfl rfl) (hH.blk_cell 0 rfl rfl) hs) ?_)
 rintro _ w11 ⟨fb10, rfl, hF12⟩
 replace hH := hH.call hF12
 refine Go2 2 2 (.int .i64 0) 3 (.iface 94 (Pp fb10 0)) <| Dn <| Rt2 rfl rfl rfl ?_
 replace hH := hH.fr2
 replace hH := (hH.sb (slk (slk sln))).n2
 exact sg_err (by unfold rsignC; rw [if_pos h92, if_pos (.inr (.inr (.inl (by omega))))]) hH.turned
 have nc := hg6
 refine Gp1 3 [35,36,37] 48 (Pp g 0) hS9 <| Dq 38 rfl (fun _ hS => (Lk 0 hS rfl rfl rfl)) hS9 <| Gp1 3 [39,40,41] 52 (Pp g 1) hS9 <| Dq 42 rfl (fun _ hS => (Lk 0 hS rfl rfl rfl)) hS9 <| gdk [(0, Pp g 0), (45, .bool false), (49, .string (bs s)), (53, Ni p)] <| Dq 43 rfl (fun _ hS => (rd_sidx (by kernel_rfl) rfl p rfl (by omega))) hS9 <| gds 44 (Sc rfl rfl (IndexByte_ct [91, 93, 92, 45, 94] (gb s p) _) ?_)
 rintro _ w13 ⟨rfl, hF14⟩
 replace hH := hH.call hF14
 refine Nl (hH.sb (slk sln)) fun hS9 => Gp1 2 [45,46] 57 (.bool (decide ((Lib.indexByte [91, 93, 92, 45, 94] (UInt8.ofNat (gb s p))) ≥ (0 : Int)))) hS9 <| gdn [(0, Pp g 0), (57, .bool (decide ((Lib.indexByte [91, 93, 92, 45, 94] (UInt8.ofNat (gb s p))) ≥ (0 : Int))))] <| sw_next <| If rfl (fun hc8 => ?_) (fun hc8 => ?_)
 have hq := hc8
 refine sw_sr <| Go1 1 58 (Pp g 0) <| gl_st (Sc rfl rfl (CWrong_ct g p s _ (hH.blk_cell 0 rfl rfl) (hH.blk_cell 0 rfl rfl) hs) ?_)
 rintro _ w16 ⟨fb15, rfl, hF17⟩
 replace hH := hH.call hF17
 refine Go2 2 2 (.int .i64 0) 3 (.iface 94 (Pp fb15 0)) <| Dn <| Rt2 rfl rfl rfl ?_
 replace hH := hH.fr2
 replace hH := (hH.sb (slk (slk sln))).n2
 exact sg_err (by unfold rsignC; rw [if_pos h92, if_pos (.inr (.inr (.inr (by omega))))]) hH.turned
 have nq := hc8
 refine Sk <| sw_sr <| Go2 3 60 (Pp g 0) 62 (Pp g 1) <| Gq rfl (Lk 0 hH rfl rfl rfl) <| Gw0 1 64 ((p : Int) + 1) ((p + 1 : Nat) : Int) <| Go1 2 66 (Pp g 1) <| gl_st (Ks 0 (Ni (p + 1)) rfl hH rfl rfl ?_)
 clear hH; intro w18 hH
 refine Dn <| sw_seq <| Dr hH (slk sln) ?_
 clear hH; intro w19 hH hS9
 refine Gp1 3 [0,1,2] 69 (Pp g 0) hS9 <| Dq 3 rfl (fun _ hS => (Lk 0 hS rfl rfl rfl)) hS9 <| Gp1 3 [4,5,6] 73 (Pp g 1) hS9 <| Dq 7 rfl (fun _ hS => (Lk 0 hS rfl rfl rfl)) hS9 <| Dw0 1 [8] 75 (((p + 1 : Nat) : Int) - 1) (p : Int) hS9 <| Dq 9 rfl (fun _ hS => (rd_sidx (by kernel_rfl) rfl p rfl (by omega))) hS9 <| Dw0 1 [10] 77 ((gb s p : Nat) : Int) ((gb s p : Nat) : Int) hS9 <| Gp2 2 [11,12] 2 (Ni (gb s p)) 3 (.nilIface) hS9 <| gdn [(2, Ni (gb s p)), (3, .nilIface)] <| sw_next <| Rt2 rfl rfl rfl ?_
 replace hH := (hH.sb (slk sln)).n1
 exact sg_ok (by unfold rsignC; rw [if_pos h92, if_neg (by omega)]) (gb_lt _ _) (by omega) (by omega) hH.turned
 have h92 := hc1
 have hin := (isC_eq h92).1
 refine Sk <| sw_sr <| Go2 3 78 (Pp g 0) 80 (Pp g 1) <| Gq rfl (Lk 0 hH rfl rfl rfl) <| Gw0 1 82 ((p : Int) + 1) ((p + 1 : Nat) : Int) <| Go1 2 84 (Pp g 1) <| gl_st (Ks 0 (Ni (p + 1)) rfl hH rfl rfl ?_)
 clear hH; intro w20 hH
 refine Dn <| sw_seq <| sw_sr <| Go1 1 85 (Pp g 0) ?_
 replace hH : Hp w w20 _ _ ([_] ++ []) := hH
 refine gl_st (Sc rfl rfl (CPick_ct g (p + 1) s [110, 114, 116] _ hH.mine hs) ?_)
 rintro _ w21 ⟨rfl, hF22⟩
 replace hH := hH.turns hF22
 replace hH := hH.n1
 refine Go1 1 4 (.int .i64 (pickI s (p + 1) [110, 114, 116])) <| Dn <| sw_sr <| Go1 2 88 (.bool (decide ((pickI s (p + 1) [110, 114, 116]) ≥ (0 : Int)))) <| Dn <| If rfl (fun hc9 => ?_) (fun hc9 => ?_)
 have hn := hc9
 have hinhn := pickI_in (s := s) hn
 rw [pickP_pos (s := s) (p := p + 1) (l := [110, 114, 116]) (by omega)] at hH
 replace hH : Hp w w21 _ _ [.blk g 289 [.string (bs s), Ni (p + 2)]] := hH
 refine sw_sr <| Go1 1 89 (.int .i64 (pickI s (p + 1) [110, 114, 116])) ?_
 obtain ⟨i23, hi23⟩ : ∃ i : Nat, pickI s (p + 1) [110, 114, 116] = i := ⟨(pickI s (p + 1) [110, 114, 116]).toNat, by omega⟩
 have li23 : i23 < 3 := by have h9 := (pickI_lt s (p + 1) [110, 114, 116]).2; simp only [List.length_cons, List.length_nil] at h9; omega
 refine gl_cv 89 (Ni i23) (by rw [hi23]) rfl <| Gq rfl (rd_sidx (by kernel_rfl) rfl i23 rfl (by show _ < 3; omega)) ?_
 have hg9 := gb_lt [10, 13, 9] i23
 refine Gw0 1 91 ((gb [10, 13, 9] i23 : Nat) : Int) ((gb [10, 13, 9] i23 : Nat) : Int) <| Go2 2 2 (Ni (gb [10, 13, 9] i23)) 3 (.nilIface) <| Dn <| Rt2 rfl rfl rfl ?_
 replace hH := (hH.sb (slk sln)).n1
 exact sg_ok (by unfold rsignC; rw [if_neg (by rw [h92]; simp), if_pos hn, show (pickI s (p + 1) [110, 114, 116]).toNat = i23 from by omega]) (gb_lt _ _) (by omega) (by omega) hH.turned
 have nhn := hc9
 rw [pickP_neg (s := s) (p := p + 1) (l := [110, 114, 116]) (by omega)] at hH
 replace hH : Hp w w21 _ _ [.blk g 289 [.string (bs s), Ni (p + 1)]] := hH
 refine Sk <| sw_seq <| sw_sr <| Go1 1 92 (Pp g 0) ?_
 replace hH : Hp w w21 _ _ ([_] ++ []) := hH
 refine gl_st (Sc rfl rfl (CPick_ct g (p + 1) s [91, 93, 92, 45, 94] _ hH.mine hs) ?_)
 rintro _ w24 ⟨rfl, hF25⟩
 replace hH := hH.turns hF25
 replace hH := hH.n1
 refine Go1 1 5 (.int .i64 (pickI s (p + 1) [91, 93, 92, 45, 94])) <| Dn <| sw_sr <| Go1 2 95 (.bool (decide ((pickI s (p + 1) [91, 93, 92, 45, 94]) ≥ (0 : Int)))) <| Dn <| If rfl (fun hc10 => ?_) (fun hc10 => ?_)
 have h5 := hc10
 have hinh5 := pickI_in (s := s) h5
 rw [pickP_pos (s := s) (p := p + 1) (l := [91, 93, 92, 45, 94]) (by omega)] at hH
 replace hH : Hp w w24 _ _ [.blk g 289 [.string (bs s), Ni (p + 2)]] := hH
 refine sw_sr <| Go1 1 96 (.int .i64 (pickI s (p + 1) [91, 93, 92, 45, 94])) ?_
 obtain ⟨i26, hi26⟩ : ∃ i : Nat, pickI s (p + 1) [91, 93, 92, 45, 94] = i := ⟨(pickI s (p + 1) [91, 93, 92, 45, 94]).toNat, by omega⟩
 have li26 : i26 < 5 := by have h9 := (pickI_lt s (p + 1) [91, 93, 92, 45, 94]).2; simp only [List.length_cons, List.length_nil] at h9; omega
 refine gl_cv 96 (Ni i26) (by rw [hi26]) rfl <| Gq rfl (rd_sidx (by kernel_rfl) rfl i26 rfl (by show _ < 5; omega)) ?_
 have hg9 := gb_lt [91, 93, 92, 45, 94] i26
 refine Gw0 1 98 ((gb [91, 93, 92, 45, 94] i26 : Nat) : Int) ((gb [91, 93, 92, 45, 94] i26 : Nat) : Int) <| Go2 2 2 (Ni (gb [91, 93, 92, 45, 94] i26)) 3 (.nilIface) <| Dn <| Rt2 rfl rfl rfl ?_
 replace hH := (hH.sb (slk sln)).n1
 exact sg_ok (by unfold rsignC; rw [if_neg (by rw [h92]; simp), if_neg (by omega), if_pos h5, show (pickI s (p + 1) [91, 93, 92, 45, 94]).toNat = i26 from by omega]) (gb_lt _ _) (by omega) (by omega) hH.turned
 have nh5 := hc10
 rw [pickP_neg (s := s) (p := p + 1) (l := [91, 93, 92, 45, 94]) (by omega)] at hH
 replace hH : Hp w w24 _ _ [.blk g 289 [.string (bs s), Ni (p + 1)]] := hH
 refine Sk <| sw_seq <| sw_sr <| Go1 1 99 (Pp g 0) ?_
 replace hH : Hp w w24 _ _ ([_] ++ []) := hH
 refine gl_st (Sc rfl rfl (CPick_ct g (p + 1) s [120] _ hH.mine hs) ?_)
 rintro _ w27 ⟨rfl, hF28⟩
 replace hH := hH.turns hF28
 replace hH := hH.n1
 refine Go1 1 101 (.bool (decide ((pickI s (p + 1) [120]) < (0 : Int)))) <| Dn <| If rfl (fun hc11 => ?_) (fun hc11 => ?_)
 have hx := hc11
 rw [pickP_neg (s := s) (p := p + 1) (l := [120]) (by omega)] at hH
 replace hH : Hp w w27 _ _ [.blk g 289 [.string (bs s), Ni (p + 1)]] := hH
 refine sw_sr <| Go1 1 102 (Pp g 0) <| gl_st (Sc rfl rfl (CWrong_ct g (p + 1) s _ (hH.blk_cell 0 rfl rfl) (hH.blk_cell 0 rfl rfl) hs) ?_)
 rintro _ w30 ⟨fb29, rfl, hF31⟩
 replace hH := hH.call hF31
 refine Go2 2 2 (.int .i64 0) 3 (.iface 94 (Pp fb29 0)) <| Dn <| Rt2 rfl rfl rfl ?_
 replace hH := hH.fr2
 replace hH := (hH.sb (slk (slk sln))).n2
 exact sg_err (by unfold rsignC; rw [if_neg (by rw [h92]; simp), if_neg (by omega), if_neg (by omega), if_pos hx]) hH.turned
 have nhx := hc11
 have hinhx := pickI_in (s := s) nhx
 rw [pickP_pos (s := s) (p := p + 1) (l := [120]) (by omega)] at hH
 replace hH : Hp w w27 _ _ [.blk g 289 [.string (bs s), Ni (p + 2)]] := hH
 refine Sk <| sw_sr <| Go1 1 104 (Pp g 0) ?_
 replace hH : Hp w w27 _ _ ([_] ++ []) := hH
 refine gl_st (Sc rfl rfl (CPick_ct g (p + 2) s [48, 49, 50, 51, 52, 53, 54, 55, 56, 57, 97, 98, 99, 100, 101, 102] _ hH.mine hs) ?_)
 rintro _ w32 ⟨rfl, hF33⟩
 replace hH := hH.turns hF33
 replace hH := hH.n1
 refine Go1 1 6 (.int .i64 (pickI s (p + 2) [48, 49, 50, 51, 52, 53, 54, 55, 56, 57, 97, 98, 99, 100, 101, 102])) <| Dn <| sw_seq <| sw_sr <| Go1 2 107 (.bool (decide ((pickI s (p + 2) [48, 49, 50, 51, 52, 53, 54, 55, 56, 57, 97, 98, 99, 100, 101, 102]) < (0 : Int)))) <| Dn <| If rfl (fun hc12 => ?_) (fun hc12 => ?_)
 have hh := hc12
 rw [pickP_neg (s := s) (p := p + 2) (l := [48, 49, 50, 51, 52, 53, 54, 55, 56, 57, 97, 98, 99, 100, 101, 102]) (by omega)] at hH
 replace hH : Hp w w32 _ _ [.blk g 289 [.string (bs s), Ni (p + 2)]] := hH
 refine sw_sr <| Go1 1 108 (Pp g 0) <| gl_st (Sc rfl rfl (CWrong_ct g (p + 2) s _ (hH.blk_cell 0 rfl rfl) (hH.blk_cell 0 rfl rfl) hs) ?_)
 rintro _ w35 ⟨fb34, rfl, hF36⟩
 replace hH := hH.call hF36
 refine Go2 2 2 (.int .i64 0) 3 (.iface 94 (Pp fb34 0)) <| Dn <| Rt2 rfl rfl rfl ?_
 replace hH := hH.fr2
 replace hH := (hH.sb (slk (slk sln))).n2
 exact sg_err (by unfold rsignC; rw [if_neg (by rw [h92]; simp), if_neg (by omega), if_neg (by omega), if_neg (by omega), if_pos hh]) hH.turned
 have nhh := hc12
 have hinhh := pickI_in (s := s) nhh
 rw [pickP_pos (s := s) (p := p + 2) (l := [48, 49, 50, 51, 52, 53, 54, 55, 56, 57, 97, 98, 99, 100, 101, 102]) (by omega)] at hH
 replace hH : Hp w w32 _ _ [.blk g 289 [.string (bs s), Ni (p + 3)]] := hH
 have vh := pickI_lt s (p + 2) [48, 49, 50, 51, 52, 53, 54, 55, 56, 57, 97, 98, 99, 100, 101, 102]
 simp only [List.length_cons, List.length_nil] at vh
 refine Sk <| sw_sr <| Go1 1 110 (Pp g 0) ?_
 replace hH : Hp w w32 _ _ ([_] ++ []) := hH
 refine gl_st (Sc rfl rfl (CPick_ct g (p + 3) s [48, 49, 50, 51, 52, 53, 54, 55, 56, 57, 97, 98, 99, 100, 101, 102] _ hH.mine hs) ?_)
 rintro _ w37 ⟨rfl, hF38⟩
 replace hH := hH.turns hF38
 replace hH := hH.n1
 refine Go1 1 7 (.int .i64 (pickI s (p + 3) [48, 49, 50, 51, 52, 53, 54, 55, 56, 57, 97, 98, 99, 100, 101, 102])) <| Dn <| sw_seq <| sw_sr <| Go1 2 113 (.bool (decide ((pickI s (p + 3) [48, 49, 50, 51, 52, 53, 54, 55, 56, 57, 97, 98, 99, 100, 101, 102]) < (0 : Int)))) <| Dn <| If rfl (fun hc13 => ?_) (fun hc13 => ?_)
 have hl := hc13
 rw [pickP_neg (s := s) (p := p + 3) (l := [48, 49, 50, 51, 52, 53, 54, 55, 56, 57, 97, 98, 99, 100, 101, 102]) (by omega)] at hH
 replace hH : Hp w w37 _ _ [.blk g 289 [.string (bs s), Ni (p + 3)]] := hH
 refine sw_sr <| glo 1 [(114, Pp g 0)] <| gl_st (Sc rfl rfl (CWrong_ct g (p + 3) s _ (hH.blk_cell 0 rfl rfl) (hH.blk_cell 0 rfl rfl) hs) ?_)
 rintro _ w40 ⟨fb39, rfl, hF41⟩
 replace hH := hH.call hF41
 refine Go2 2 2 (.int .i64 0) 3 (.iface 94 (Pp fb39 0)) <| Dn <| Rt2 rfl rfl rfl ?_
 replace hH := hH.fr2
 replace hH := (hH.sb (slk (slk sln))).n2
 exact sg_err (by unfold rsignC; rw [if_neg (by rw [h92]; simp), if_neg (by omega), if_neg (by omega), if_neg (by omega), if_neg (by omega), if_pos hl]) hH.turned
 have nhl := hc13
 have hinhl := pickI_in (s := s) nhl
 rw [pickP_pos (s := s) (p := p + 3) (l := [48, 49, 50, 51, 52, 53, 54, 55, 56, 57, 97, 98, 99, 100, 101, 102]) (by omega)] at hH
 replace hH : Hp w w37 _ _ [.blk g 289 [.string (bs s), Ni (p + 4)]] := hH
 have vl := pickI_lt s (p + 3) [48, 49, 50, 51, 52, 53, 54, 55, 56, 57, 97, 98, 99, 100, 101, 102]
 simp only [List.length_cons, List.length_nil] at vl
 refine Sk <| sw_sr <| glo 2 [(7, .int .i64 (pickI s (p + 3) [48, 49, 50, 51, 52, 53, 54, 55, 56, 57, 97, 98, 99, 100, 101, 102])), (117, .int .i64 (IntKind.i64.wrap (16 * (pickI s (p + 2) [48, 49, 50, 51, 52, 53, 54, 55, 56, 57, 97, 98, 99, 100, 101, 102]))))] <| gl_cv 117 (.int .i64 (16 * (pickI s (p + 2) [48, 49, 50, 51, 52, 53, 54, 55, 56, 57, 97, 98, 99, 100, 101, 102]))) (cv_i64 (by omega)) rfl <| Gw0 2 119 ((16 * (pickI s (p + 2) [48, 49, 50, 51, 52, 53, 54, 55, 56, 57, 97, 98, 99, 100, 101, 102])) + (pickI s (p + 3) [48, 49, 50, 51, 52, 53, 54, 55, 56, 57, 97, 98, 99, 100, 101, 102])) ((16 * (pickI s (p + 2) [48, 49, 50, 51, 52, 53, 54, 55, 56, 57, 97, 98, 99, 100, 101, 102])) + (pickI s (p + 3) [48, 49, 50, 51, 52, 53, 54, 55, 56, 57, 97, 98, 99, 100, 101, 102])) <| Go2 2 2 (.int .i64 ((16 * (pickI s (p + 2) [48, 49, 50, 51, 52, 53, 54, 55, 56, 57, 97, 98, 99, 100, 101, 102])) + (pickI s (p + 3) [48, 49, 50, 51, 52, 53, 54, 55, 56, 57, 97, 98, 99, 100, 101, 102]))) 3 (.nilIface) <| Dn <| Rt2 rfl rfl rfl ?_
 replace hH := (hH.sb (slk sln)).n1
 have e9 : (16 * (pickI s (p + 2) [48, 49, 50, 51, 52, 53, 54, 55, 56, 57, 97, 98, 99, 100, 101, 102])) + (pickI s (p + 3) [48, 49, 50, 51, 52, 53, 54, 55, 56, 57, 97, 98, 99, 100, 101, 102]) = ((((16 * (pickI s (p + 2) [48, 49, 50, 51, 52, 53, 54, 55, 56, 57, 97, 98, 99, 100, 101, 102])) + (pickI s (p + 3) [48, 49, 50, 51, 52, 53, 54, 55, 56, 57, 97, 98, 99, 100, 101, 102])).toNat : Nat) : Int) := by omega
 rw [e9]
 exact sg_ok (by unfold rsignC; rw [if_neg (by rw [h92]; simp), if_neg (by omega), if_neg (by omega), if_neg (by omega), if_neg (by omega), if_neg (by omega)]) (by omega) (by omega) (by omega) hH.turned
end Go.Proofs.YtllfpnbhjfadiaaGreatDoor
/- Layer 2 (class): rows of bytes, members, the whole text of a class: what the program's functions answer. -/
set_option maxRecDepth 100000
set_option maxHeartbeats 2000000
set_option linter.unusedVariables false
set_option linter.unusedSimpArgs false
namespace Go.Proofs.YtllfpnbhjfadiaaGreatDoor
open Go.RowKit Go.SW
theorem span_y {lo hi i f k : Nat} {t : Int} (hf : max ((lo : Int) - 64 * i) 0 = f) (ht : min ((hi : Int) - 64 * i) 63 = t) (h : (f : Int) ≤ t) (hk : 63 - t + f = k) : 18446744073709551615 / 2 ^ k * 2 ^ f = spanW lo hi i := by
  unfold spanW
  simp only [hf, ht, if_pos h, hk, Int.toNat_natCast]
theorem span_n {lo hi i f : Nat} {t : Int} (hf : max ((lo : Int) - 64 * i) 0 = f) (ht : min ((hi : Int) - 64 * i) 63 = t) (h : t < (f : Int)) : 0 = spanW lo hi i := by
  unfold spanW
  simp only [hf, ht]
  rw [if_neg (by omega)]
theorem memsC_end {s : List UInt8} {k : Nat} {c : Cl} {p : Nat} (h : 0 ≤ pickI s p [93]) : memsC s (k + 1) c p = .ok (c, p + 1) := by
  rw [memsC, if_neg (by omega)]
theorem memsC_next {s : List UInt8} {k : Nat} {c : Cl} {p : Nat} (h : pickI s p [93] < 0) : memsC s (k + 1) c p = match memC s p with | .error e => .error e | .ok (m, e) => memsC s k (eitherC c m) e := by
  rw [memsC, if_pos h] <;> rfl

def MbPost (g : Nat) (s : List UInt8) (p : Nat) (R : Except (Nat × Nat) (Cl × Nat)) (w : World) (v : Value) (w' : World) : Prop :=
  ∃ c e fb, v = .tuple #[.agg (clC c).toArray, fltV (erOf R) fb] ∧ ((∃ er, R = .error er) ∨ (R = .ok (c, e) ∧ c.Ok ∧ p < e ∧ e ≤ s.length)) ∧ Turn w w' [rdcO g s p] [rdcO g s e, fltO (erOf R) fb]
theorem mb_err {g : Nat} {s : List UInt8} {p q fb : Nat} {R : Except (Nat × Nat) (Cl × Nat)} {er : Nat × Nat} {w w' : World} (hR : R = .error er) (h : Turn w w' [rdcO g s p] [fltO (some (er.1, ((er.2 : Nat) : Int))) fb, rdcO g s q]) : MbPost g s p R w (.tuple #[.agg #[.int .u64 0, .int .u64 0, .int .u64 0, .int .u64 0], fltV (some (er.1, ((er.2 : Nat) : Int))) fb]) w' := by
  subst hR
  exact ⟨Cl.zero, q, fb, rfl, .inl ⟨er, rfl⟩, h.fr2⟩
theorem mb_ok {g : Nat} {s : List UInt8} {p e lo hi : Nat} {R : Except (Nat × Nat) (Cl × Nat)} {w w' : World} (hR : R = .ok (spanC lo hi, e)) (h1 : hi ≤ 255) (h2 : p < e) (h3 : e ≤ s.length) (h : Turn w w' [rdcO g s p] [rdcO g s e]) : MbPost g s p R w (.tuple #[.agg (clC (spanC lo hi)).toArray, .nilIface]) w' := by
  subst hR
  refine ⟨spanC lo hi, e, 0, rfl, .inr ⟨rfl, spanC_ok h1, h2, h3⟩, ?_⟩
  have h2 : Hp w w' (fun _ => none) (blksOf [rdcO g s p]) [fltO (erOf (α := Cl × Nat) (.ok (spanC lo hi, e))) 0, rdcO g s e] := flt_none 0 h
  exact h2.fr2

theorem Span_ct (lo hi : Nat) (w : World) (hl : lo ≤ 255) (hh : hi ≤ 255) :
    Fun Tryz.prog 232 [.int .i64 ((lo : Nat) : Int), .int .i64 ((hi : Nat) : Int)] w fun v w' => v = .agg (clC (spanC lo hi)).toArray ∧ Fresh w w' [] := by
 refine fun_of_sw Tryz.func232 rfl 35 rfl rfl ?_
 have hH := Hp.start w
 refine sw_sr <| gl_st (Alc [.int .u64 0, .int .u64 0, .int .u64 0, .int .u64 0] rfl hH ?_)
 clear hH; intro b1 w2 hH
 refine Dn <| sw_seq <| sw_sr <| Go1 1 8 (.int .i64 0) <| Dn <| sw_block <| sw_unroll <| sw_sr <| Go1 1 9 (.bool true) <| Dn <| sw_seq <| It <| sw_skip <| sw_next <| Cu (γ := Nat) hH (fun x0 => [(0, Ni lo), (1, Ni hi), (4, Pp b1 0), (8, .int .i64 0)]) (fun x0 w_ H_ => (x0 = spanW lo hi 0) ∧ H_ [.blk b1 38 [.int .u64 (x0 : Int), .int .u64 0, .int .u64 0, .int .u64 0]]) ?_ ?_
 ·
  refine sw_block <| sw_sr <| Go1 2 5 (.int .i64 0) <| Dn <| sw_sr <| Gw1 3 13 (64 * 0) 0 11 (Ni lo) <| Gw0 1 14 ((lo : Int) - 0) ((lo : Int) - 0) <| Gc0 1 15 (.int .i64 (if 0 > ((lo : Int) - 0) then 0 else ((lo : Int) - 0))) (.int .i64 (max ((lo : Int) - 0) 0)) (cv_maxI) <| Gw1 3 18 (64 * 0) 0 16 (Ni hi) <| Gw0 1 19 ((hi : Int) - 0) ((hi : Int) - 0) <| Gc0 1 20 (.int .i64 (if 63 < ((hi : Int) - 0) then 63 else ((hi : Int) - 0))) (.int .i64 (min ((hi : Int) - 0) 63)) (cv_minI) <| Go1 1 6 (.int .i64 (max ((lo : Int) - 0) 0)) ?_
  obtain ⟨f0, hf0⟩ : ∃ f : Nat, (max ((lo : Int) - 0) 0) = f := ⟨((max ((lo : Int) - 0) 0)).toNat, by omega⟩
  refine gl_cv 6 (Ni f0) (by rw [hf0]) rfl <| Go1 1 7 (.int .i64 (min ((hi : Int) - 0) 63)) ?_
  obtain ⟨t0, ht0⟩ : ∃ t : Int, (min ((hi : Int) - 0) 63) = t := ⟨_, rfl⟩
  have hb0 : t0 ≤ 63 := by omega
  have hc0 : -300 ≤ t0 := by omega
  refine gl_cv 7 (.int .i64 t0) (by rw [ht0]) rfl <| Dn <| sw_sr <| Go1 3 23 (.bool (decide ((f0 : Int) ≤ (t0 : Int)))) <| Dn <| If rfl (fun hc2 => ?_) (fun hc2 => ?_)
  have hle0 := hc2
  refine sw_region <| Gw1 3 26 (63 - t0) (63 - t0) 24 (.int .i64 0) <| Gw0 2 28 ((63 - t0) + (f0 : Int)) ((63 - t0) + (f0 : Int)) ?_
  obtain ⟨k0, hk0⟩ : ∃ k : Nat, (63 - t0) + (f0 : Int) = k := ⟨((63 - t0) + (f0 : Int)).toNat, by omega⟩
  refine gl_cv 28 (Ni k0) (by rw [hk0]) rfl <| Gq rfl (rd_shr (a := 18446744073709551615) (n := k0) rfl rfl (by show _ ≤ 64; omega)) <| Go1 1 30 (Ni f0) <| Gq rfl (rd_shl (a := 18446744073709551615 / 2 ^ k0) (n := f0) rfl rfl (by show _ ≤ 64; omega) (span_lt (by omega))) <| Gq rfl (rd_idxA (l := 4) (e := 36) (m := 1) (by kernel_rfl) (by kernel_rfl) rfl 0 rfl (by omega)) <| gl_st (Ks 0 (.int .u64 (((18446744073709551615 / 2 ^ k0) * 2 ^ f0 : Nat) : Int)) rfl hH rfl rfl ?_)
  clear hH; intro w3 hH
  refine Dd <| bkN <| Ce ((18446744073709551615 / 2 ^ k0) * 2 ^ f0) ?_
  replace hH := (hH.sb (slk sln)).n1
  exact ⟨span_y (lo := lo) (hi := hi) (i := 0) (by omega) (by omega) hle0 (by omega), hH⟩
  have hlt0 := hc2
  refine sw_skip <| bkN <| Ce (0) ?_
  replace hH := (hH.sb (slk sln)).n1
  exact ⟨span_n (lo := lo) (hi := hi) (i := 0) (by omega) (by omega) hlt0, hH⟩
 clear hH
 rintro x0 w4 ⟨hx0, hH⟩
 have hxl0 := spanW_lt lo hi 0 hh
 rw [← hx0] at hxl0
 refine swk [(0, Ni lo), (1, Ni hi), (4, Pp b1 0), (8, .int .i64 0)] <| sw_region <| Gw0 1 33 (0 + 1) 1 <| Go1 1 8 (.int .i64 1) <| Dd <| sw_again <| swk [(0, Ni lo), (1, Ni hi), (4, Pp b1 0), (8, .int .i64 1)] <| sw_sr <| Go1 1 9 (.bool true) <| Dn <| sw_seq <| It <| sw_skip <| sw_next <| Cu (γ := Nat) hH (fun x1 => [(0, Ni lo), (1, Ni hi), (4, Pp b1 0), (8, .int .i64 1)]) (fun x1 w_ H_ => (x1 = spanW lo hi 1) ∧ H_ [.blk b1 38 [.int .u64 (x0 : Int), .int .u64 (x1 : Int), .int .u64 0, .int .u64 0]]) ?_ ?_
 ·
  refine sw_block <| sw_sr <| Go1 2 5 (.int .i64 1) <| Dn <| sw_sr <| Gw1 3 13 (64 * 1) 64 11 (Ni lo) <| Gw0 1 14 ((lo : Int) - 64) ((lo : Int) - 64) <| Gc0 1 15 (.int .i64 (if 0 > ((lo : Int) - 64) then 0 else ((lo : Int) - 64))) (.int .i64 (max ((lo : Int) - 64) 0)) (cv_maxI) <| Gw1 3 18 (64 * 1) 64 16 (Ni hi) <| Gw0 1 19 ((hi : Int) - 64) ((hi : Int) - 64) <| Gc0 1 20 (.int .i64 (if 63 < ((hi : Int) - 64) then 63 else ((hi : Int) - 64))) (.int .i64 (min ((hi : Int) - 64) 63)) (cv_minI) <| Go1 1 6 (.int .i64 (max ((lo : Int) - 64) 0)) ?_
  obtain ⟨f1, hf1⟩ : ∃ f : Nat, (max ((lo : Int) - 64) 0) = f := ⟨((max ((lo : Int) - 64) 0)).toNat, by omega⟩
  refine gl_cv 6 (Ni f1) (by rw [hf1]) rfl <| Go1 1 7 (.int .i64 (min ((hi : Int) - 64) 63)) ?_
  obtain ⟨t1, ht1⟩ : ∃ t : Int, (min ((hi : Int) - 64) 63) = t := ⟨_, rfl⟩
  have hb1 : t1 ≤ 63 := by omega
  have hc1 : -300 ≤ t1 := by omega
  refine gl_cv 7 (.int .i64 t1) (by rw [ht1]) rfl <| Dn <| sw_sr <| Go1 3 23 (.bool (decide ((f1 : Int) ≤ (t1 : Int)))) <| Dn <| If rfl (fun hc4 => ?_) (fun hc4 => ?_)
  have hle1 := hc4
  refine sw_region <| Gw1 3 26 (63 - t1) (63 - t1) 24 (.int .i64 1) <| Gw0 2 28 ((63 - t1) + (f1 : Int)) ((63 - t1) + (f1 : Int)) ?_
  obtain ⟨k1, hk1⟩ : ∃ k : Nat, (63 - t1) + (f1 : Int) = k := ⟨((63 - t1) + (f1 : Int)).toNat, by omega⟩
  refine gl_cv 28 (Ni k1) (by rw [hk1]) rfl <| Gq rfl (rd_shr (a := 18446744073709551615) (n := k1) rfl rfl (by show _ ≤ 64; omega)) <| Go1 1 30 (Ni f1) <| Gq rfl (rd_shl (a := 18446744073709551615 / 2 ^ k1) (n := f1) rfl rfl (by show _ ≤ 64; omega) (span_lt (by omega))) <| Gq rfl (rd_idxA (l := 4) (e := 36) (m := 1) (by kernel_rfl) (by kernel_rfl) rfl 1 rfl (by omega)) <| gl_st (Ks 0 (.int .u64 (((18446744073709551615 / 2 ^ k1) * 2 ^ f1 : Nat) : Int)) rfl hH rfl rfl ?_)
  clear hH; intro w5 hH
  refine Dd <| bkN <| Ce ((18446744073709551615 / 2 ^ k1) * 2 ^ f1) ?_
  replace hH := (hH.sb (slk sln)).n1
  exact ⟨span_y (lo := lo) (hi := hi) (i := 1) (by omega) (by omega) hle1 (by omega), hH⟩
  have hlt1 := hc4
  refine sw_skip <| bkN <| Ce (0) ?_
  replace hH := (hH.sb (slk sln)).n1
  exact ⟨span_n (lo := lo) (hi := hi) (i := 1) (by omega) (by omega) hlt1, hH⟩
 clear hH
 rintro x1 w6 ⟨hx1, hH⟩
 have hxl1 := spanW_lt lo hi 1 hh
 rw [← hx1] at hxl1
 refine swk [(0, Ni lo), (1, Ni hi), (4, Pp b1 0), (8, .int .i64 1)] <| sw_region <| Gw0 1 33 (1 + 1) 2 <| Go1 1 8 (.int .i64 2) <| Dd <| sw_again <| swk [(0, Ni lo), (1, Ni hi), (4, Pp b1 0), (8, .int .i64 2)] <| sw_sr <| Go1 1 9 (.bool true) <| Dn <| sw_seq <| It <| sw_skip <| sw_next <| Cu (γ := Nat) hH (fun x2 => [(0, Ni lo), (1, Ni hi), (4, Pp b1 0), (8, .int .i64 2)]) (fun x2 w_ H_ => (x2 = spanW lo hi 2) ∧ H_ [.blk b1 38 [.int .u64 (x0 : Int), .int .u64 (x1 : Int), .int .u64 (x2 : Int), .int .u64 0]]) ?_ ?_
 ·
  refine sw_block <| sw_sr <| Go1 2 5 (.int .i64 2) <| Dn <| sw_sr <| Gw1 3 13 (64 * 2) 128 11 (Ni lo) <| Gw0 1 14 ((lo : Int) - 128) ((lo : Int) - 128) <| Gc0 1 15 (.int .i64 (if 0 > ((lo : Int) - 128) then 0 else ((lo : Int) - 128))) (.int .i64 (max ((lo : Int) - 128) 0)) (cv_maxI) <| Gw1 3 18 (64 * 2) 128 16 (Ni hi) <| Gw0 1 19 ((hi : Int) - 128) ((hi : Int) - 128) <| Gc0 1 20 (.int .i64 (if 63 < ((hi : Int) - 128) then 63 else ((hi : Int) - 128))) (.int .i64 (min ((hi : Int) - 128) 63)) (cv_minI) <| Go1 1 6 (.int .i64 (max ((lo : Int) - 128) 0)) ?_
  obtain ⟨f2, hf2⟩ : ∃ f : Nat, (max ((lo : Int) - 128) 0) = f := ⟨((max ((lo : Int) - 128) 0)).toNat, by omega⟩
  refine gl_cv 6 (Ni f2) (by rw [hf2]) rfl <| Go1 1 7 (.int .i64 (min ((hi : Int) - 128) 63)) ?_
  obtain ⟨t2, ht2⟩ : ∃ t : Int, (min ((hi : Int) - 128) 63) = t := ⟨_, rfl⟩
  have hb2 : t2 ≤ 63 := by omega
  have hc2 : -300 ≤ t2 := by omega
  refine gl_cv 7 (.int .i64 t2) (by rw [ht2]) rfl <| Dn <| sw_sr <| Go1 3 23 (.bool (decide ((f2 : Int) ≤ (t2 : Int)))) <| Dn <| If rfl (fun hc6 => ?_) (fun hc6 => ?_)
  have hle2 := hc6
  refine sw_region <| Gw1 3 26 (63 - t2) (63 - t2) 24 (.int .i64 2) <| Gw0 2 28 ((63 - t2) + (f2 : Int)) ((63 - t2) + (f2 : Int)) ?_
  obtain ⟨k2, hk2⟩ : ∃ k : Nat, (63 - t2) + (f2 : Int) = k := ⟨((63 - t2) + (f2 : Int)).toNat, by omega⟩
  refine gl_cv 28 (Ni k2) (by rw [hk2]) rfl <| Gq rfl (rd_shr (a := 18446744073709551615) (n := k2) rfl rfl (by show _ ≤ 64; omega)) <| Go1 1 30 (Ni f2) <| Gq rfl (rd_shl (a := 18446744073709551615 / 2 ^ k2) (n := f2) rfl rfl (by show _ ≤ 64; omega) (span_lt (by omega))) <| Gq rfl (rd_idxA (l := 4) (e := 36) (m := 1) (by kernel_rfl) (by kernel_rfl) rfl 2 rfl (by omega)) <| gl_st (Ks 0 (.int .u64 (((18446744073709551615 / 2 ^ k2) * 2 ^ f2 : Nat) : Int)) rfl hH rfl rfl ?_)
  clear hH; intro w7 hH
  refine Dd <| bkN <| Ce ((18446744073709551615 / 2 ^ k2) * 2 ^ f2) ?_
  replace hH := (hH.sb (slk sln)).n1
  exact ⟨span_y (lo := lo) (hi := hi) (i := 2) (by omega) (by omega) hle2 (by omega), hH⟩
  have hlt2 := hc6
  refine sw_skip <| bkN <| Ce (0) ?_
  replace hH := (hH.sb (slk sln)).n1
  exact ⟨span_n (lo := lo) (hi := hi) (i := 2) (by omega) (by omega) hlt2, hH⟩
 clear hH
 rintro x2 w8 ⟨hx2, hH⟩
 have hxl2 := spanW_lt lo hi 2 hh
 rw [← hx2] at hxl2
 refine swk [(0, Ni lo), (1, Ni hi), (4, Pp b1 0), (8, .int .i64 2)] <| sw_region <| Gw0 1 33 (2 + 1) 3 <| Go1 1 8 (.int .i64 3) <| Dd <| sw_again <| swk [(0, Ni lo), (1, Ni hi), (4, Pp b1 0), (8, .int .i64 3)] <| sw_sr <| Go1 1 9 (.bool true) <| Dn <| sw_seq <| It <| sw_skip <| sw_next <| Cu (γ := Nat) hH (fun x3 => [(0, Ni lo), (1, Ni hi), (4, Pp b1 0), (8, .int .i64 3)]) (fun x3 w_ H_ => (x3 = spanW lo hi 3) ∧ H_ [.blk b1 38 [.int .u64 (x0 : Int), .int .u64 (x1 : Int), .int .u64 (x2 : Int), .int .u64 (x3 : Int)]]) ?_ ?_
 ·
  refine sw_block <| sw_sr <| Go1 2 5 (.int .i64 3) <| Dn <| sw_sr <| Gw1 3 13 (64 * 3) 192 11 (Ni lo) <| Gw0 1 14 ((lo : Int) - 192) ((lo : Int) - 192) <| Gc0 1 15 (.int .i64 (if 0 > ((lo : Int) - 192) then 0 else ((lo : Int) - 192))) (.int .i64 (max ((lo : Int) - 192) 0)) (cv_maxI) <| Gw1 3 18 (64 * 3) 192 16 (Ni hi) <| Gw0 1 19 ((hi : Int) - 192) ((hi : Int) - 192) <| Gc0 1 20 (.int .i64 (if 63 < ((hi : Int) - 192) then 63 else ((hi : Int) - 192))) (.int .i64 (min ((hi : Int) - 192) 63)) (cv_minI) <| Go1 1 6 (.int .i64 (max ((lo : Int) - 192) 0)) ?_
  obtain ⟨f3, hf3⟩ : ∃ f : Nat, (max ((lo : Int) - 192) 0) = f := ⟨((max ((lo : Int) - 192) 0)).toNat, by omega⟩
  refine gl_cv 6 (Ni f3) (by rw [hf3]) rfl <| Go1 1 7 (.int .i64 (min ((hi : Int) - 192) 63)) ?_
  obtain ⟨t3, ht3⟩ : ∃ t : Int, (min ((hi : Int) - 192) 63) = t := ⟨_, rfl⟩
  have hb3 : t3 ≤ 63 := by omega
  have hc3 : -300 ≤ t3 := by omega
  refine gl_cv 7 (.int .i64 t3) (by rw [ht3]) rfl <| Dn <| sw_sr <| Go1 3 23 (.bool (decide ((f3 : Int) ≤ (t3 : Int)))) <| Dn <| If rfl (fun hc8 => ?_) (fun hc8 => ?_)
  have hle3 := hc8
  refine sw_region <| Gw1 3 26 (63 - t3) (63 - t3) 24 (.int .i64 3) <| Gw0 2 28 ((63 - t3) + (f3 : Int)) ((63 - t3) + (f3 : Int)) ?_
  obtain ⟨k3, hk3⟩ : ∃ k : Nat, (63 - t3) + (f3 : Int) = k := ⟨((63 - t3) + (f3 : Int)).toNat, by omega⟩
  refine gl_cv 28 (Ni k3) (by rw [hk3]) rfl <| Gq rfl (rd_shr (a := 18446744073709551615) (n := k3) rfl rfl (by show _ ≤ 64; omega)) <| Go1 1 30 (Ni f3) <| Gq rfl (rd_shl (a := 18446744073709551615 / 2 ^ k3) (n := f3) rfl rfl (by show _ ≤ 64; omega) (span_lt (by omega))) <| Gq rfl (rd_idxA (l := 4) (e := 36) (m := 1) (by kernel_rfl) (by kernel_rfl) rfl 3 rfl (by omega)) <| gl_st (Ks 0 (.int .u64 (((18446744073709551615 / 2 ^ k3) * 2 ^ f3 : Nat) : Int)) rfl hH rfl rfl ?_)
  clear hH; intro w9 hH
  refine Dd <| bkN <| Ce ((18446744073709551615 / 2 ^ k3) * 2 ^ f3) ?_
  replace hH := (hH.sb (slk sln)).n1
  exact ⟨span_y (lo := lo) (hi := hi) (i := 3) (by omega) (by omega) hle3 (by omega), hH⟩
  have hlt3 := hc8
  refine sw_skip <| bkN <| Ce (0) ?_
  replace hH := (hH.sb (slk sln)).n1
  exact ⟨span_n (lo := lo) (hi := hi) (i := 3) (by omega) (by omega) hlt3, hH⟩
 clear hH
 rintro x3 w10 ⟨hx3, hH⟩
 have hxl3 := spanW_lt lo hi 3 hh
 rw [← hx3] at hxl3
 refine swk [(0, Ni lo), (1, Ni hi), (4, Pp b1 0), (8, .int .i64 3)] <| sw_region <| Gw0 1 33 (3 + 1) 4 <| Go1 1 8 (.int .i64 4) <| Dd <| sw_again <| swk [(0, Ni lo), (1, Ni hi), (4, Pp b1 0), (8, .int .i64 4)] <| sw_sr <| Go1 1 9 (.bool false) <| Dn <| sw_seq <| Iz <| sw_exit <| thX <| thX <| bkH <| sw_next <| sw_sr <| Gq rfl (La 0 [.int .u64 (x0 : Int), .int .u64 (x1 : Int), .int .u64 (x2 : Int), .int .u64 (x3 : Int)] hH rfl rfl) <| gl_st (Ka 0 [.int .u64 (x0 : Int), .int .u64 (x1 : Int), .int .u64 (x2 : Int), .int .u64 (x3 : Int)] [.int .u64 (x0 : Int), .int .u64 (x1 : Int), .int .u64 (x2 : Int), .int .u64 (x3 : Int)] rfl hH rfl rfl ?_)
 clear hH; intro w11 hH
 refine Dn <| sw_ret <| retC1 rfl (RS.cellA hH 0 (by kernel_rfl) rfl rfl (by kernel_rfl) [.int .u64 (x0 : Int), .int .u64 (x1 : Int), .int .u64 (x2 : Int), .int .u64 (x3 : Int)] rfl rfl) ?_
 exact ⟨by rw [hx0, hx1, hx2, hx3]; rfl, (hH.sb sln).fresh⟩
theorem CMember_ct (g p : Nat) (s : List UInt8) (w : World) (hM : Mine w [rdcO g s p]) (hs : s.length ≤ 140737488355328) (hp : p ≤ s.length) :
    Fun Tryz.prog 196 [.pointer (some ⟨g, 0, none⟩)] w fun v w' => MbPost g s p (memC s p) w v w' := by
 refine fun_of_sw Tryz.func196 rfl 51 rfl rfl ?_
 have hH := Hp.start_mine hM
 refine sw_sr <| gl_st (Alc [.int .u64 0, .int .u64 0, .int .u64 0, .int .u64 0] rfl hH ?_)
 clear hH; intro b1 w2 hH
 refine Go0 1 <| Dn <| sw_sr <| Go1 3 10 (Pp g 1) <| Gq rfl (Lk 0 hH rfl rfl rfl) <| Go1 1 4 (Ni p) <| Dn <| sw_sr <| Go1 1 13 (Pp g 0) ?_
 replace hH : Hp w w2 _ _ ([_] ++ [_]) := hH
 refine gl_st (Sc rfl rfl (CSign_ct g p s _ hH.mine hs (by omega)) ?_)
 rintro _ w7 ⟨x3, e4, fb5, rfl, hv6, hF8⟩
 replace hH := hH.turns hF8
 replace hH := hH.n3
 refine Go2 5 5 (Ni x3) 6 (fltV (erOf (rsignC s p)) fb5) <| Dn <| sw_seq <| sw_sr <| Go1 1 17 (fltV (erOf (rsignC s p)) fb5) <| Gq rfl (rd_if_ne (by kernel_rfl) rfl) <| Dn <| If rfl (fun hc1 => ?_) (fun hc1 => ?_)
 obtain ⟨er1, hR1⟩ := hv6.resolve_right (fun h => by rw [h.1] at hc1; cases hc1)
 refine sw_sr <| Go2 2 19 (.agg #[.int .u64 0, .int .u64 0, .int .u64 0, .int .u64 0]) 20 (fltV (erOf (rsignC s p)) fb5) <| gl_st (Ka 0 [.int .u64 0, .int .u64 0, .int .u64 0, .int .u64 0] [.int .u64 0, .int .u64 0, .int .u64 0, .int .u64 0] rfl hH rfl rfl ?_)
 clear hH; intro w9 hH
 refine Go1 1 3 (fltV (erOf (rsignC s p)) fb5) <| Dn <| sw_ret <| thR <| retC2 rfl (RS.cellA hH 0 (by kernel_rfl) rfl rfl (by kernel_rfl) [.int .u64 0, .int .u64 0, .int .u64 0, .int .u64 0] rfl rfl) (RS.tmp rfl) ?_
 replace hH := hH.fr2.fr3
 replace hH := (hH.sb (slk (slk sln))).n2
 rw [hR1] at hH ⊢
 exact mb_err (er := er1) (by unfold memC; rw [hR1]) hH.turned
 obtain ⟨hR1, hR1x, hR1p, hR1l⟩ := hv6.resolve_left (fun h => by obtain ⟨_, h⟩ := h; rw [h] at hc1; cases hc1)
 refine Sk <| sw_sr <| Go1 2 7 (Ni x3) <| Dn <| sw_seq <| sw_sr <| Go1 1 22 (Pp g 0) <| gl_st (Sc rfl rfl (CIs_ct g e4 45 s _ (hH.blk_cell 1 rfl rfl) (hH.blk_cell 1 rfl rfl) hs) ?_)
 rintro _ w10 ⟨rfl, hF11⟩
 replace hH := hH.call hF11
 refine Dn <| If rfl (fun hc2 => ?_) (fun hc2 => ?_)
 have h45 := hc2
 have hin45 := (isC_eq h45).1
 refine sw_sr <| Go2 3 24 (Pp g 0) 26 (Pp g 1) <| Gq rfl (Lk 1 hH rfl rfl rfl) <| Gw0 1 28 ((e4 : Int) + 1) ((e4 + 1 : Nat) : Int) <| Go1 2 30 (Pp g 1) <| gl_st (Ks 1 (Ni (e4 + 1)) rfl hH rfl rfl ?_)
 clear hH; intro w12 hH
 refine Dn <| sw_sr <| Go1 1 32 (Pp g 0) ?_
 replace hH : Hp w w12 _ _ ([_] ++ [_, _]) := hH.fr2
 refine gl_st (Sc rfl rfl (CSign_ct g (e4 + 1) s _ hH.mine hs (by omega)) ?_)
 rintro _ w17 ⟨x13, e14, fb15, rfl, hv16, hF18⟩
 replace hH := hH.turns hF18
 replace hH := hH.n4
 refine Go2 5 6 (fltV (erOf (rsignC s (e4 + 1))) fb15) 7 (Ni x13) <| Dn <| sw_sr <| Go1 1 36 (fltV (erOf (rsignC s (e4 + 1))) fb15) <| Gq rfl (rd_if_ne (by kernel_rfl) rfl) <| Dn <| If rfl (fun hc3 => ?_) (fun hc3 => ?_)
 obtain ⟨er3, hR3⟩ := hv16.resolve_right (fun h => by rw [h.1] at hc3; cases hc3)
 refine sw_sr <| Go2 2 38 (.agg #[.int .u64 0, .int .u64 0, .int .u64 0, .int .u64 0]) 39 (fltV (erOf (rsignC s (e4 + 1))) fb15) <| gl_st (Ka 0 [.int .u64 0, .int .u64 0, .int .u64 0, .int .u64 0] [.int .u64 0, .int .u64 0, .int .u64 0, .int .u64 0] rfl hH rfl rfl ?_)
 clear hH; intro w19 hH
 refine Go1 1 3 (fltV (erOf (rsignC s (e4 + 1))) fb15) <| Dn <| sw_ret <| thR <| retC2 rfl (RS.cellA hH 0 (by kernel_rfl) rfl rfl (by kernel_rfl) [.int .u64 0, .int .u64 0, .int .u64 0, .int .u64 0] rfl rfl) (RS.tmp rfl) ?_
 replace hH := hH.fr3.fr4
 replace hH := (hH.sb (slk (slk sln))).n2
 rw [hR3] at hH ⊢
 exact mb_err (er := er3) (by unfold memC; rw [hR1]; simp only; rw [if_pos h45]; rw [hR3]) hH.turned
 obtain ⟨hR3, hR3x, hR3p, hR3l⟩ := hv16.resolve_left (fun h => by obtain ⟨_, h⟩ := h; rw [h] at hc3; cases hc3)
 refine Sk <| sw_seq <| sw_sr <| Go1 3 42 (.bool (decide ((x3 : Int) > (x13 : Int)))) <| Dn <| If rfl (fun hc4 => ?_) (fun hc4 => ?_)
 have hlt9 := hc4
 refine sw_sr <| Go2 3 43 (.agg #[.int .u64 0, .int .u64 0, .int .u64 0, .int .u64 0]) 45 (.agg #[.int .i64 4, Ni p]) <| gl_st (Bx [.int .i64 4, Ni p] rfl hH ?_)
 clear hH; intro b20 w21 hH
 refine Go1 1 47 (.iface 94 (Pp b20 0)) <| gl_st (Ka 0 [.int .u64 0, .int .u64 0, .int .u64 0, .int .u64 0] [.int .u64 0, .int .u64 0, .int .u64 0, .int .u64 0] rfl hH rfl rfl ?_)
 clear hH; intro w22 hH
 refine glo 1 [(2, Pp b1 0), (3, .iface 94 (Pp b20 0))] <| Dn <| sw_ret <| thR <| retC2 rfl (RS.cellA hH 0 (by kernel_rfl) rfl rfl (by kernel_rfl) [.int .u64 0, .int .u64 0, .int .u64 0, .int .u64 0] rfl rfl) (RS.tmp rfl) ?_
 replace hH := hH.fr3.fr5
 replace hH := (hH.sb (slk (slk sln))).n2
 exact mb_err (er := (4, p)) (by unfold memC; rw [hR1]; simp only; rw [if_pos h45]; rw [hR3]; simp only; rw [if_pos (by omega)]) (flt_some hH).turned
 have hge9 := hc4
 refine Sk <| sw_sr <| Go2 2 48 (Ni x3) 49 (Ni x13) <| gl_st (Sc rfl rfl (Span_ct x3 x13 _ (by omega) (by omega)) ?_)
 rintro _ w23 ⟨rfl, hF24⟩
 replace hH := hH.call hF24
 refine gl_st (Ka 0 [.int .u64 (((spanC x3 x13).a : Nat) : Int), .int .u64 (((spanC x3 x13).b : Nat) : Int), .int .u64 (((spanC x3 x13).c : Nat) : Int), .int .u64 (((spanC x3 x13).d : Nat) : Int)] [.int .u64 (((spanC x3 x13).a : Nat) : Int), .int .u64 (((spanC x3 x13).b : Nat) : Int), .int .u64 (((spanC x3 x13).c : Nat) : Int), .int .u64 (((spanC x3 x13).d : Nat) : Int)] rfl hH rfl rfl ?_)
 clear hH; intro w25 hH
 refine Go1 1 3 (.nilIface) <| Dn <| sw_ret <| retC2 rfl (RS.cellA hH 0 (by kernel_rfl) rfl rfl (by kernel_rfl) [.int .u64 (((spanC x3 x13).a : Nat) : Int), .int .u64 (((spanC x3 x13).b : Nat) : Int), .int .u64 (((spanC x3 x13).c : Nat) : Int), .int .u64 (((spanC x3 x13).d : Nat) : Int)] rfl rfl) (RS.tmp rfl) ?_
 replace hH := hH.fr3
 replace hH := (hH.sb (slk sln)).n1
 exact mb_ok (by unfold memC; rw [hR1]; simp only; rw [if_pos h45]; rw [hR3]; simp only; rw [if_neg (by omega)]) (by omega) (by omega) (by omega) hH.turned
 have h45 := hc2
 refine Sk <| sw_seq <| sw_sr <| Go1 3 42 (.bool (decide ((x3 : Int) > (x3 : Int)))) <| Dn <| If rfl (fun hc5 => ?_) (fun hc5 => ?_)
 have hlt9 := hc5
 refine sw_sr <| Go2 3 43 (.agg #[.int .u64 0, .int .u64 0, .int .u64 0, .int .u64 0]) 45 (.agg #[.int .i64 4, Ni p]) <| gl_st (Bx [.int .i64 4, Ni p] rfl hH ?_)
 clear hH; intro b26 w27 hH
 refine Go1 1 47 (.iface 94 (Pp b26 0)) <| gl_st (Ka 0 [.int .u64 0, .int .u64 0, .int .u64 0, .int .u64 0] [.int .u64 0, .int .u64 0, .int .u64 0, .int .u64 0] rfl hH rfl rfl ?_)
 clear hH; intro w28 hH
 refine Go1 1 3 (.iface 94 (Pp b26 0)) <| Dn <| sw_ret <| thR <| retC2 rfl (RS.cellA hH 0 (by kernel_rfl) rfl rfl (by kernel_rfl) [.int .u64 0, .int .u64 0, .int .u64 0, .int .u64 0] rfl rfl) (RS.tmp rfl) ?_
 exfalso; omega
 have hge9 := hc5
 refine Sk <| sw_sr <| Go2 2 48 (Ni x3) 49 (Ni x3) <| gl_st (Sc rfl rfl (Span_ct x3 x3 _ (by omega) (by omega)) ?_)
 rintro _ w29 ⟨rfl, hF30⟩
 replace hH := hH.call hF30
 refine gl_st (Ka 0 [.int .u64 (((spanC x3 x3).a : Nat) : Int), .int .u64 (((spanC x3 x3).b : Nat) : Int), .int .u64 (((spanC x3 x3).c : Nat) : Int), .int .u64 (((spanC x3 x3).d : Nat) : Int)] [.int .u64 (((spanC x3 x3).a : Nat) : Int), .int .u64 (((spanC x3 x3).b : Nat) : Int), .int .u64 (((spanC x3 x3).c : Nat) : Int), .int .u64 (((spanC x3 x3).d : Nat) : Int)] rfl hH rfl rfl ?_)
 clear hH; intro w31 hH
 refine Go1 1 3 (.nilIface) <| Dn <| sw_ret <| retC2 rfl (RS.cellA hH 0 (by kernel_rfl) rfl rfl (by kernel_rfl) [.int .u64 (((spanC x3 x3).a : Nat) : Int), .int .u64 (((spanC x3 x3).b : Nat) : Int), .int .u64 (((spanC x3 x3).c : Nat) : Int), .int .u64 (((spanC x3 x3).d : Nat) : Int)] rfl rfl) (RS.tmp rfl) ?_
 replace hH := hH.fr2
 replace hH := (hH.sb (slk sln)).n1
 exact mb_ok (by unfold memC; rw [hR1]; simp only; rw [if_neg (by rw [h45]; simp)]; skip) (by omega) (by omega) (by omega) hH.turned
def PsPost (s : List UInt8) (R : Except (Nat × Nat) (Cl × Nat)) (w : World) (v : Value) (w' : World) : Prop :=
  ∃ c e fb, v = .tuple #[.agg (clC c).toArray, .int .i64 ((e : Nat) : Int), fltV (erOf R) fb] ∧ ((∃ er, R = .error er) ∨ (R = .ok (c, e) ∧ c.Ok ∧ 0 < e ∧ e ≤ s.length)) ∧ Fresh w w' [fltO (erOf R) fb]
theorem pickP_in {s : List UInt8} {p : Nat} (l : List UInt8) (h : p ≤ s.length) : p ≤ pickP s p l ∧ pickP s p l ≤ s.length := by
  unfold pickP
  split
  · rename_i hq; have := pickI_in (s := s) hq; omega
  · omega
theorem ps_err {s : List UInt8} {fb : Nat} {R : Except (Nat × Nat) (Cl × Nat)} {er : Nat × Nat} {w w' : World} (hR : R = .error er) (h : Fresh w w' [fltO (some (er.1, ((er.2 : Nat) : Int))) fb]) : PsPost s R w (.tuple #[.agg #[.int .u64 0, .int .u64 0, .int .u64 0, .int .u64 0], .int .i64 0, fltV (some (er.1, ((er.2 : Nat) : Int))) fb]) w' := by
  subst hR
  exact ⟨Cl.zero, 0, fb, rfl, .inl ⟨er, rfl⟩, h⟩
theorem ps_ok {s : List UInt8} {c : Cl} {e : Nat} {R : Except (Nat × Nat) (Cl × Nat)} {w w' : World} (hR : R = .ok (c, e)) (h1 : c.Ok) (h2 : 0 < e) (h3 : e ≤ s.length) (h : Hp w w' w.cell? [] []) : PsPost s R w (.tuple #[.agg (clC c).toArray, .int .i64 ((e : Nat) : Int), .nilIface]) w' := by
  subst hR
  exact ⟨c, e, 0, rfl, .inr ⟨rfl, h1, h2, h3⟩, (flt_none 0 h).fresh⟩

theorem CParse_ct (s : List UInt8) (w : World) (hs : s.length ≤ 140737488355328) :
    Fun Tryz.prog 171 [.string (bs s)] w fun v w' => PsPost s (parseC s) w v w' := by
 refine fun_of_sw Tryz.func171 rfl 45 rfl rfl ?_
 have hH := Hp.start w
 refine sw_sr <| gl_st (Alc [.int .u64 0, .int .u64 0, .int .u64 0, .int .u64 0] rfl hH ?_)
 clear hH; intro b1 w2 hH
 refine Go0 2 <| Dn <| sw_sr <| gl_st (Alc [.int .u64 0, .int .u64 0, .int .u64 0, .int .u64 0] rfl hH ?_)
 clear hH; intro b3 w4 hH
 refine Dn <| sw_sr <| Go1 2 11 (.agg #[.string (bs s), .int .i64 0]) <| gl_st (Bx [.string (bs s), .int .i64 0] rfl hH ?_)
 clear hH; intro b5 w6 hH
 refine Go1 1 6 (Pp b5 0) <| Dn <| sw_seq <| sw_sr <| Go1 1 13 (Pp b5 0) ?_
 replace hH : Hp w w6 _ _ ([_] ++ [_, _]) := hH.fr3
 refine gl_st (Sc rfl rfl (CPick_ct b5 0 s [91] _ hH.mine hs) ?_)
 rintro _ w7 ⟨rfl, hF8⟩
 replace hH := hH.turns hF8
 replace hH := hH.n3
 refine Go1 1 15 (.bool (decide ((pickI s 0 [91]) < (0 : Int)))) <| Dn <| If rfl (fun hc1 => ?_) (fun hc1 => ?_)
 have h91 := hc1
 replace hH := hH.fr3
 rw [pickP_neg (s := s) (p := 0) (l := [91]) (by omega)] at hH
 replace hH : Hp w w7 _ _ [.blk b5 289 [.string (bs s), .int .i64 0], .blk b1 38 [.int .u64 0, .int .u64 0, .int .u64 0, .int .u64 0], .blk b3 38 [.int .u64 0, .int .u64 0, .int .u64 0, .int .u64 0]] := hH
 refine sw_seq <| Dr hH (slk (slc (slk sln))) ?_
 clear hH; intro w9 hH hS9
 refine Dq 0 rfl (fun _ hS => (La 1 [.int .u64 0, .int .u64 0, .int .u64 0, .int .u64 0] hS rfl rfl)) hS9 <| Gp1 1 [1] 17 (Pp b5 0) hS9 <| gds 2 (Sc rfl rfl (CWrong_ct b5 0 s _ (hH.blk_cell 0 rfl rfl) (hH.blk_cell 0 rfl rfl) hs) ?_)
 rintro _ w11 ⟨fb10, rfl, hF12⟩
 replace hH := hH.call hF12
 refine Nl (hH.sb (slk (slc (slk sln)))) fun hS9 => gds 3 (Ka 1 [.int .u64 0, .int .u64 0, .int .u64 0, .int .u64 0] [.int .u64 0, .int .u64 0, .int .u64 0, .int .u64 0] rfl hH rfl rfl ?_)
 clear hH; intro w13 hH
 refine Nl (hH.sb (slk (slc (slk sln)))) fun hS9 => Gp2 2 [4,5] 3 (.int .i64 0) 4 (.iface 94 (Pp fb10 0)) hS9 <| gdn [(2, Pp b1 0), (3, .int .i64 0), (4, .iface 94 (Pp fb10 0))] <| sw_next <| sw_ret <| thR <| retC3 rfl (RS.cellA hH 1 (by kernel_rfl) rfl rfl (by kernel_rfl) [.int .u64 0, .int .u64 0, .int .u64 0, .int .u64 0] rfl rfl) (RS.tmp rfl) (RS.tmp rfl) ?_
 replace hH := hH.fr4
 replace hH := (hH.sb (slk sln)).n1
 exact ps_err (er := wrongC s 0) (by unfold parseC; rw [if_pos h91]) (flt_some hH).fresh
 have h91 := hc1
 have hin91 := pickI_in (s := s) h91
 replace hH := hH.fr3
 rw [pickP_pos (s := s) (p := 0) (l := [91]) (by omega)] at hH
 replace hH : Hp w w7 _ _ [.blk b5 289 [.string (bs s), .int .i64 1], .blk b1 38 [.int .u64 0, .int .u64 0, .int .u64 0, .int .u64 0], .blk b3 38 [.int .u64 0, .int .u64 0, .int .u64 0, .int .u64 0]] := hH
 refine Sk <| sw_sr <| Go1 1 19 (Pp b5 0) ?_
 replace hH : Hp w w7 _ _ ([_] ++ [_, _]) := hH
 refine gl_st (Sc rfl rfl (CPick_ct b5 1 s [94] _ hH.mine hs) ?_)
 rintro _ w14 ⟨rfl, hF15⟩
 replace hH := hH.turns hF15
 replace hH := hH.n3
 refine Go1 2 7 (.bool (decide ((pickI s 1 [94]) ≥ (0 : Int)))) <| Dn <| sw_seq <| sw_block ?_
 have hp94 := pickP_in (s := s) (p := 1) [94] (by omega)
 refine Lp (γ := Cl × Nat × Nat) hH (fun (c, p, k) => [(2, Pp b1 0), (5, Pp b3 0), (6, Pp b5 0), (7, .bool (decide ((pickI s 1 [94]) ≥ (0 : Int))))]) (fun (c, p, k) w_ H_ => (memsC s (s.length + 1) Cl.zero (pickP s 1 [94]) = memsC s (k + 1) c p) ∧ (c.Ok) ∧ (p ≤ s.length) ∧ (s.length ≤ k + p) ∧ H_ [.blk b1 38 [.int .u64 0, .int .u64 0, .int .u64 0, .int .u64 0], .blk b3 38 [.int .u64 ((c.a : Nat) : Int), .int .u64 ((c.b : Nat) : Int), .int .u64 ((c.c : Nat) : Int), .int .u64 ((c.d : Nat) : Int)], .blk b5 289 [.string (bs s), Ni p]]) (fun (c, p, k) => k) (Cl.zero, pickP s 1 [94], s.length) ?_ ?_
 · exact ⟨rfl, Cl.zero_ok, by omega, by omega, hH⟩
 clear hH
 rintro ⟨c, p, k⟩ w16 ⟨hm1, hok, hpl, hkp, hH⟩
 refine swk [(2, Pp b1 0), (5, Pp b3 0), (6, Pp b5 0), (7, .bool (decide ((pickI s 1 [94]) ≥ (0 : Int))))] <| sw_seq <| sw_sr <| Go1 1 22 (Pp b5 0) ?_
 replace hH : Hp w w16 _ _ ([_] ++ [_, _]) := hH.fr3
 refine gl_st (Sc rfl rfl (CPick_ct b5 p s [93] _ hH.mine hs) ?_)
 rintro _ w17 ⟨rfl, hF18⟩
 replace hH := hH.turns hF18
 replace hH := hH.n3
 refine Go1 1 24 (.bool (decide ((pickI s p [93]) < (0 : Int)))) <| Dn <| If rfl (fun hc2 => ?_) (fun hc2 => ?_)
 have hlp := hc2
 replace hH := hH.fr3
 rw [pickP_neg (s := s) (p := p) (l := [93]) (by omega)] at hH
 replace hH : Hp w w17 _ _ [.blk b5 289 [.string (bs s), Ni p], .blk b1 38 [.int .u64 0, .int .u64 0, .int .u64 0, .int .u64 0], .blk b3 38 [.int .u64 ((c.a : Nat) : Int), .int .u64 ((c.b : Nat) : Int), .int .u64 ((c.c : Nat) : Int), .int .u64 ((c.d : Nat) : Int)]] := hH
 refine Sk <| sw_block <| sw_sr <| Go1 1 26 (Pp b5 0) ?_
 replace hH : Hp w w17 _ _ ([_] ++ [_, _]) := hH
 refine gl_st (Sc rfl rfl (CMember_ct b5 p s _ hH.mine hs (by omega)) ?_)
 rintro _ w23 ⟨m19, e20, fb21, rfl, hv22, hF24⟩
 replace hH := hH.turns hF24
 replace hH := hH.n4
 refine Go2 3 28 (.agg #[.int .u64 ((m19.a : Nat) : Int), .int .u64 ((m19.b : Nat) : Int), .int .u64 ((m19.c : Nat) : Int), .int .u64 ((m19.d : Nat) : Int)]) 29 (fltV (erOf (memC s p)) fb21) <| gl_st (Alc [.int .u64 0, .int .u64 0, .int .u64 0, .int .u64 0] rfl hH ?_)
 clear hH; intro b25 w26 hH
 refine gl_st (Ka 4 [.int .u64 ((m19.a : Nat) : Int), .int .u64 ((m19.b : Nat) : Int), .int .u64 ((m19.c : Nat) : Int), .int .u64 ((m19.d : Nat) : Int)] [.int .u64 ((m19.a : Nat) : Int), .int .u64 ((m19.b : Nat) : Int), .int .u64 ((m19.c : Nat) : Int), .int .u64 ((m19.d : Nat) : Int)] rfl hH rfl rfl ?_)
 clear hH; intro w27 hH
 refine Go1 1 9 (fltV (erOf (memC s p)) fb21) <| Dn <| sw_seq <| sw_sr <| Go1 1 30 (fltV (erOf (memC s p)) fb21) <| Gq rfl (rd_if_ne (by kernel_rfl) rfl) <| Dn <| If rfl (fun hc3 => ?_) (fun hc3 => ?_)
 obtain ⟨er3, hR3⟩ := hv22.resolve_right (fun h => by rw [h.1] at hc3; cases hc3)
 refine sw_sr <| Go2 2 32 (.agg #[.int .u64 0, .int .u64 0, .int .u64 0, .int .u64 0]) 33 (fltV (erOf (memC s p)) fb21) <| gl_st (Ka 0 [.int .u64 0, .int .u64 0, .int .u64 0, .int .u64 0] [.int .u64 0, .int .u64 0, .int .u64 0, .int .u64 0] rfl hH rfl rfl ?_)
 clear hH; intro w28 hH
 refine Go2 2 3 (.int .i64 0) 4 (fltV (erOf (memC s p)) fb21) <| Dn <| sw_ret <| thR <| bkR <| thR <| bkR <| thR <| retC3 rfl (RS.cellA hH 0 (by kernel_rfl) rfl rfl (by kernel_rfl) [.int .u64 0, .int .u64 0, .int .u64 0, .int .u64 0] rfl rfl) (RS.tmp rfl) (RS.tmp rfl) ?_
 replace hH := hH.fr4
 replace hH := (hH.sb (slk sln)).n1
 rw [memsC_next hlp, hR3] at hm1
 rw [hR3] at hH ⊢
 exact ps_err (er := er3) (by unfold parseC; rw [if_neg (by omega), hm1]) hH.fresh
 obtain ⟨hR3, hR3o, hR3p, hR3l⟩ := hv22.resolve_left (fun h => by obtain ⟨_, h⟩ := h; rw [h] at hc3; cases hc3)
 refine Sk <| sw_region <| Gq rfl (La 1 [.int .u64 ((c.a : Nat) : Int), .int .u64 ((c.b : Nat) : Int), .int .u64 ((c.c : Nat) : Int), .int .u64 ((c.d : Nat) : Int)] hH rfl rfl) <| Gq rfl (La 4 [.int .u64 ((m19.a : Nat) : Int), .int .u64 ((m19.b : Nat) : Int), .int .u64 ((m19.c : Nat) : Int), .int .u64 ((m19.d : Nat) : Int)] hH rfl rfl) <| gl_st (Sc rfl rfl (Either_ct c m19 _ hok hR3o) ?_)
 rintro _ w29 ⟨rfl, hF30⟩
 replace hH := hH.call hF30
 refine gl_st (Ka 1 [.int .u64 (((eitherC c m19).a : Nat) : Int), .int .u64 (((eitherC c m19).b : Nat) : Int), .int .u64 (((eitherC c m19).c : Nat) : Int), .int .u64 (((eitherC c m19).d : Nat) : Int)] [.int .u64 (((eitherC c m19).a : Nat) : Int), .int .u64 (((eitherC c m19).b : Nat) : Int), .int .u64 (((eitherC c m19).c : Nat) : Int), .int .u64 (((eitherC c m19).d : Nat) : Int)] rfl hH rfl rfl ?_)
 clear hH; intro w31 hH
 refine Dd <| bkN <| rnd_end (g := (c, p, k)) (eitherC c m19, e20, k - 1) (by kernel_rfl) ?_ ?_
 replace hH := (hH.sb (slk (slk (slk sln)))).n3
 · exact ⟨by rw [hm1, memsC_next hlp, hR3, show k - 1 + 1 = k from by omega], eitherC_ok hok hR3o, by omega, by omega, hH⟩
 · show k - 1 < k; omega
 have hge := hc2
 have hinp := pickI_in (s := s) hge
 replace hH := hH.fr3
 rw [pickP_pos (s := s) (p := p) (l := [93]) (by omega)] at hH
 replace hH : Hp w w17 _ _ [.blk b5 289 [.string (bs s), Ni (p + 1)], .blk b1 38 [.int .u64 0, .int .u64 0, .int .u64 0, .int .u64 0], .blk b3 38 [.int .u64 ((c.a : Nat) : Int), .int .u64 ((c.b : Nat) : Int), .int .u64 ((c.c : Nat) : Int), .int .u64 ((c.d : Nat) : Int)]] := hH
 rw [memsC_end (s := s) (k := k) (c := c) (p := p) (by omega)] at hm1
 refine sw_exit <| thX <| thX <| bkH <| sw_next <| sw_seq <| sw_sr <| Go1 1 37 (.bool (decide ((pickI s 1 [94]) ≥ (0 : Int)))) <| Dn <| If rfl (fun hc4 => ?_) (fun hc4 => ?_)
 have h94 := hc4
 refine sw_region <| Gq rfl (La 2 [.int .u64 ((c.a : Nat) : Int), .int .u64 ((c.b : Nat) : Int), .int .u64 ((c.c : Nat) : Int), .int .u64 ((c.d : Nat) : Int)] hH rfl rfl) <| gl_st (Sc rfl rfl (Not_ct c _ hok) ?_)
 rintro _ w32 ⟨rfl, hF33⟩
 replace hH := hH.call hF33
 refine gl_st (Ka 2 [.int .u64 (((notC c).a : Nat) : Int), .int .u64 (((notC c).b : Nat) : Int), .int .u64 (((notC c).c : Nat) : Int), .int .u64 (((notC c).d : Nat) : Int)] [.int .u64 (((notC c).a : Nat) : Int), .int .u64 (((notC c).b : Nat) : Int), .int .u64 (((notC c).c : Nat) : Int), .int .u64 (((notC c).d : Nat) : Int)] rfl hH rfl rfl ?_)
 clear hH; intro w34 hH
 refine Dd <| sw_next <| sw_seq <| Dr hH (slk (slc (slk sln))) ?_
 clear hH; intro w35 hH hS9
 refine Dq 0 rfl (fun _ hS => (La 1 [.int .u64 (((notC c).a : Nat) : Int), .int .u64 (((notC c).b : Nat) : Int), .int .u64 (((notC c).c : Nat) : Int), .int .u64 (((notC c).d : Nat) : Int)] hS rfl rfl)) hS9 <| Gp1 3 [1,2,3] 43 (Pp b5 1) hS9 <| Dq 4 rfl (fun _ hS => (Lk 0 hS rfl rfl rfl)) hS9 <| gds 5 (Ka 1 [.int .u64 (((notC c).a : Nat) : Int), .int .u64 (((notC c).b : Nat) : Int), .int .u64 (((notC c).c : Nat) : Int), .int .u64 (((notC c).d : Nat) : Int)] [.int .u64 (((notC c).a : Nat) : Int), .int .u64 (((notC c).b : Nat) : Int), .int .u64 (((notC c).c : Nat) : Int), .int .u64 (((notC c).d : Nat) : Int)] rfl hH rfl rfl ?_)
 clear hH; intro w36 hH
 refine Nl (hH.sb (slk (slc (slk sln)))) fun hS9 => Gp2 2 [6,7] 3 (Ni (p + 1)) 4 (.nilIface) hS9 <| gdn [(2, Pp b1 0), (3, Ni (p + 1)), (4, .nilIface)] <| sw_next <| sw_ret <| retC3 rfl (RS.cellA hH 1 (by kernel_rfl) rfl rfl (by kernel_rfl) [.int .u64 (((notC c).a : Nat) : Int), .int .u64 (((notC c).b : Nat) : Int), .int .u64 (((notC c).c : Nat) : Int), .int .u64 (((notC c).d : Nat) : Int)] rfl rfl) (RS.tmp rfl) (RS.tmp rfl) ?_
 replace hH : Hp w w36 _ _ [] := (hH.sb sln)
 exact ps_ok (by unfold parseC; rw [if_neg (by omega), hm1]; simp only; rw [if_pos (by omega)]) (notC_ok hok) (by omega) (by omega) hH
 have h94 := hc4
 refine Sk <| sw_seq <| Dr hH (slk (slc (slk sln))) ?_
 clear hH; intro w37 hH hS9
 refine Dq 0 rfl (fun _ hS => (La 1 [.int .u64 ((c.a : Nat) : Int), .int .u64 ((c.b : Nat) : Int), .int .u64 ((c.c : Nat) : Int), .int .u64 ((c.d : Nat) : Int)] hS rfl rfl)) hS9 <| Gp1 3 [1,2,3] 43 (Pp b5 1) hS9 <| Dq 4 rfl (fun _ hS => (Lk 0 hS rfl rfl rfl)) hS9 <| gds 5 (Ka 1 [.int .u64 ((c.a : Nat) : Int), .int .u64 ((c.b : Nat) : Int), .int .u64 ((c.c : Nat) : Int), .int .u64 ((c.d : Nat) : Int)] [.int .u64 ((c.a : Nat) : Int), .int .u64 ((c.b : Nat) : Int), .int .u64 ((c.c : Nat) : Int), .int .u64 ((c.d : Nat) : Int)] rfl hH rfl rfl ?_)
 clear hH; intro w38 hH
 refine Nl (hH.sb (slk (slc (slk sln)))) fun hS9 => Gp2 2 [6,7] 3 (Ni (p + 1)) 4 (.nilIface) hS9 <| gdn [(2, Pp b1 0), (3, Ni (p + 1)), (4, .nilIface)] <| sw_next <| sw_ret <| retC3 rfl (RS.cellA hH 1 (by kernel_rfl) rfl rfl (by kernel_rfl) [.int .u64 ((c.a : Nat) : Int), .int .u64 ((c.b : Nat) : Int), .int .u64 ((c.c : Nat) : Int), .int .u64 ((c.d : Nat) : Int)] rfl rfl) (RS.tmp rfl) (RS.tmp rfl) ?_
 replace hH : Hp w w38 _ _ [] := (hH.sb sln)
 exact ps_ok (by unfold parseC; rw [if_neg (by omega), hm1]; simp only; rw [if_neg (by omega)]) hok (by omega) (by omega) hH
end Go.Proofs.YtllfpnbhjfadiaaGreatDoor
