/- Part 6 of a proof of a law over the program: Body5, Loop, Pace. Conditions: none beyond what each statement says. -/
import Derived.Test.YtjckojnlapchoaaGreatQ05
set_option linter.unusedVariables false
set_option linter.unusedSimpArgs false
open Go Go.RowKit
namespace Go.Proofs.YtjckojnlapchoaaGreat
open Go.Proofs
def NetD.startErr (N : NetD) (len : Int) (t : Train) : Int :=
  let k := N.p.kind t.at_.elem
  let r := N.p.length t.at_.elem
  if len < 1 ∨ 4000 < len ∨ (¬ k = 4 ∧ ¬ k = 1) ∨ N.p.portOk t.at_ = false then 1
  else if N.readsAt t.at_ < 0 then 7
  else if (k = 4 ∧ ¬ t.left = 0) ∨ (k = 1 ∧ (t.left < 0 ∨ r < t.left)) then 1
  else if k = 1 ∧ r < t.left + len then 9
  else 0
def NetD.start (N : NetD) (len : Int) (t : Train) : Body := if N.startErr len t = 0 then ⟨if N.p.kind t.at_.elem = 4 then 1 else 2, [t.at_], t.left, 0, 0⟩ else noBody
def IsStart (e : Int) (b : Body) (G : Gh) (v : Value) : Prop := ∃ A1 n1 c1, v = .tuple #[.agg ⟨[.int .i64 b.mode, .slice A1 n1 c1, .int .i64 b.left, .int .i64 b.over, .int .i64 b.v]⟩, .int .i64 e] ∧ Body.At G A1 n1 c1 b
theorem IsStart.err {N : NetD} {len : Int} {t : Train} {e : Int} (h : N.startErr len t = e) (h0 : ¬ e = 0) (G : Gh) : IsStart (N.startErr len t) (N.start len t) G (.tuple #[.agg ⟨[.int .i64 0, .slice none 0 0, .int .i64 0, .int .i64 0, .int .i64 0]⟩, .int .i64 e]) := by
  have : N.start len t = noBody := by unfold NetD.start; rw [if_neg (by omega)]
  rw [this, h]
  exact ⟨none, 0, 0, rfl, ⟨Sl.nil _ _⟩⟩
set_option maxRecDepth 20000 in
set_option maxHeartbeats 1000000 in
theorem start_ok {G : Gh} {H : List (Nat × Obj)} {W : World} (hp : Hp G H W) {g : Nat} {N : NetD} (h : NetAt G g N) (len : Int) (t : Train) (hnum : numbersOk N.p = true) : Calls Tryz.prog 108 ⟨[.pointer (some ⟨g, 0, none⟩), .int .i64 len, .agg ⟨t.cells⟩]⟩ W (RetD G H (IsStart (N.startErr len t) (N.start len t))) := by
  have hr := Plan.length_range hnum t.at_.elem
  refine enter Tryz.func108 rfl Tryz.ntmps108 (Nat.le_of_ble_eq_true rfl) hp (nx_seq (nx_region ?_))
  refine nx_op rfl (op_box rfl rfl (fun b5 => ?_))
  refine nx_op rfl (op_alloc rfl (fun b6 => ?_))
  refine nv v_assign (nx_nil (nx_then (nx_seq (dr_begin 12 (.q 0 (.q 1 (.q 2 (.q 3 (.q 5 (.q 6 (.q 7 (.q 8 (.l 4 (.l 9 (.q 10 (.q 11 .done)))))))))))) rfl (by kernel_rfl) (dr_q rfl rfl v_move ic (dr_q rfl rfl v_fieldAddr ic (dr_q rfl rfl v_fieldAddr ic (dr_q rfl rfl v_load1_o ic (dr_q rfl rfl v_move ic (dr_q rfl rfl v_fieldAddr ic (dr_q rfl rfl v_fieldAddr ic ?_)))))))))))
  refine dr_q rfl rfl v_load1_o ic (dr_l rfl rfl ?_)
  refine op_callS rfl rfl rfl (fun W hp => kind_ok hp h t.at_.elem) ?_
  refine dr_k ic (dr_l rfl rfl ?_)
  refine op_callS rfl rfl rfl (fun W hp => length_ok hp h t.at_.elem) ?_
  refine dr_k ic (dr_q rfl rfl v_assign ic (dr_q rfl rfl v_assign ic (dr_end rfl ?_)))
  refine nx_nil (nx_np ?_)
  refine nx_then (nx_seq (nx_block (nx_seq (nx_region (nv v_move (nv v_lss (nv v_move ?_)))))))
  refine nx_guard_dec (t := 24) rfl (fun g24 => ?_) (fun g24 => ?_)
  refine nk (k := nk (k := nv v_pick_t (nv v_move (nk (k := nk (k := nk (k := nu (k := nu (k := nk (k := nv v_pick_t (nv v_move ?_)))))))))))
  refine nk (k := nk (k := nk (k := nk (k := nk (k := nv v_pick_t (nv v_assign (nx_nil (nx_then (nx_cond_t rfl ?_)))))))))
  have herr : N.startErr len t = 1 := by
    unfold NetD.startErr; simp only
    rw [if_pos]
    omega
  refine nx_seq (nx_region (nv (v_build rfl rfl rfl) (st (k := nv v_assign (nx_nil (nx_then (nx_ret (nx_in_ret (nx_then_ret ?_)))))))))
  first
  | (exfalso; omega)
  | exact nx_ret2 rfl ro (.tmp rfl) (rt ((Gh.le.refl _)) (IsStart.err herr (by decide) _))
  | (refine nx_row (T := tPort) (l := [t.at_]) (b := b89) (by repeat (first | exact Take.here | apply Take.cons | apply Take.app)) (rows_Port [t.at_]) rfl (Nat.le_of_ble_eq_true rfl) (fun G9 le9 s9 => ?_)
     have hst : N.start len t = ⟨if N.p.kind t.at_.elem = 4 then 1 else 2, [t.at_], t.left, 0, 0⟩ := if_pos herr
     refine nx_ret2 rfl ro (.tmp rfl) (rt le9 ?_)
     rw [hst, herr]
     first | rw [if_pos (by assumption)] | rw [if_neg (by assumption)]
     exact ⟨_, _, _, rfl, ⟨s9⟩⟩)
  refine nr v_move (nr v_gtr (nv v_pick_f (nv v_move ?_)))
  refine nx_guard_dec (t := 28) rfl (fun g28 => ?_) (fun g28 => ?_)
  refine nk (k := nk (k := nk (k := nu (k := nu (k := nk (k := nv v_pick_t (nv v_move (nk (k := nk (k := nk (k := nk (k := ?_))))))))))))
  refine nk (k := nv v_pick_t (nv v_assign (nx_nil (nx_then (nx_cond_t rfl ?_)))))
  have herr : N.startErr len t = 1 := by
    unfold NetD.startErr; simp only
    rw [if_pos]
    omega
  refine nx_seq (nx_region (nv (v_build rfl rfl rfl) (st (k := nv v_assign (nx_nil (nx_then (nx_ret (nx_in_ret (nx_then_ret ?_)))))))))
  first
  | (exfalso; omega)
  | exact nx_ret2 rfl ro (.tmp rfl) (rt ((Gh.le.refl _)) (IsStart.err herr (by decide) _))
  | (refine nx_row (T := tPort) (l := [t.at_]) (b := b89) (by repeat (first | exact Take.here | apply Take.cons | apply Take.app)) (rows_Port [t.at_]) rfl (Nat.le_of_ble_eq_true rfl) (fun G9 le9 s9 => ?_)
     have hst : N.start len t = ⟨if N.p.kind t.at_.elem = 4 then 1 else 2, [t.at_], t.left, 0, 0⟩ := if_pos herr
     refine nx_ret2 rfl ro (.tmp rfl) (rt le9 ?_)
     rw [hst, herr]
     first | rw [if_pos (by assumption)] | rw [if_neg (by assumption)]
     exact ⟨_, _, _, rfl, ⟨s9⟩⟩)
  refine nr v_move (nr v_neq (nr v_move ?_))
  refine nx_guard_dec (t := 31) rfl (fun g31 => ?_) (fun g31 => ?_)
  refine nr v_move (nr v_neq (nr v_pick_t (nv v_pick_f (nv v_move ?_))))
  refine nx_guard_dec (t := 36) rfl (fun g36 => ?_) (fun g36 => ?_)
  refine nk (k := nk (k := nk (k := nk (k := nk (k := nv v_pick_t (nv v_assign (nx_nil (nx_then (nx_cond_t rfl ?_)))))))))
  have herr : N.startErr len t = 1 := by
    unfold NetD.startErr; simp only
    rw [if_pos]
    omega
  refine nx_seq (nx_region (nv (v_build rfl rfl rfl) (st (k := nv v_assign (nx_nil (nx_then (nx_ret (nx_in_ret (nx_then_ret ?_)))))))))
  first
  | (exfalso; omega)
  | exact nx_ret2 rfl ro (.tmp rfl) (rt ((Gh.le.refl _)) (IsStart.err herr (by decide) _))
  | (refine nx_row (T := tPort) (l := [t.at_]) (b := b89) (by repeat (first | exact Take.here | apply Take.cons | apply Take.app)) (rows_Port [t.at_]) rfl (Nat.le_of_ble_eq_true rfl) (fun G9 le9 s9 => ?_)
     have hst : N.start len t = ⟨if N.p.kind t.at_.elem = 4 then 1 else 2, [t.at_], t.left, 0, 0⟩ := if_pos herr
     refine nx_ret2 rfl ro (.tmp rfl) (rt le9 ?_)
     rw [hst, herr]
     first | rw [if_pos (by assumption)] | rw [if_neg (by assumption)]
     exact ⟨_, _, _, rfl, ⟨s9⟩⟩)
  refine nr v_move (nr v_fieldAddr (nr v_load_o ?_))
  refine nx_op_run rfl rfl rfl (op_callS rfl rfl rfl (fun W hp => bport_ok hp h t.at_) ?_)
  refine nr v_not (nv v_pick_f (nv v_assign (nx_nil (nx_then ?_))))
  refine nx_cond rfl (fun c21 => ?_) (fun c21 => ?_)
  have herr : N.startErr len t = 1 := by
    unfold NetD.startErr; simp only
    rw [if_pos]
    (right; right; right; simp_all; done)
  refine nx_seq (nx_region (nv (v_build rfl rfl rfl) (st (k := nv v_assign (nx_nil (nx_then (nx_ret (nx_in_ret (nx_then_ret ?_)))))))))
  first
  | (exfalso; omega)
  | exact nx_ret2 rfl ro (.tmp rfl) (rt ((Gh.le.refl _)) (IsStart.err herr (by decide) _))
  | (refine nx_row (T := tPort) (l := [t.at_]) (b := b89) (by repeat (first | exact Take.here | apply Take.cons | apply Take.app)) (rows_Port [t.at_]) rfl (Nat.le_of_ble_eq_true rfl) (fun G9 le9 s9 => ?_)
     have hst : N.start len t = ⟨if N.p.kind t.at_.elem = 4 then 1 else 2, [t.at_], t.left, 0, 0⟩ := if_pos herr
     refine nx_ret2 rfl ro (.tmp rfl) (rt le9 ?_)
     rw [hst, herr]
     first | rw [if_pos (by assumption)] | rw [if_neg (by assumption)]
     exact ⟨_, _, _, rfl, ⟨s9⟩⟩)
  have hp1 : ¬ (len < 1 ∨ 4000 < len ∨ (¬ N.p.kind t.at_.elem = 4 ∧ ¬ N.p.kind t.at_.elem = 1) ∨ N.p.portOk t.at_ = false) := by
    have hpt : N.p.portOk t.at_ = true := by simp_all
    rw [hpt]; simp; omega
  refine nx_seq (nx_region (nv v_move (nv v_fieldAddr (nv v_load_o ?_))))
  refine nx_op rfl (op_callS rfl rfl rfl (fun W hp => reads_ok hp h t.at_) ?_)
  refine nv v_lss (nv v_assign (nx_nil (nx_then ?_)))
  refine nx_cond_dec rfl (fun c44 => ?_) (fun c44 => ?_)
  have herr : N.startErr len t = 7 := by unfold NetD.startErr; simp only; rw [if_neg hp1, if_pos c44]
  refine nx_seq (nx_region (nv (v_build rfl rfl rfl) (st (k := nv v_assign (nx_nil (nx_then (nx_ret (nx_in_ret (nx_then_ret ?_)))))))))
  first
  | (exfalso; omega)
  | exact nx_ret2 rfl ro (.tmp rfl) (rt ((Gh.le.refl _)) (IsStart.err herr (by decide) _))
  | (refine nx_row (T := tPort) (l := [t.at_]) (b := b89) (by repeat (first | exact Take.here | apply Take.cons | apply Take.app)) (rows_Port [t.at_]) rfl (Nat.le_of_ble_eq_true rfl) (fun G9 le9 s9 => ?_)
     have hst : N.start len t = ⟨if N.p.kind t.at_.elem = 4 then 1 else 2, [t.at_], t.left, 0, 0⟩ := if_pos herr
     refine nx_ret2 rfl ro (.tmp rfl) (rt le9 ?_)
     rw [hst, herr]
     first | rw [if_pos (by assumption)] | rw [if_neg (by assumption)]
     exact ⟨_, _, _, rfl, ⟨s9⟩⟩)
  refine nx_seq (nx_region (nv v_move (nv v_eql (nv v_move ?_))))
  refine nx_guard_dec (t := 54) rfl (fun g54 => ?_) (fun g54 => ?_)
  refine nr v_fieldAddr (nr v_load1_o (nr v_neq (nv v_pick_t (nv v_move ?_))))
  refine nx_guard_dec (t := 59) rfl (fun g59 => ?_) (fun g59 => ?_)
  refine nk (k := nk (k := nk (k := nu (k := nu (k := nu (k := nu (k := nu (k := nu (k := nu (k := nu (k := nu (k := ?_))))))))))))
  refine nk (k := nv v_pick_t (nv v_assign (nx_nil (nx_then (nx_cond_t rfl ?_)))))
  have herr : N.startErr len t = 1 := by unfold NetD.startErr; simp only; rw [if_neg hp1, if_neg c44, if_pos (by omega)]
  refine nx_seq (nx_region (nv (v_build rfl rfl rfl) (st (k := nv v_assign (nx_nil (nx_then (nx_ret (nx_in_ret (nx_then_ret ?_)))))))))
  first
  | (exfalso; omega)
  | exact nx_ret2 rfl ro (.tmp rfl) (rt ((Gh.le.refl _)) (IsStart.err herr (by decide) _))
  | (refine nx_row (T := tPort) (l := [t.at_]) (b := b89) (by repeat (first | exact Take.here | apply Take.cons | apply Take.app)) (rows_Port [t.at_]) rfl (Nat.le_of_ble_eq_true rfl) (fun G9 le9 s9 => ?_)
     have hst : N.start len t = ⟨if N.p.kind t.at_.elem = 4 then 1 else 2, [t.at_], t.left, 0, 0⟩ := if_pos herr
     refine nx_ret2 rfl ro (.tmp rfl) (rt le9 ?_)
     rw [hst, herr]
     first | rw [if_pos (by assumption)] | rw [if_neg (by assumption)]
     exact ⟨_, _, _, rfl, ⟨s9⟩⟩)
  refine nr v_move (nr v_eql (nr v_move ?_))
  refine nx_guard_dec (t := 62) rfl (fun g62 => ?_) (fun g62 => ?_)
  refine nr v_fieldAddr (nr v_load1_o (nr v_lss (nr v_move ?_)))
  refine nx_guard_dec (t := 66) rfl (fun g66 => ?_) (fun g66 => ?_)
  refine nk (k := nk (k := nk (k := nk (k := nr v_pick_t (nr v_pick_t (nv v_pick_f (nv v_assign (nx_nil (nx_then (nx_cond_t rfl ?_))))))))))
  have herr : N.startErr len t = 1 := by unfold NetD.startErr; simp only; rw [if_neg hp1, if_neg c44, if_pos (by omega)]
  refine nx_seq (nx_region (nv (v_build rfl rfl rfl) (st (k := nv v_assign (nx_nil (nx_then (nx_ret (nx_in_ret (nx_then_ret ?_)))))))))
  first
  | (exfalso; omega)
  | exact nx_ret2 rfl ro (.tmp rfl) (rt ((Gh.le.refl _)) (IsStart.err herr (by decide) _))
  | (refine nx_row (T := tPort) (l := [t.at_]) (b := b89) (by repeat (first | exact Take.here | apply Take.cons | apply Take.app)) (rows_Port [t.at_]) rfl (Nat.le_of_ble_eq_true rfl) (fun G9 le9 s9 => ?_)
     have hst : N.start len t = ⟨if N.p.kind t.at_.elem = 4 then 1 else 2, [t.at_], t.left, 0, 0⟩ := if_pos herr
     refine nx_ret2 rfl ro (.tmp rfl) (rt le9 ?_)
     rw [hst, herr]
     first | rw [if_pos (by assumption)] | rw [if_neg (by assumption)]
     exact ⟨_, _, _, rfl, ⟨s9⟩⟩)
  refine nr v_fieldAddr (nr v_load1_o (nr v_move (nr v_gtr (nr v_pick_f (nr v_pick_t (nv v_pick_f (nv v_assign (nx_nil (nx_then ?_)))))))))
  refine nx_cond_dec rfl (fun c51 => ?_) (fun c51 => ?_)
  have herr : N.startErr len t = 1 := by unfold NetD.startErr; simp only; rw [if_neg hp1, if_neg c44, if_pos (by omega)]
  refine nx_seq (nx_region (nv (v_build rfl rfl rfl) (st (k := nv v_assign (nx_nil (nx_then (nx_ret (nx_in_ret (nx_then_ret ?_)))))))))
  first
  | (exfalso; omega)
  | exact nx_ret2 rfl ro (.tmp rfl) (rt ((Gh.le.refl _)) (IsStart.err herr (by decide) _))
  | (refine nx_row (T := tPort) (l := [t.at_]) (b := b89) (by repeat (first | exact Take.here | apply Take.cons | apply Take.app)) (rows_Port [t.at_]) rfl (Nat.le_of_ble_eq_true rfl) (fun G9 le9 s9 => ?_)
     have hst : N.start len t = ⟨if N.p.kind t.at_.elem = 4 then 1 else 2, [t.at_], t.left, 0, 0⟩ := if_pos herr
     refine nx_ret2 rfl ro (.tmp rfl) (rt le9 ?_)
     rw [hst, herr]
     first | rw [if_pos (by assumption)] | rw [if_neg (by assumption)]
     exact ⟨_, _, _, rfl, ⟨s9⟩⟩)
  have hp2 : ¬ ((N.p.kind t.at_.elem = 4 ∧ ¬ t.left = 0) ∨ (N.p.kind t.at_.elem = 1 ∧ (t.left < 0 ∨ N.p.length t.at_.elem < t.left))) := by omega
  refine nx_seq (nx_region (nv v_move (nv v_eql (nv v_move ?_))))
  refine nx_guard_dec (t := 78) rfl (fun g78 => ?_) (fun g78 => ?_)
  refine nr v_fieldAddr (nr v_load1_o (nr v_move (nr v_add (nr v_move (nr v_gtr (nv v_pick_t (nv v_assign (nx_nil (nx_then ?_)))))))))
  refine nx_cond_dec rfl (fun c75 => ?_) (fun c75 => ?_)
  have herr : N.startErr len t = 9 := by unfold NetD.startErr; simp only; rw [if_neg hp1, if_neg c44, if_neg hp2, if_pos (by omega)]
  refine nx_seq (nx_region (nv (v_build rfl rfl rfl) (st (k := nv v_assign (nx_nil (nx_then (nx_ret (nx_in_ret (nx_then_ret ?_)))))))))
  first
  | (exfalso; omega)
  | exact nx_ret2 rfl ro (.tmp rfl) (rt ((Gh.le.refl _)) (IsStart.err herr (by decide) _))
  | (refine nx_row (T := tPort) (l := [t.at_]) (b := b89) (by repeat (first | exact Take.here | apply Take.cons | apply Take.app)) (rows_Port [t.at_]) rfl (Nat.le_of_ble_eq_true rfl) (fun G9 le9 s9 => ?_)
     have hst : N.start len t = ⟨if N.p.kind t.at_.elem = 4 then 1 else 2, [t.at_], t.left, 0, 0⟩ := if_pos herr
     refine nx_ret2 rfl ro (.tmp rfl) (rt le9 ?_)
     rw [hst, herr]
     first | rw [if_pos (by assumption)] | rw [if_neg (by assumption)]
     exact ⟨_, _, _, rfl, ⟨s9⟩⟩)
  have herr : N.startErr len t = 0 := by unfold NetD.startErr; simp only; rw [if_neg hp1, if_neg c44, if_neg hp2, if_neg (by omega)]
  refine nx_skip (nx_in _ (nx_then (nx_seq (nx_region (nv v_fieldAddr (nv v_load_o ?_))))))
  refine nx_op rfl (op_buildSlice rfl rfl rfl rfl rfl (fun b89 => ?_))
  refine nv v_fieldAddr (nv v_load1_o (nv (v_build rfl rfl rfl) ?_))
  refine nx_op rfl (op_alloc rfl (fun b10 => ?_))
  refine st (k := nx_nil (nx_then (nx_seq (nx_seq (nx_region (nv v_move (nv v_eql (nx_nil (nx_then ?_)))))))))
  refine nx_cond_dec rfl (fun c94 => ?_) (fun c94 => ?_)
  refine nx_region (nv v_fieldAddr (st (k := nx_nil (nx_then (nx_seq (nx_region (nv v_load_o (st (k := nv v_assign (nx_nil (nx_then ?_)))))))))))
  refine nx_ret ?_
  first
  | (exfalso; omega)
  | exact nx_ret2 rfl ro (.tmp rfl) (rt ((Gh.le.refl _)) (IsStart.err herr (by decide) _))
  | (refine nx_row (T := tPort) (l := [t.at_]) (b := b89) (by repeat (first | exact Take.here | apply Take.cons | apply Take.app)) (rows_Port [t.at_]) rfl (Nat.le_of_ble_eq_true rfl) (fun G9 le9 s9 => ?_)
     have hst : N.start len t = ⟨if N.p.kind t.at_.elem = 4 then 1 else 2, [t.at_], t.left, 0, 0⟩ := if_pos herr
     refine nx_ret2 rfl ro (.tmp rfl) (rt le9 ?_)
     rw [hst, herr]
     first | rw [if_pos (by assumption)] | rw [if_neg (by assumption)]
     exact ⟨_, _, _, rfl, ⟨s9⟩⟩)
  refine nx_skip (nx_then (nx_seq (nx_region (nv v_load_o (st (k := nv v_assign (nx_nil (nx_then (nx_ret ?_)))))))))
  first
  | (exfalso; omega)
  | exact nx_ret2 rfl ro (.tmp rfl) (rt ((Gh.le.refl _)) (IsStart.err herr (by decide) _))
  | (refine nx_row (T := tPort) (l := [t.at_]) (b := b89) (by repeat (first | exact Take.here | apply Take.cons | apply Take.app)) (rows_Port [t.at_]) rfl (Nat.le_of_ble_eq_true rfl) (fun G9 le9 s9 => ?_)
     have hst : N.start len t = ⟨if N.p.kind t.at_.elem = 4 then 1 else 2, [t.at_], t.left, 0, 0⟩ := if_pos herr
     refine nx_ret2 rfl ro (.tmp rfl) (rt le9 ?_)
     rw [hst, herr]
     first | rw [if_pos (by assumption)] | rw [if_neg (by assumption)]
     exact ⟨_, _, _, rfl, ⟨s9⟩⟩)
  refine nk (k := nk (k := nk (k := nk (k := nk (k := nk (k := nv v_pick_f (nv v_assign (nx_nil (nx_then (nx_cond_f rfl ?_))))))))))
  have herr : N.startErr len t = 0 := by unfold NetD.startErr; simp only; rw [if_neg hp1, if_neg c44, if_neg hp2, if_neg (by omega)]
  refine nx_skip (nx_in _ (nx_then (nx_seq (nx_region (nv v_fieldAddr (nv v_load_o ?_))))))
  refine nx_op rfl (op_buildSlice rfl rfl rfl rfl rfl (fun b89 => ?_))
  refine nv v_fieldAddr (nv v_load1_o (nv (v_build rfl rfl rfl) ?_))
  refine nx_op rfl (op_alloc rfl (fun b10 => ?_))
  refine st (k := nx_nil (nx_then (nx_seq (nx_seq (nx_region (nv v_move (nv v_eql (nx_nil (nx_then ?_)))))))))
  refine nx_cond_dec rfl (fun c94 => ?_) (fun c94 => ?_)
  refine nx_region (nv v_fieldAddr (st (k := nx_nil (nx_then (nx_seq (nx_region (nv v_load_o (st (k := nv v_assign (nx_nil (nx_then ?_)))))))))))
  refine nx_ret ?_
  first
  | (exfalso; omega)
  | exact nx_ret2 rfl ro (.tmp rfl) (rt ((Gh.le.refl _)) (IsStart.err herr (by decide) _))
  | (refine nx_row (T := tPort) (l := [t.at_]) (b := b89) (by repeat (first | exact Take.here | apply Take.cons | apply Take.app)) (rows_Port [t.at_]) rfl (Nat.le_of_ble_eq_true rfl) (fun G9 le9 s9 => ?_)
     have hst : N.start len t = ⟨if N.p.kind t.at_.elem = 4 then 1 else 2, [t.at_], t.left, 0, 0⟩ := if_pos herr
     refine nx_ret2 rfl ro (.tmp rfl) (rt le9 ?_)
     rw [hst, herr]
     first | rw [if_pos (by assumption)] | rw [if_neg (by assumption)]
     exact ⟨_, _, _, rfl, ⟨s9⟩⟩)
  refine nx_skip (nx_then (nx_seq (nx_region (nv v_load_o (st (k := nv v_assign (nx_nil (nx_then (nx_ret ?_)))))))))
  first
  | (exfalso; omega)
  | exact nx_ret2 rfl ro (.tmp rfl) (rt ((Gh.le.refl _)) (IsStart.err herr (by decide) _))
  | (refine nx_row (T := tPort) (l := [t.at_]) (b := b89) (by repeat (first | exact Take.here | apply Take.cons | apply Take.app)) (rows_Port [t.at_]) rfl (Nat.le_of_ble_eq_true rfl) (fun G9 le9 s9 => ?_)
     have hst : N.start len t = ⟨if N.p.kind t.at_.elem = 4 then 1 else 2, [t.at_], t.left, 0, 0⟩ := if_pos herr
     refine nx_ret2 rfl ro (.tmp rfl) (rt le9 ?_)
     rw [hst, herr]
     first | rw [if_pos (by assumption)] | rw [if_neg (by assumption)]
     exact ⟨_, _, _, rfl, ⟨s9⟩⟩)
  refine nk (k := nk (k := nk (k := nk (k := nu (k := nu (k := nu (k := nu (k := nk (k := nr v_pick_f (nv v_pick_f (nv v_assign ?_)))))))))))
  refine nx_nil (nx_then (nx_cond_f rfl ?_))
  have hp2 : ¬ ((N.p.kind t.at_.elem = 4 ∧ ¬ t.left = 0) ∨ (N.p.kind t.at_.elem = 1 ∧ (t.left < 0 ∨ N.p.length t.at_.elem < t.left))) := by omega
  refine nx_seq (nx_region (nv v_move (nv v_eql (nv v_move ?_))))
  refine nx_guard_dec (t := 78) rfl (fun g78 => ?_) (fun g78 => ?_)
  refine nr v_fieldAddr (nr v_load1_o (nr v_move (nr v_add (nr v_move (nr v_gtr (nv v_pick_t (nv v_assign (nx_nil (nx_then ?_)))))))))
  refine nx_cond_dec rfl (fun c75 => ?_) (fun c75 => ?_)
  have herr : N.startErr len t = 9 := by unfold NetD.startErr; simp only; rw [if_neg hp1, if_neg c44, if_neg hp2, if_pos (by omega)]
  refine nx_seq (nx_region (nv (v_build rfl rfl rfl) (st (k := nv v_assign (nx_nil (nx_then (nx_ret (nx_in_ret (nx_then_ret ?_)))))))))
  first
  | (exfalso; omega)
  | exact nx_ret2 rfl ro (.tmp rfl) (rt ((Gh.le.refl _)) (IsStart.err herr (by decide) _))
  | (refine nx_row (T := tPort) (l := [t.at_]) (b := b89) (by repeat (first | exact Take.here | apply Take.cons | apply Take.app)) (rows_Port [t.at_]) rfl (Nat.le_of_ble_eq_true rfl) (fun G9 le9 s9 => ?_)
     have hst : N.start len t = ⟨if N.p.kind t.at_.elem = 4 then 1 else 2, [t.at_], t.left, 0, 0⟩ := if_pos herr
     refine nx_ret2 rfl ro (.tmp rfl) (rt le9 ?_)
     rw [hst, herr]
     first | rw [if_pos (by assumption)] | rw [if_neg (by assumption)]
     exact ⟨_, _, _, rfl, ⟨s9⟩⟩)
  have herr : N.startErr len t = 0 := by unfold NetD.startErr; simp only; rw [if_neg hp1, if_neg c44, if_neg hp2, if_neg (by omega)]
  refine nx_skip (nx_in _ (nx_then (nx_seq (nx_region (nv v_fieldAddr (nv v_load_o ?_))))))
  refine nx_op rfl (op_buildSlice rfl rfl rfl rfl rfl (fun b89 => ?_))
  refine nv v_fieldAddr (nv v_load1_o (nv (v_build rfl rfl rfl) ?_))
  refine nx_op rfl (op_alloc rfl (fun b10 => ?_))
  refine st (k := nx_nil (nx_then (nx_seq (nx_seq (nx_region (nv v_move (nv v_eql (nx_nil (nx_then ?_)))))))))
  refine nx_cond_dec rfl (fun c94 => ?_) (fun c94 => ?_)
  refine nx_region (nv v_fieldAddr (st (k := nx_nil (nx_then (nx_seq (nx_region (nv v_load_o (st (k := nv v_assign (nx_nil (nx_then ?_)))))))))))
  refine nx_ret ?_
  first
  | (exfalso; omega)
  | exact nx_ret2 rfl ro (.tmp rfl) (rt ((Gh.le.refl _)) (IsStart.err herr (by decide) _))
  | (refine nx_row (T := tPort) (l := [t.at_]) (b := b89) (by repeat (first | exact Take.here | apply Take.cons | apply Take.app)) (rows_Port [t.at_]) rfl (Nat.le_of_ble_eq_true rfl) (fun G9 le9 s9 => ?_)
     have hst : N.start len t = ⟨if N.p.kind t.at_.elem = 4 then 1 else 2, [t.at_], t.left, 0, 0⟩ := if_pos herr
     refine nx_ret2 rfl ro (.tmp rfl) (rt le9 ?_)
     rw [hst, herr]
     first | rw [if_pos (by assumption)] | rw [if_neg (by assumption)]
     exact ⟨_, _, _, rfl, ⟨s9⟩⟩)
  refine nx_skip (nx_then (nx_seq (nx_region (nv v_load_o (st (k := nv v_assign (nx_nil (nx_then (nx_ret ?_)))))))))
  first
  | (exfalso; omega)
  | exact nx_ret2 rfl ro (.tmp rfl) (rt ((Gh.le.refl _)) (IsStart.err herr (by decide) _))
  | (refine nx_row (T := tPort) (l := [t.at_]) (b := b89) (by repeat (first | exact Take.here | apply Take.cons | apply Take.app)) (rows_Port [t.at_]) rfl (Nat.le_of_ble_eq_true rfl) (fun G9 le9 s9 => ?_)
     have hst : N.start len t = ⟨if N.p.kind t.at_.elem = 4 then 1 else 2, [t.at_], t.left, 0, 0⟩ := if_pos herr
     refine nx_ret2 rfl ro (.tmp rfl) (rt le9 ?_)
     rw [hst, herr]
     first | rw [if_pos (by assumption)] | rw [if_neg (by assumption)]
     exact ⟨_, _, _, rfl, ⟨s9⟩⟩)
  refine nk (k := nk (k := nk (k := nk (k := nk (k := nk (k := nv v_pick_f (nv v_assign (nx_nil (nx_then (nx_cond_f rfl ?_))))))))))
  have herr : N.startErr len t = 0 := by unfold NetD.startErr; simp only; rw [if_neg hp1, if_neg c44, if_neg hp2, if_neg (by omega)]
  refine nx_skip (nx_in _ (nx_then (nx_seq (nx_region (nv v_fieldAddr (nv v_load_o ?_))))))
  refine nx_op rfl (op_buildSlice rfl rfl rfl rfl rfl (fun b89 => ?_))
  refine nv v_fieldAddr (nv v_load1_o (nv (v_build rfl rfl rfl) ?_))
  refine nx_op rfl (op_alloc rfl (fun b10 => ?_))
  refine st (k := nx_nil (nx_then (nx_seq (nx_seq (nx_region (nv v_move (nv v_eql (nx_nil (nx_then ?_)))))))))
  refine nx_cond_dec rfl (fun c94 => ?_) (fun c94 => ?_)
  refine nx_region (nv v_fieldAddr (st (k := nx_nil (nx_then (nx_seq (nx_region (nv v_load_o (st (k := nv v_assign (nx_nil (nx_then ?_)))))))))))
  refine nx_ret ?_
  first
  | (exfalso; omega)
  | exact nx_ret2 rfl ro (.tmp rfl) (rt ((Gh.le.refl _)) (IsStart.err herr (by decide) _))
  | (refine nx_row (T := tPort) (l := [t.at_]) (b := b89) (by repeat (first | exact Take.here | apply Take.cons | apply Take.app)) (rows_Port [t.at_]) rfl (Nat.le_of_ble_eq_true rfl) (fun G9 le9 s9 => ?_)
     have hst : N.start len t = ⟨if N.p.kind t.at_.elem = 4 then 1 else 2, [t.at_], t.left, 0, 0⟩ := if_pos herr
     refine nx_ret2 rfl ro (.tmp rfl) (rt le9 ?_)
     rw [hst, herr]
     first | rw [if_pos (by assumption)] | rw [if_neg (by assumption)]
     exact ⟨_, _, _, rfl, ⟨s9⟩⟩)
  refine nx_skip (nx_then (nx_seq (nx_region (nv v_load_o (st (k := nv v_assign (nx_nil (nx_then (nx_ret ?_)))))))))
  first
  | (exfalso; omega)
  | exact nx_ret2 rfl ro (.tmp rfl) (rt ((Gh.le.refl _)) (IsStart.err herr (by decide) _))
  | (refine nx_row (T := tPort) (l := [t.at_]) (b := b89) (by repeat (first | exact Take.here | apply Take.cons | apply Take.app)) (rows_Port [t.at_]) rfl (Nat.le_of_ble_eq_true rfl) (fun G9 le9 s9 => ?_)
     have hst : N.start len t = ⟨if N.p.kind t.at_.elem = 4 then 1 else 2, [t.at_], t.left, 0, 0⟩ := if_pos herr
     refine nx_ret2 rfl ro (.tmp rfl) (rt le9 ?_)
     rw [hst, herr]
     first | rw [if_pos (by assumption)] | rw [if_neg (by assumption)]
     exact ⟨_, _, _, rfl, ⟨s9⟩⟩)
  refine nk (k := nk (k := nk (k := nv v_pick_f (nv v_move (nr v_move (nr v_eql (nr v_move ?_)))))))
  refine nx_guard_dec (t := 62) rfl (fun g62 => ?_) (fun g62 => ?_)
  refine nr v_fieldAddr (nr v_load1_o (nr v_lss (nr v_move ?_)))
  refine nx_guard_dec (t := 66) rfl (fun g66 => ?_) (fun g66 => ?_)
  refine nk (k := nk (k := nk (k := nk (k := nr v_pick_t (nr v_pick_t (nv v_pick_f (nv v_assign (nx_nil (nx_then (nx_cond_t rfl ?_))))))))))
  have herr : N.startErr len t = 1 := by unfold NetD.startErr; simp only; rw [if_neg hp1, if_neg c44, if_pos (by omega)]
  refine nx_seq (nx_region (nv (v_build rfl rfl rfl) (st (k := nv v_assign (nx_nil (nx_then (nx_ret (nx_in_ret (nx_then_ret ?_)))))))))
  first
  | (exfalso; omega)
  | exact nx_ret2 rfl ro (.tmp rfl) (rt ((Gh.le.refl _)) (IsStart.err herr (by decide) _))
  | (refine nx_row (T := tPort) (l := [t.at_]) (b := b89) (by repeat (first | exact Take.here | apply Take.cons | apply Take.app)) (rows_Port [t.at_]) rfl (Nat.le_of_ble_eq_true rfl) (fun G9 le9 s9 => ?_)
     have hst : N.start len t = ⟨if N.p.kind t.at_.elem = 4 then 1 else 2, [t.at_], t.left, 0, 0⟩ := if_pos herr
     refine nx_ret2 rfl ro (.tmp rfl) (rt le9 ?_)
     rw [hst, herr]
     first | rw [if_pos (by assumption)] | rw [if_neg (by assumption)]
     exact ⟨_, _, _, rfl, ⟨s9⟩⟩)
  refine nr v_fieldAddr (nr v_load1_o (nr v_move (nr v_gtr (nr v_pick_f (nr v_pick_t (nv v_pick_f (nv v_assign (nx_nil (nx_then ?_)))))))))
  refine nx_cond_dec rfl (fun c51 => ?_) (fun c51 => ?_)
  have herr : N.startErr len t = 1 := by unfold NetD.startErr; simp only; rw [if_neg hp1, if_neg c44, if_pos (by omega)]
  refine nx_seq (nx_region (nv (v_build rfl rfl rfl) (st (k := nv v_assign (nx_nil (nx_then (nx_ret (nx_in_ret (nx_then_ret ?_)))))))))
  first
  | (exfalso; omega)
  | exact nx_ret2 rfl ro (.tmp rfl) (rt ((Gh.le.refl _)) (IsStart.err herr (by decide) _))
  | (refine nx_row (T := tPort) (l := [t.at_]) (b := b89) (by repeat (first | exact Take.here | apply Take.cons | apply Take.app)) (rows_Port [t.at_]) rfl (Nat.le_of_ble_eq_true rfl) (fun G9 le9 s9 => ?_)
     have hst : N.start len t = ⟨if N.p.kind t.at_.elem = 4 then 1 else 2, [t.at_], t.left, 0, 0⟩ := if_pos herr
     refine nx_ret2 rfl ro (.tmp rfl) (rt le9 ?_)
     rw [hst, herr]
     first | rw [if_pos (by assumption)] | rw [if_neg (by assumption)]
     exact ⟨_, _, _, rfl, ⟨s9⟩⟩)
  have hp2 : ¬ ((N.p.kind t.at_.elem = 4 ∧ ¬ t.left = 0) ∨ (N.p.kind t.at_.elem = 1 ∧ (t.left < 0 ∨ N.p.length t.at_.elem < t.left))) := by omega
  refine nx_seq (nx_region (nv v_move (nv v_eql (nv v_move ?_))))
  refine nx_guard_dec (t := 78) rfl (fun g78 => ?_) (fun g78 => ?_)
  refine nr v_fieldAddr (nr v_load1_o (nr v_move (nr v_add (nr v_move (nr v_gtr (nv v_pick_t (nv v_assign (nx_nil (nx_then ?_)))))))))
  refine nx_cond_dec rfl (fun c75 => ?_) (fun c75 => ?_)
  have herr : N.startErr len t = 9 := by unfold NetD.startErr; simp only; rw [if_neg hp1, if_neg c44, if_neg hp2, if_pos (by omega)]
  refine nx_seq (nx_region (nv (v_build rfl rfl rfl) (st (k := nv v_assign (nx_nil (nx_then (nx_ret (nx_in_ret (nx_then_ret ?_)))))))))
  first
  | (exfalso; omega)
  | exact nx_ret2 rfl ro (.tmp rfl) (rt ((Gh.le.refl _)) (IsStart.err herr (by decide) _))
  | (refine nx_row (T := tPort) (l := [t.at_]) (b := b89) (by repeat (first | exact Take.here | apply Take.cons | apply Take.app)) (rows_Port [t.at_]) rfl (Nat.le_of_ble_eq_true rfl) (fun G9 le9 s9 => ?_)
     have hst : N.start len t = ⟨if N.p.kind t.at_.elem = 4 then 1 else 2, [t.at_], t.left, 0, 0⟩ := if_pos herr
     refine nx_ret2 rfl ro (.tmp rfl) (rt le9 ?_)
     rw [hst, herr]
     first | rw [if_pos (by assumption)] | rw [if_neg (by assumption)]
     exact ⟨_, _, _, rfl, ⟨s9⟩⟩)
  have herr : N.startErr len t = 0 := by unfold NetD.startErr; simp only; rw [if_neg hp1, if_neg c44, if_neg hp2, if_neg (by omega)]
  refine nx_skip (nx_in _ (nx_then (nx_seq (nx_region (nv v_fieldAddr (nv v_load_o ?_))))))
  refine nx_op rfl (op_buildSlice rfl rfl rfl rfl rfl (fun b89 => ?_))
  refine nv v_fieldAddr (nv v_load1_o (nv (v_build rfl rfl rfl) ?_))
  refine nx_op rfl (op_alloc rfl (fun b10 => ?_))
  refine st (k := nx_nil (nx_then (nx_seq (nx_seq (nx_region (nv v_move (nv v_eql (nx_nil (nx_then ?_)))))))))
  refine nx_cond_dec rfl (fun c94 => ?_) (fun c94 => ?_)
  refine nx_region (nv v_fieldAddr (st (k := nx_nil (nx_then (nx_seq (nx_region (nv v_load_o (st (k := nv v_assign (nx_nil (nx_then ?_)))))))))))
  refine nx_ret ?_
  first
  | (exfalso; omega)
  | exact nx_ret2 rfl ro (.tmp rfl) (rt ((Gh.le.refl _)) (IsStart.err herr (by decide) _))
  | (refine nx_row (T := tPort) (l := [t.at_]) (b := b89) (by repeat (first | exact Take.here | apply Take.cons | apply Take.app)) (rows_Port [t.at_]) rfl (Nat.le_of_ble_eq_true rfl) (fun G9 le9 s9 => ?_)
     have hst : N.start len t = ⟨if N.p.kind t.at_.elem = 4 then 1 else 2, [t.at_], t.left, 0, 0⟩ := if_pos herr
     refine nx_ret2 rfl ro (.tmp rfl) (rt le9 ?_)
     rw [hst, herr]
     first | rw [if_pos (by assumption)] | rw [if_neg (by assumption)]
     exact ⟨_, _, _, rfl, ⟨s9⟩⟩)
  refine nx_skip (nx_then (nx_seq (nx_region (nv v_load_o (st (k := nv v_assign (nx_nil (nx_then (nx_ret ?_)))))))))
  first
  | (exfalso; omega)
  | exact nx_ret2 rfl ro (.tmp rfl) (rt ((Gh.le.refl _)) (IsStart.err herr (by decide) _))
  | (refine nx_row (T := tPort) (l := [t.at_]) (b := b89) (by repeat (first | exact Take.here | apply Take.cons | apply Take.app)) (rows_Port [t.at_]) rfl (Nat.le_of_ble_eq_true rfl) (fun G9 le9 s9 => ?_)
     have hst : N.start len t = ⟨if N.p.kind t.at_.elem = 4 then 1 else 2, [t.at_], t.left, 0, 0⟩ := if_pos herr
     refine nx_ret2 rfl ro (.tmp rfl) (rt le9 ?_)
     rw [hst, herr]
     rw [if_neg (by assumption)]
     exact ⟨_, _, _, rfl, ⟨s9⟩⟩)
  refine nk (k := nk (k := nk (k := nk (k := nk (k := nk (k := nv v_pick_f (nv v_assign (nx_nil (nx_then (nx_cond_f rfl ?_))))))))))
  have herr : N.startErr len t = 0 := by unfold NetD.startErr; simp only; rw [if_neg hp1, if_neg c44, if_neg hp2, if_neg (by omega)]
  refine nx_skip (nx_in _ (nx_then (nx_seq (nx_region (nv v_fieldAddr (nv v_load_o ?_))))))
  refine nx_op rfl (op_buildSlice rfl rfl rfl rfl rfl (fun b89 => ?_))
  refine nv v_fieldAddr (nv v_load1_o (nv (v_build rfl rfl rfl) ?_))
  refine nx_op rfl (op_alloc rfl (fun b10 => ?_))
  refine st (k := nx_nil (nx_then (nx_seq (nx_seq (nx_region (nv v_move (nv v_eql (nx_nil (nx_then ?_)))))))))
  refine nx_cond_dec rfl (fun c94 => ?_) (fun c94 => ?_)
  refine nx_region (nv v_fieldAddr (st (k := nx_nil (nx_then (nx_seq (nx_region (nv v_load_o (st (k := nv v_assign (nx_nil (nx_then ?_)))))))))))
  refine nx_ret ?_
  first
  | (exfalso; omega)
  | exact nx_ret2 rfl ro (.tmp rfl) (rt ((Gh.le.refl _)) (IsStart.err herr (by decide) _))
  | (refine nx_row (T := tPort) (l := [t.at_]) (b := b89) (by repeat (first | exact Take.here | apply Take.cons | apply Take.app)) (rows_Port [t.at_]) rfl (Nat.le_of_ble_eq_true rfl) (fun G9 le9 s9 => ?_)
     have hst : N.start len t = ⟨if N.p.kind t.at_.elem = 4 then 1 else 2, [t.at_], t.left, 0, 0⟩ := if_pos herr
     refine nx_ret2 rfl ro (.tmp rfl) (rt le9 ?_)
     rw [hst, herr]
     first | rw [if_pos (by assumption)] | rw [if_neg (by assumption)]
     exact ⟨_, _, _, rfl, ⟨s9⟩⟩)
  refine nx_skip (nx_then (nx_seq (nx_region (nv v_load_o (st (k := nv v_assign (nx_nil (nx_then (nx_ret ?_)))))))))
  first
  | (exfalso; omega)
  | exact nx_ret2 rfl ro (.tmp rfl) (rt ((Gh.le.refl _)) (IsStart.err herr (by decide) _))
  | (refine nx_row (T := tPort) (l := [t.at_]) (b := b89) (by repeat (first | exact Take.here | apply Take.cons | apply Take.app)) (rows_Port [t.at_]) rfl (Nat.le_of_ble_eq_true rfl) (fun G9 le9 s9 => ?_)
     have hst : N.start len t = ⟨if N.p.kind t.at_.elem = 4 then 1 else 2, [t.at_], t.left, 0, 0⟩ := if_pos herr
     refine nx_ret2 rfl ro (.tmp rfl) (rt le9 ?_)
     rw [hst, herr]
     first | rw [if_pos (by assumption)] | rw [if_neg (by assumption)]
     exact ⟨_, _, _, rfl, ⟨s9⟩⟩)
  refine nk (k := nk (k := nk (k := nk (k := nu (k := nu (k := nu (k := nu (k := nk (k := nr v_pick_f (nv v_pick_f (nv v_assign ?_)))))))))))
  refine nx_nil (nx_then (nx_cond_f rfl ?_))
  have hp2 : ¬ ((N.p.kind t.at_.elem = 4 ∧ ¬ t.left = 0) ∨ (N.p.kind t.at_.elem = 1 ∧ (t.left < 0 ∨ N.p.length t.at_.elem < t.left))) := by omega
  refine nx_seq (nx_region (nv v_move (nv v_eql (nv v_move ?_))))
  refine nx_guard_dec (t := 78) rfl (fun g78 => ?_) (fun g78 => ?_)
  refine nr v_fieldAddr (nr v_load1_o (nr v_move (nr v_add (nr v_move (nr v_gtr (nv v_pick_t (nv v_assign (nx_nil (nx_then ?_)))))))))
  refine nx_cond_dec rfl (fun c75 => ?_) (fun c75 => ?_)
  have herr : N.startErr len t = 9 := by unfold NetD.startErr; simp only; rw [if_neg hp1, if_neg c44, if_neg hp2, if_pos (by omega)]
  refine nx_seq (nx_region (nv (v_build rfl rfl rfl) (st (k := nv v_assign (nx_nil (nx_then (nx_ret (nx_in_ret (nx_then_ret ?_)))))))))
  first
  | (exfalso; omega)
  | exact nx_ret2 rfl ro (.tmp rfl) (rt ((Gh.le.refl _)) (IsStart.err herr (by decide) _))
  | (refine nx_row (T := tPort) (l := [t.at_]) (b := b89) (by repeat (first | exact Take.here | apply Take.cons | apply Take.app)) (rows_Port [t.at_]) rfl (Nat.le_of_ble_eq_true rfl) (fun G9 le9 s9 => ?_)
     have hst : N.start len t = ⟨if N.p.kind t.at_.elem = 4 then 1 else 2, [t.at_], t.left, 0, 0⟩ := if_pos herr
     refine nx_ret2 rfl ro (.tmp rfl) (rt le9 ?_)
     rw [hst, herr]
     first | rw [if_pos (by assumption)] | rw [if_neg (by assumption)]
     exact ⟨_, _, _, rfl, ⟨s9⟩⟩)
  have herr : N.startErr len t = 0 := by unfold NetD.startErr; simp only; rw [if_neg hp1, if_neg c44, if_neg hp2, if_neg (by omega)]
  refine nx_skip (nx_in _ (nx_then (nx_seq (nx_region (nv v_fieldAddr (nv v_load_o ?_))))))
  refine nx_op rfl (op_buildSlice rfl rfl rfl rfl rfl (fun b89 => ?_))
  refine nv v_fieldAddr (nv v_load1_o (nv (v_build rfl rfl rfl) ?_))
  refine nx_op rfl (op_alloc rfl (fun b10 => ?_))
  refine st (k := nx_nil (nx_then (nx_seq (nx_seq (nx_region (nv v_move (nv v_eql (nx_nil (nx_then ?_)))))))))
  refine nx_cond_dec rfl (fun c94 => ?_) (fun c94 => ?_)
  refine nx_region (nv v_fieldAddr (st (k := nx_nil (nx_then (nx_seq (nx_region (nv v_load_o (st (k := nv v_assign (nx_nil (nx_then ?_)))))))))))
  refine nx_ret ?_
  first
  | (exfalso; omega)
  | exact nx_ret2 rfl ro (.tmp rfl) (rt ((Gh.le.refl _)) (IsStart.err herr (by decide) _))
  | (refine nx_row (T := tPort) (l := [t.at_]) (b := b89) (by repeat (first | exact Take.here | apply Take.cons | apply Take.app)) (rows_Port [t.at_]) rfl (Nat.le_of_ble_eq_true rfl) (fun G9 le9 s9 => ?_)
     have hst : N.start len t = ⟨if N.p.kind t.at_.elem = 4 then 1 else 2, [t.at_], t.left, 0, 0⟩ := if_pos herr
     refine nx_ret2 rfl ro (.tmp rfl) (rt le9 ?_)
     rw [hst, herr]
     first | rw [if_pos (by assumption)] | rw [if_neg (by assumption)]
     exact ⟨_, _, _, rfl, ⟨s9⟩⟩)
  refine nx_skip (nx_then (nx_seq (nx_region (nv v_load_o (st (k := nv v_assign (nx_nil (nx_then (nx_ret ?_)))))))))
  first
  | (exfalso; omega)
  | exact nx_ret2 rfl ro (.tmp rfl) (rt ((Gh.le.refl _)) (IsStart.err herr (by decide) _))
  | (refine nx_row (T := tPort) (l := [t.at_]) (b := b89) (by repeat (first | exact Take.here | apply Take.cons | apply Take.app)) (rows_Port [t.at_]) rfl (Nat.le_of_ble_eq_true rfl) (fun G9 le9 s9 => ?_)
     have hst : N.start len t = ⟨if N.p.kind t.at_.elem = 4 then 1 else 2, [t.at_], t.left, 0, 0⟩ := if_pos herr
     refine nx_ret2 rfl ro (.tmp rfl) (rt le9 ?_)
     rw [hst, herr]
     first | rw [if_pos (by assumption)] | rw [if_neg (by assumption)]
     exact ⟨_, _, _, rfl, ⟨s9⟩⟩)
  refine nk (k := nk (k := nk (k := nk (k := nk (k := nk (k := nv v_pick_f (nv v_assign (nx_nil (nx_then (nx_cond_f rfl ?_))))))))))
  have herr : N.startErr len t = 0 := by unfold NetD.startErr; simp only; rw [if_neg hp1, if_neg c44, if_neg hp2, if_neg (by omega)]
  refine nx_skip (nx_in _ (nx_then (nx_seq (nx_region (nv v_fieldAddr (nv v_load_o ?_))))))
  refine nx_op rfl (op_buildSlice rfl rfl rfl rfl rfl (fun b89 => ?_))
  refine nv v_fieldAddr (nv v_load1_o (nv (v_build rfl rfl rfl) ?_))
  refine nx_op rfl (op_alloc rfl (fun b10 => ?_))
  refine st (k := nx_nil (nx_then (nx_seq (nx_seq (nx_region (nv v_move (nv v_eql (nx_nil (nx_then ?_)))))))))
  refine nx_cond_dec rfl (fun c94 => ?_) (fun c94 => ?_)
  refine nx_region (nv v_fieldAddr (st (k := nx_nil (nx_then (nx_seq (nx_region (nv v_load_o (st (k := nv v_assign (nx_nil (nx_then ?_)))))))))))
  refine nx_ret ?_
  first
  | (exfalso; omega)
  | exact nx_ret2 rfl ro (.tmp rfl) (rt ((Gh.le.refl _)) (IsStart.err herr (by decide) _))
  | (refine nx_row (T := tPort) (l := [t.at_]) (b := b89) (by repeat (first | exact Take.here | apply Take.cons | apply Take.app)) (rows_Port [t.at_]) rfl (Nat.le_of_ble_eq_true rfl) (fun G9 le9 s9 => ?_)
     have hst : N.start len t = ⟨if N.p.kind t.at_.elem = 4 then 1 else 2, [t.at_], t.left, 0, 0⟩ := if_pos herr
     refine nx_ret2 rfl ro (.tmp rfl) (rt le9 ?_)
     rw [hst, herr]
     first | rw [if_pos (by assumption)] | rw [if_neg (by assumption)]
     exact ⟨_, _, _, rfl, ⟨s9⟩⟩)
  refine nx_skip (nx_then (nx_seq (nx_region (nv v_load_o (st (k := nv v_assign (nx_nil (nx_then (nx_ret ?_)))))))))
  first
  | (exfalso; omega)
  | exact nx_ret2 rfl ro (.tmp rfl) (rt ((Gh.le.refl _)) (IsStart.err herr (by decide) _))
  | (refine nx_row (T := tPort) (l := [t.at_]) (b := b89) (by repeat (first | exact Take.here | apply Take.cons | apply Take.app)) (rows_Port [t.at_]) rfl (Nat.le_of_ble_eq_true rfl) (fun G9 le9 s9 => ?_)
     have hst : N.start len t = ⟨if N.p.kind t.at_.elem = 4 then 1 else 2, [t.at_], t.left, 0, 0⟩ := if_pos herr
     refine nx_ret2 rfl ro (.tmp rfl) (rt le9 ?_)
     rw [hst, herr]
     first | rw [if_pos (by assumption)] | rw [if_neg (by assumption)]
     exact ⟨_, _, _, rfl, ⟨s9⟩⟩)
  refine nk (k := nk (k := nr v_pick_f (nv v_pick_f (nv v_move (nr v_move (nr v_fieldAddr (nr v_load_o ?_)))))))
  refine nx_op_run rfl rfl rfl (op_callS rfl rfl rfl (fun W hp => bport_ok hp h t.at_) ?_)
  refine nr v_not (nv v_pick_f (nv v_assign (nx_nil (nx_then ?_))))
  refine nx_cond rfl (fun c21 => ?_) (fun c21 => ?_)
  have herr : N.startErr len t = 1 := by
    unfold NetD.startErr; simp only
    rw [if_pos]
    (right; right; right; simp_all; done)
  refine nx_seq (nx_region (nv (v_build rfl rfl rfl) (st (k := nv v_assign (nx_nil (nx_then (nx_ret (nx_in_ret (nx_then_ret ?_)))))))))
  first
  | (exfalso; omega)
  | exact nx_ret2 rfl ro (.tmp rfl) (rt ((Gh.le.refl _)) (IsStart.err herr (by decide) _))
  | (refine nx_row (T := tPort) (l := [t.at_]) (b := b89) (by repeat (first | exact Take.here | apply Take.cons | apply Take.app)) (rows_Port [t.at_]) rfl (Nat.le_of_ble_eq_true rfl) (fun G9 le9 s9 => ?_)
     have hst : N.start len t = ⟨if N.p.kind t.at_.elem = 4 then 1 else 2, [t.at_], t.left, 0, 0⟩ := if_pos herr
     refine nx_ret2 rfl ro (.tmp rfl) (rt le9 ?_)
     rw [hst, herr]
     first | rw [if_pos (by assumption)] | rw [if_neg (by assumption)]
     exact ⟨_, _, _, rfl, ⟨s9⟩⟩)
  have hp1 : ¬ (len < 1 ∨ 4000 < len ∨ (¬ N.p.kind t.at_.elem = 4 ∧ ¬ N.p.kind t.at_.elem = 1) ∨ N.p.portOk t.at_ = false) := by
    have hpt : N.p.portOk t.at_ = true := by simp_all
    rw [hpt]; simp; omega
  refine nx_seq (nx_region (nv v_move (nv v_fieldAddr (nv v_load_o ?_))))
  refine nx_op rfl (op_callS rfl rfl rfl (fun W hp => reads_ok hp h t.at_) ?_)
  refine nv v_lss (nv v_assign (nx_nil (nx_then ?_)))
  refine nx_cond_dec rfl (fun c44 => ?_) (fun c44 => ?_)
  have herr : N.startErr len t = 7 := by unfold NetD.startErr; simp only; rw [if_neg hp1, if_pos c44]
  refine nx_seq (nx_region (nv (v_build rfl rfl rfl) (st (k := nv v_assign (nx_nil (nx_then (nx_ret (nx_in_ret (nx_then_ret ?_)))))))))
  first
  | (exfalso; omega)
  | exact nx_ret2 rfl ro (.tmp rfl) (rt ((Gh.le.refl _)) (IsStart.err herr (by decide) _))
  | (refine nx_row (T := tPort) (l := [t.at_]) (b := b89) (by repeat (first | exact Take.here | apply Take.cons | apply Take.app)) (rows_Port [t.at_]) rfl (Nat.le_of_ble_eq_true rfl) (fun G9 le9 s9 => ?_)
     have hst : N.start len t = ⟨if N.p.kind t.at_.elem = 4 then 1 else 2, [t.at_], t.left, 0, 0⟩ := if_pos herr
     refine nx_ret2 rfl ro (.tmp rfl) (rt le9 ?_)
     rw [hst, herr]
     first | rw [if_pos (by assumption)] | rw [if_neg (by assumption)]
     exact ⟨_, _, _, rfl, ⟨s9⟩⟩)
  refine nx_seq (nx_region (nv v_move (nv v_eql (nv v_move ?_))))
  refine nx_guard_dec (t := 54) rfl (fun g54 => ?_) (fun g54 => ?_)
  refine nr v_fieldAddr (nr v_load1_o (nr v_neq (nv v_pick_t (nv v_move ?_))))
  refine nx_guard_dec (t := 59) rfl (fun g59 => ?_) (fun g59 => ?_)
  refine nk (k := nk (k := nk (k := nu (k := nu (k := nu (k := nu (k := nu (k := nu (k := nu (k := nu (k := nu (k := ?_))))))))))))
  refine nk (k := nv v_pick_t (nv v_assign (nx_nil (nx_then (nx_cond_t rfl ?_)))))
  have herr : N.startErr len t = 1 := by unfold NetD.startErr; simp only; rw [if_neg hp1, if_neg c44, if_pos (by omega)]
  refine nx_seq (nx_region (nv (v_build rfl rfl rfl) (st (k := nv v_assign (nx_nil (nx_then (nx_ret (nx_in_ret (nx_then_ret ?_)))))))))
  first
  | (exfalso; omega)
  | exact nx_ret2 rfl ro (.tmp rfl) (rt ((Gh.le.refl _)) (IsStart.err herr (by decide) _))
  | (refine nx_row (T := tPort) (l := [t.at_]) (b := b89) (by repeat (first | exact Take.here | apply Take.cons | apply Take.app)) (rows_Port [t.at_]) rfl (Nat.le_of_ble_eq_true rfl) (fun G9 le9 s9 => ?_)
     have hst : N.start len t = ⟨if N.p.kind t.at_.elem = 4 then 1 else 2, [t.at_], t.left, 0, 0⟩ := if_pos herr
     refine nx_ret2 rfl ro (.tmp rfl) (rt le9 ?_)
     rw [hst, herr]
     first | rw [if_pos (by assumption)] | rw [if_neg (by assumption)]
     exact ⟨_, _, _, rfl, ⟨s9⟩⟩)
  refine nr v_move (nr v_eql (nr v_move ?_))
  refine nx_guard_dec (t := 62) rfl (fun g62 => ?_) (fun g62 => ?_)
  refine nr v_fieldAddr (nr v_load1_o (nr v_lss (nr v_move ?_)))
  refine nx_guard_dec (t := 66) rfl (fun g66 => ?_) (fun g66 => ?_)
  refine nk (k := nk (k := nk (k := nk (k := nr v_pick_t (nr v_pick_t (nv v_pick_f (nv v_assign (nx_nil (nx_then (nx_cond_t rfl ?_))))))))))
  have herr : N.startErr len t = 1 := by unfold NetD.startErr; simp only; rw [if_neg hp1, if_neg c44, if_pos (by omega)]
  refine nx_seq (nx_region (nv (v_build rfl rfl rfl) (st (k := nv v_assign (nx_nil (nx_then (nx_ret (nx_in_ret (nx_then_ret ?_)))))))))
  first
  | (exfalso; omega)
  | exact nx_ret2 rfl ro (.tmp rfl) (rt ((Gh.le.refl _)) (IsStart.err herr (by decide) _))
  | (refine nx_row (T := tPort) (l := [t.at_]) (b := b89) (by repeat (first | exact Take.here | apply Take.cons | apply Take.app)) (rows_Port [t.at_]) rfl (Nat.le_of_ble_eq_true rfl) (fun G9 le9 s9 => ?_)
     have hst : N.start len t = ⟨if N.p.kind t.at_.elem = 4 then 1 else 2, [t.at_], t.left, 0, 0⟩ := if_pos herr
     refine nx_ret2 rfl ro (.tmp rfl) (rt le9 ?_)
     rw [hst, herr]
     first | rw [if_pos (by assumption)] | rw [if_neg (by assumption)]
     exact ⟨_, _, _, rfl, ⟨s9⟩⟩)
  refine nr v_fieldAddr (nr v_load1_o (nr v_move (nr v_gtr (nr v_pick_f (nr v_pick_t (nv v_pick_f (nv v_assign (nx_nil (nx_then ?_)))))))))
  refine nx_cond_dec rfl (fun c51 => ?_) (fun c51 => ?_)
  have herr : N.startErr len t = 1 := by unfold NetD.startErr; simp only; rw [if_neg hp1, if_neg c44, if_pos (by omega)]
  refine nx_seq (nx_region (nv (v_build rfl rfl rfl) (st (k := nv v_assign (nx_nil (nx_then (nx_ret (nx_in_ret (nx_then_ret ?_)))))))))
  first
  | (exfalso; omega)
  | exact nx_ret2 rfl ro (.tmp rfl) (rt ((Gh.le.refl _)) (IsStart.err herr (by decide) _))
  | (refine nx_row (T := tPort) (l := [t.at_]) (b := b89) (by repeat (first | exact Take.here | apply Take.cons | apply Take.app)) (rows_Port [t.at_]) rfl (Nat.le_of_ble_eq_true rfl) (fun G9 le9 s9 => ?_)
     have hst : N.start len t = ⟨if N.p.kind t.at_.elem = 4 then 1 else 2, [t.at_], t.left, 0, 0⟩ := if_pos herr
     refine nx_ret2 rfl ro (.tmp rfl) (rt le9 ?_)
     rw [hst, herr]
     first | rw [if_pos (by assumption)] | rw [if_neg (by assumption)]
     exact ⟨_, _, _, rfl, ⟨s9⟩⟩)
  have hp2 : ¬ ((N.p.kind t.at_.elem = 4 ∧ ¬ t.left = 0) ∨ (N.p.kind t.at_.elem = 1 ∧ (t.left < 0 ∨ N.p.length t.at_.elem < t.left))) := by omega
  refine nx_seq (nx_region (nv v_move (nv v_eql (nv v_move ?_))))
  refine nx_guard_dec (t := 78) rfl (fun g78 => ?_) (fun g78 => ?_)
  refine nr v_fieldAddr (nr v_load1_o (nr v_move (nr v_add (nr v_move (nr v_gtr (nv v_pick_t (nv v_assign (nx_nil (nx_then ?_)))))))))
  refine nx_cond_dec rfl (fun c75 => ?_) (fun c75 => ?_)
  have herr : N.startErr len t = 9 := by unfold NetD.startErr; simp only; rw [if_neg hp1, if_neg c44, if_neg hp2, if_pos (by omega)]
  refine nx_seq (nx_region (nv (v_build rfl rfl rfl) (st (k := nv v_assign (nx_nil (nx_then (nx_ret (nx_in_ret (nx_then_ret ?_)))))))))
  first
  | (exfalso; omega)
  | exact nx_ret2 rfl ro (.tmp rfl) (rt ((Gh.le.refl _)) (IsStart.err herr (by decide) _))
  | (refine nx_row (T := tPort) (l := [t.at_]) (b := b89) (by repeat (first | exact Take.here | apply Take.cons | apply Take.app)) (rows_Port [t.at_]) rfl (Nat.le_of_ble_eq_true rfl) (fun G9 le9 s9 => ?_)
     have hst : N.start len t = ⟨if N.p.kind t.at_.elem = 4 then 1 else 2, [t.at_], t.left, 0, 0⟩ := if_pos herr
     refine nx_ret2 rfl ro (.tmp rfl) (rt le9 ?_)
     rw [hst, herr]
     first | rw [if_pos (by assumption)] | rw [if_neg (by assumption)]
     exact ⟨_, _, _, rfl, ⟨s9⟩⟩)
  have herr : N.startErr len t = 0 := by unfold NetD.startErr; simp only; rw [if_neg hp1, if_neg c44, if_neg hp2, if_neg (by omega)]
  refine nx_skip (nx_in _ (nx_then (nx_seq (nx_region (nv v_fieldAddr (nv v_load_o ?_))))))
  refine nx_op rfl (op_buildSlice rfl rfl rfl rfl rfl (fun b89 => ?_))
  refine nv v_fieldAddr (nv v_load1_o (nv (v_build rfl rfl rfl) ?_))
  refine nx_op rfl (op_alloc rfl (fun b10 => ?_))
  refine st (k := nx_nil (nx_then (nx_seq (nx_seq (nx_region (nv v_move (nv v_eql (nx_nil (nx_then ?_)))))))))
  refine nx_cond_dec rfl (fun c94 => ?_) (fun c94 => ?_)
  refine nx_region (nv v_fieldAddr (st (k := nx_nil (nx_then (nx_seq (nx_region (nv v_load_o (st (k := nv v_assign (nx_nil (nx_then ?_)))))))))))
  refine nx_ret ?_
  first
  | (exfalso; omega)
  | exact nx_ret2 rfl ro (.tmp rfl) (rt ((Gh.le.refl _)) (IsStart.err herr (by decide) _))
  | (refine nx_row (T := tPort) (l := [t.at_]) (b := b89) (by repeat (first | exact Take.here | apply Take.cons | apply Take.app)) (rows_Port [t.at_]) rfl (Nat.le_of_ble_eq_true rfl) (fun G9 le9 s9 => ?_)
     have hst : N.start len t = ⟨if N.p.kind t.at_.elem = 4 then 1 else 2, [t.at_], t.left, 0, 0⟩ := if_pos herr
     refine nx_ret2 rfl ro (.tmp rfl) (rt le9 ?_)
     rw [hst, herr]
     first | rw [if_pos (by assumption)] | rw [if_neg (by assumption)]
     exact ⟨_, _, _, rfl, ⟨s9⟩⟩)
  refine nx_skip (nx_then (nx_seq (nx_region (nv v_load_o (st (k := nv v_assign (nx_nil (nx_then (nx_ret ?_)))))))))
  first
  | (exfalso; omega)
  | exact nx_ret2 rfl ro (.tmp rfl) (rt ((Gh.le.refl _)) (IsStart.err herr (by decide) _))
  | (refine nx_row (T := tPort) (l := [t.at_]) (b := b89) (by repeat (first | exact Take.here | apply Take.cons | apply Take.app)) (rows_Port [t.at_]) rfl (Nat.le_of_ble_eq_true rfl) (fun G9 le9 s9 => ?_)
     have hst : N.start len t = ⟨if N.p.kind t.at_.elem = 4 then 1 else 2, [t.at_], t.left, 0, 0⟩ := if_pos herr
     refine nx_ret2 rfl ro (.tmp rfl) (rt le9 ?_)
     rw [hst, herr]
     first | rw [if_pos (by assumption)] | rw [if_neg (by assumption)]
     exact ⟨_, _, _, rfl, ⟨s9⟩⟩)
  refine nk (k := nk (k := nk (k := nk (k := nk (k := nk (k := nv v_pick_f (nv v_assign (nx_nil (nx_then (nx_cond_f rfl ?_))))))))))
  have herr : N.startErr len t = 0 := by unfold NetD.startErr; simp only; rw [if_neg hp1, if_neg c44, if_neg hp2, if_neg (by omega)]
  refine nx_skip (nx_in _ (nx_then (nx_seq (nx_region (nv v_fieldAddr (nv v_load_o ?_))))))
  refine nx_op rfl (op_buildSlice rfl rfl rfl rfl rfl (fun b89 => ?_))
  refine nv v_fieldAddr (nv v_load1_o (nv (v_build rfl rfl rfl) ?_))
  refine nx_op rfl (op_alloc rfl (fun b10 => ?_))
  refine st (k := nx_nil (nx_then (nx_seq (nx_seq (nx_region (nv v_move (nv v_eql (nx_nil (nx_then ?_)))))))))
  refine nx_cond_dec rfl (fun c94 => ?_) (fun c94 => ?_)
  refine nx_region (nv v_fieldAddr (st (k := nx_nil (nx_then (nx_seq (nx_region (nv v_load_o (st (k := nv v_assign (nx_nil (nx_then ?_)))))))))))
  refine nx_ret ?_
  first
  | (exfalso; omega)
  | exact nx_ret2 rfl ro (.tmp rfl) (rt ((Gh.le.refl _)) (IsStart.err herr (by decide) _))
  | (refine nx_row (T := tPort) (l := [t.at_]) (b := b89) (by repeat (first | exact Take.here | apply Take.cons | apply Take.app)) (rows_Port [t.at_]) rfl (Nat.le_of_ble_eq_true rfl) (fun G9 le9 s9 => ?_)
     have hst : N.start len t = ⟨if N.p.kind t.at_.elem = 4 then 1 else 2, [t.at_], t.left, 0, 0⟩ := if_pos herr
     refine nx_ret2 rfl ro (.tmp rfl) (rt le9 ?_)
     rw [hst, herr]
     first | rw [if_pos (by assumption)] | rw [if_neg (by assumption)]
     exact ⟨_, _, _, rfl, ⟨s9⟩⟩)
  refine nx_skip (nx_then (nx_seq (nx_region (nv v_load_o (st (k := nv v_assign (nx_nil (nx_then (nx_ret ?_)))))))))
  first
  | (exfalso; omega)
  | exact nx_ret2 rfl ro (.tmp rfl) (rt ((Gh.le.refl _)) (IsStart.err herr (by decide) _))
  | (refine nx_row (T := tPort) (l := [t.at_]) (b := b89) (by repeat (first | exact Take.here | apply Take.cons | apply Take.app)) (rows_Port [t.at_]) rfl (Nat.le_of_ble_eq_true rfl) (fun G9 le9 s9 => ?_)
     have hst : N.start len t = ⟨if N.p.kind t.at_.elem = 4 then 1 else 2, [t.at_], t.left, 0, 0⟩ := if_pos herr
     refine nx_ret2 rfl ro (.tmp rfl) (rt le9 ?_)
     rw [hst, herr]
     first | rw [if_pos (by assumption)] | rw [if_neg (by assumption)]
     exact ⟨_, _, _, rfl, ⟨s9⟩⟩)
  refine nk (k := nk (k := nk (k := nk (k := nu (k := nu (k := nu (k := nu (k := nk (k := nr v_pick_f (nv v_pick_f (nv v_assign ?_)))))))))))
  refine nx_nil (nx_then (nx_cond_f rfl ?_))
  have hp2 : ¬ ((N.p.kind t.at_.elem = 4 ∧ ¬ t.left = 0) ∨ (N.p.kind t.at_.elem = 1 ∧ (t.left < 0 ∨ N.p.length t.at_.elem < t.left))) := by omega
  refine nx_seq (nx_region (nv v_move (nv v_eql (nv v_move ?_))))
  refine nx_guard_dec (t := 78) rfl (fun g78 => ?_) (fun g78 => ?_)
  refine nr v_fieldAddr (nr v_load1_o (nr v_move (nr v_add (nr v_move (nr v_gtr (nv v_pick_t (nv v_assign (nx_nil (nx_then ?_)))))))))
  refine nx_cond_dec rfl (fun c75 => ?_) (fun c75 => ?_)
  have herr : N.startErr len t = 9 := by unfold NetD.startErr; simp only; rw [if_neg hp1, if_neg c44, if_neg hp2, if_pos (by omega)]
  refine nx_seq (nx_region (nv (v_build rfl rfl rfl) (st (k := nv v_assign (nx_nil (nx_then (nx_ret (nx_in_ret (nx_then_ret ?_)))))))))
  first
  | (exfalso; omega)
  | exact nx_ret2 rfl ro (.tmp rfl) (rt ((Gh.le.refl _)) (IsStart.err herr (by decide) _))
  | (refine nx_row (T := tPort) (l := [t.at_]) (b := b89) (by repeat (first | exact Take.here | apply Take.cons | apply Take.app)) (rows_Port [t.at_]) rfl (Nat.le_of_ble_eq_true rfl) (fun G9 le9 s9 => ?_)
     have hst : N.start len t = ⟨if N.p.kind t.at_.elem = 4 then 1 else 2, [t.at_], t.left, 0, 0⟩ := if_pos herr
     refine nx_ret2 rfl ro (.tmp rfl) (rt le9 ?_)
     rw [hst, herr]
     first | rw [if_pos (by assumption)] | rw [if_neg (by assumption)]
     exact ⟨_, _, _, rfl, ⟨s9⟩⟩)
  have herr : N.startErr len t = 0 := by unfold NetD.startErr; simp only; rw [if_neg hp1, if_neg c44, if_neg hp2, if_neg (by omega)]
  refine nx_skip (nx_in _ (nx_then (nx_seq (nx_region (nv v_fieldAddr (nv v_load_o ?_))))))
  refine nx_op rfl (op_buildSlice rfl rfl rfl rfl rfl (fun b89 => ?_))
  refine nv v_fieldAddr (nv v_load1_o (nv (v_build rfl rfl rfl) ?_))
  refine nx_op rfl (op_alloc rfl (fun b10 => ?_))
  refine st (k := nx_nil (nx_then (nx_seq (nx_seq (nx_region (nv v_move (nv v_eql (nx_nil (nx_then ?_)))))))))
  refine nx_cond_dec rfl (fun c94 => ?_) (fun c94 => ?_)
  refine nx_region (nv v_fieldAddr (st (k := nx_nil (nx_then (nx_seq (nx_region (nv v_load_o (st (k := nv v_assign (nx_nil (nx_then ?_)))))))))))
  refine nx_ret ?_
  first
  | (exfalso; omega)
  | exact nx_ret2 rfl ro (.tmp rfl) (rt ((Gh.le.refl _)) (IsStart.err herr (by decide) _))
  | (refine nx_row (T := tPort) (l := [t.at_]) (b := b89) (by repeat (first | exact Take.here | apply Take.cons | apply Take.app)) (rows_Port [t.at_]) rfl (Nat.le_of_ble_eq_true rfl) (fun G9 le9 s9 => ?_)
     have hst : N.start len t = ⟨if N.p.kind t.at_.elem = 4 then 1 else 2, [t.at_], t.left, 0, 0⟩ := if_pos herr
     refine nx_ret2 rfl ro (.tmp rfl) (rt le9 ?_)
     rw [hst, herr]
     first | rw [if_pos (by assumption)] | rw [if_neg (by assumption)]
     exact ⟨_, _, _, rfl, ⟨s9⟩⟩)
  refine nx_skip (nx_then (nx_seq (nx_region (nv v_load_o (st (k := nv v_assign (nx_nil (nx_then (nx_ret ?_)))))))))
  first
  | (exfalso; omega)
  | exact nx_ret2 rfl ro (.tmp rfl) (rt ((Gh.le.refl _)) (IsStart.err herr (by decide) _))
  | (refine nx_row (T := tPort) (l := [t.at_]) (b := b89) (by repeat (first | exact Take.here | apply Take.cons | apply Take.app)) (rows_Port [t.at_]) rfl (Nat.le_of_ble_eq_true rfl) (fun G9 le9 s9 => ?_)
     have hst : N.start len t = ⟨if N.p.kind t.at_.elem = 4 then 1 else 2, [t.at_], t.left, 0, 0⟩ := if_pos herr
     refine nx_ret2 rfl ro (.tmp rfl) (rt le9 ?_)
     rw [hst, herr]
     first | rw [if_pos (by assumption)] | rw [if_neg (by assumption)]
     exact ⟨_, _, _, rfl, ⟨s9⟩⟩)
  refine nk (k := nk (k := nk (k := nk (k := nk (k := nk (k := nv v_pick_f (nv v_assign (nx_nil (nx_then (nx_cond_f rfl ?_))))))))))
  have herr : N.startErr len t = 0 := by unfold NetD.startErr; simp only; rw [if_neg hp1, if_neg c44, if_neg hp2, if_neg (by omega)]
  refine nx_skip (nx_in _ (nx_then (nx_seq (nx_region (nv v_fieldAddr (nv v_load_o ?_))))))
  refine nx_op rfl (op_buildSlice rfl rfl rfl rfl rfl (fun b89 => ?_))
  refine nv v_fieldAddr (nv v_load1_o (nv (v_build rfl rfl rfl) ?_))
  refine nx_op rfl (op_alloc rfl (fun b10 => ?_))
  refine st (k := nx_nil (nx_then (nx_seq (nx_seq (nx_region (nv v_move (nv v_eql (nx_nil (nx_then ?_)))))))))
  refine nx_cond_dec rfl (fun c94 => ?_) (fun c94 => ?_)
  refine nx_region (nv v_fieldAddr (st (k := nx_nil (nx_then (nx_seq (nx_region (nv v_load_o (st (k := nv v_assign (nx_nil (nx_then ?_)))))))))))
  refine nx_ret ?_
  first
  | (exfalso; omega)
  | exact nx_ret2 rfl ro (.tmp rfl) (rt ((Gh.le.refl _)) (IsStart.err herr (by decide) _))
  | (refine nx_row (T := tPort) (l := [t.at_]) (b := b89) (by repeat (first | exact Take.here | apply Take.cons | apply Take.app)) (rows_Port [t.at_]) rfl (Nat.le_of_ble_eq_true rfl) (fun G9 le9 s9 => ?_)
     have hst : N.start len t = ⟨if N.p.kind t.at_.elem = 4 then 1 else 2, [t.at_], t.left, 0, 0⟩ := if_pos herr
     refine nx_ret2 rfl ro (.tmp rfl) (rt le9 ?_)
     rw [hst, herr]
     rw [if_pos (by assumption)]
     exact ⟨_, _, _, rfl, ⟨s9⟩⟩)
  refine nx_skip (nx_then (nx_seq (nx_region (nv v_load_o (st (k := nv v_assign (nx_nil (nx_then (nx_ret ?_)))))))))
  first
  | (exfalso; omega)
  | exact nx_ret2 rfl ro (.tmp rfl) (rt ((Gh.le.refl _)) (IsStart.err herr (by decide) _))
  | (refine nx_row (T := tPort) (l := [t.at_]) (b := b89) (by repeat (first | exact Take.here | apply Take.cons | apply Take.app)) (rows_Port [t.at_]) rfl (Nat.le_of_ble_eq_true rfl) (fun G9 le9 s9 => ?_)
     have hst : N.start len t = ⟨if N.p.kind t.at_.elem = 4 then 1 else 2, [t.at_], t.left, 0, 0⟩ := if_pos herr
     refine nx_ret2 rfl ro (.tmp rfl) (rt le9 ?_)
     rw [hst, herr]
     first | rw [if_pos (by assumption)] | rw [if_neg (by assumption)]
     exact ⟨_, _, _, rfl, ⟨s9⟩⟩)
  refine nk (k := nk (k := nk (k := nv v_pick_f (nv v_move (nr v_move (nr v_eql (nr v_move ?_)))))))
  refine nx_guard_dec (t := 62) rfl (fun g62 => ?_) (fun g62 => ?_)
  refine nr v_fieldAddr (nr v_load1_o (nr v_lss (nr v_move ?_)))
  refine nx_guard_dec (t := 66) rfl (fun g66 => ?_) (fun g66 => ?_)
  refine nk (k := nk (k := nk (k := nk (k := nr v_pick_t (nr v_pick_t (nv v_pick_f (nv v_assign (nx_nil (nx_then (nx_cond_t rfl ?_))))))))))
  have herr : N.startErr len t = 1 := by unfold NetD.startErr; simp only; rw [if_neg hp1, if_neg c44, if_pos (by omega)]
  refine nx_seq (nx_region (nv (v_build rfl rfl rfl) (st (k := nv v_assign (nx_nil (nx_then (nx_ret (nx_in_ret (nx_then_ret ?_)))))))))
  first
  | (exfalso; omega)
  | exact nx_ret2 rfl ro (.tmp rfl) (rt ((Gh.le.refl _)) (IsStart.err herr (by decide) _))
  | (refine nx_row (T := tPort) (l := [t.at_]) (b := b89) (by repeat (first | exact Take.here | apply Take.cons | apply Take.app)) (rows_Port [t.at_]) rfl (Nat.le_of_ble_eq_true rfl) (fun G9 le9 s9 => ?_)
     have hst : N.start len t = ⟨if N.p.kind t.at_.elem = 4 then 1 else 2, [t.at_], t.left, 0, 0⟩ := if_pos herr
     refine nx_ret2 rfl ro (.tmp rfl) (rt le9 ?_)
     rw [hst, herr]
     first | rw [if_pos (by assumption)] | rw [if_neg (by assumption)]
     exact ⟨_, _, _, rfl, ⟨s9⟩⟩)
  refine nr v_fieldAddr (nr v_load1_o (nr v_move (nr v_gtr (nr v_pick_f (nr v_pick_t (nv v_pick_f (nv v_assign (nx_nil (nx_then ?_)))))))))
  refine nx_cond_dec rfl (fun c51 => ?_) (fun c51 => ?_)
  have herr : N.startErr len t = 1 := by unfold NetD.startErr; simp only; rw [if_neg hp1, if_neg c44, if_pos (by omega)]
  refine nx_seq (nx_region (nv (v_build rfl rfl rfl) (st (k := nv v_assign (nx_nil (nx_then (nx_ret (nx_in_ret (nx_then_ret ?_)))))))))
  first
  | (exfalso; omega)
  | exact nx_ret2 rfl ro (.tmp rfl) (rt ((Gh.le.refl _)) (IsStart.err herr (by decide) _))
  | (refine nx_row (T := tPort) (l := [t.at_]) (b := b89) (by repeat (first | exact Take.here | apply Take.cons | apply Take.app)) (rows_Port [t.at_]) rfl (Nat.le_of_ble_eq_true rfl) (fun G9 le9 s9 => ?_)
     have hst : N.start len t = ⟨if N.p.kind t.at_.elem = 4 then 1 else 2, [t.at_], t.left, 0, 0⟩ := if_pos herr
     refine nx_ret2 rfl ro (.tmp rfl) (rt le9 ?_)
     rw [hst, herr]
     first | rw [if_pos (by assumption)] | rw [if_neg (by assumption)]
     exact ⟨_, _, _, rfl, ⟨s9⟩⟩)
  have hp2 : ¬ ((N.p.kind t.at_.elem = 4 ∧ ¬ t.left = 0) ∨ (N.p.kind t.at_.elem = 1 ∧ (t.left < 0 ∨ N.p.length t.at_.elem < t.left))) := by omega
  refine nx_seq (nx_region (nv v_move (nv v_eql (nv v_move ?_))))
  refine nx_guard_dec (t := 78) rfl (fun g78 => ?_) (fun g78 => ?_)
  refine nr v_fieldAddr (nr v_load1_o (nr v_move (nr v_add (nr v_move (nr v_gtr (nv v_pick_t (nv v_assign (nx_nil (nx_then ?_)))))))))
  refine nx_cond_dec rfl (fun c75 => ?_) (fun c75 => ?_)
  have herr : N.startErr len t = 9 := by unfold NetD.startErr; simp only; rw [if_neg hp1, if_neg c44, if_neg hp2, if_pos (by omega)]
  refine nx_seq (nx_region (nv (v_build rfl rfl rfl) (st (k := nv v_assign (nx_nil (nx_then (nx_ret (nx_in_ret (nx_then_ret ?_)))))))))
  first
  | (exfalso; omega)
  | exact nx_ret2 rfl ro (.tmp rfl) (rt ((Gh.le.refl _)) (IsStart.err herr (by decide) _))
  | (refine nx_row (T := tPort) (l := [t.at_]) (b := b89) (by repeat (first | exact Take.here | apply Take.cons | apply Take.app)) (rows_Port [t.at_]) rfl (Nat.le_of_ble_eq_true rfl) (fun G9 le9 s9 => ?_)
     have hst : N.start len t = ⟨if N.p.kind t.at_.elem = 4 then 1 else 2, [t.at_], t.left, 0, 0⟩ := if_pos herr
     refine nx_ret2 rfl ro (.tmp rfl) (rt le9 ?_)
     rw [hst, herr]
     first | rw [if_pos (by assumption)] | rw [if_neg (by assumption)]
     exact ⟨_, _, _, rfl, ⟨s9⟩⟩)
  have herr : N.startErr len t = 0 := by unfold NetD.startErr; simp only; rw [if_neg hp1, if_neg c44, if_neg hp2, if_neg (by omega)]
  refine nx_skip (nx_in _ (nx_then (nx_seq (nx_region (nv v_fieldAddr (nv v_load_o ?_))))))
  refine nx_op rfl (op_buildSlice rfl rfl rfl rfl rfl (fun b89 => ?_))
  refine nv v_fieldAddr (nv v_load1_o (nv (v_build rfl rfl rfl) ?_))
  refine nx_op rfl (op_alloc rfl (fun b10 => ?_))
  refine st (k := nx_nil (nx_then (nx_seq (nx_seq (nx_region (nv v_move (nv v_eql (nx_nil (nx_then ?_)))))))))
  refine nx_cond_dec rfl (fun c94 => ?_) (fun c94 => ?_)
  refine nx_region (nv v_fieldAddr (st (k := nx_nil (nx_then (nx_seq (nx_region (nv v_load_o (st (k := nv v_assign (nx_nil (nx_then ?_)))))))))))
  refine nx_ret ?_
  first
  | (exfalso; omega)
  | exact nx_ret2 rfl ro (.tmp rfl) (rt ((Gh.le.refl _)) (IsStart.err herr (by decide) _))
  | (refine nx_row (T := tPort) (l := [t.at_]) (b := b89) (by repeat (first | exact Take.here | apply Take.cons | apply Take.app)) (rows_Port [t.at_]) rfl (Nat.le_of_ble_eq_true rfl) (fun G9 le9 s9 => ?_)
     have hst : N.start len t = ⟨if N.p.kind t.at_.elem = 4 then 1 else 2, [t.at_], t.left, 0, 0⟩ := if_pos herr
     refine nx_ret2 rfl ro (.tmp rfl) (rt le9 ?_)
     rw [hst, herr]
     first | rw [if_pos (by assumption)] | rw [if_neg (by assumption)]
     exact ⟨_, _, _, rfl, ⟨s9⟩⟩)
  refine nx_skip (nx_then (nx_seq (nx_region (nv v_load_o (st (k := nv v_assign (nx_nil (nx_then (nx_ret ?_)))))))))
  first
  | (exfalso; omega)
  | exact nx_ret2 rfl ro (.tmp rfl) (rt ((Gh.le.refl _)) (IsStart.err herr (by decide) _))
  | (refine nx_row (T := tPort) (l := [t.at_]) (b := b89) (by repeat (first | exact Take.here | apply Take.cons | apply Take.app)) (rows_Port [t.at_]) rfl (Nat.le_of_ble_eq_true rfl) (fun G9 le9 s9 => ?_)
     have hst : N.start len t = ⟨if N.p.kind t.at_.elem = 4 then 1 else 2, [t.at_], t.left, 0, 0⟩ := if_pos herr
     refine nx_ret2 rfl ro (.tmp rfl) (rt le9 ?_)
     rw [hst, herr]
     first | rw [if_pos (by assumption)] | rw [if_neg (by assumption)]
     exact ⟨_, _, _, rfl, ⟨s9⟩⟩)
  refine nk (k := nk (k := nk (k := nk (k := nk (k := nk (k := nv v_pick_f (nv v_assign (nx_nil (nx_then (nx_cond_f rfl ?_))))))))))
  have herr : N.startErr len t = 0 := by unfold NetD.startErr; simp only; rw [if_neg hp1, if_neg c44, if_neg hp2, if_neg (by omega)]
  refine nx_skip (nx_in _ (nx_then (nx_seq (nx_region (nv v_fieldAddr (nv v_load_o ?_))))))
  refine nx_op rfl (op_buildSlice rfl rfl rfl rfl rfl (fun b89 => ?_))
  refine nv v_fieldAddr (nv v_load1_o (nv (v_build rfl rfl rfl) ?_))
  refine nx_op rfl (op_alloc rfl (fun b10 => ?_))
  refine st (k := nx_nil (nx_then (nx_seq (nx_seq (nx_region (nv v_move (nv v_eql (nx_nil (nx_then ?_)))))))))
  refine nx_cond_dec rfl (fun c94 => ?_) (fun c94 => ?_)
  refine nx_region (nv v_fieldAddr (st (k := nx_nil (nx_then (nx_seq (nx_region (nv v_load_o (st (k := nv v_assign (nx_nil (nx_then ?_)))))))))))
  refine nx_ret ?_
  first
  | (exfalso; omega)
  | exact nx_ret2 rfl ro (.tmp rfl) (rt ((Gh.le.refl _)) (IsStart.err herr (by decide) _))
  | (refine nx_row (T := tPort) (l := [t.at_]) (b := b89) (by repeat (first | exact Take.here | apply Take.cons | apply Take.app)) (rows_Port [t.at_]) rfl (Nat.le_of_ble_eq_true rfl) (fun G9 le9 s9 => ?_)
     have hst : N.start len t = ⟨if N.p.kind t.at_.elem = 4 then 1 else 2, [t.at_], t.left, 0, 0⟩ := if_pos herr
     refine nx_ret2 rfl ro (.tmp rfl) (rt le9 ?_)
     rw [hst, herr]
     first | rw [if_pos (by assumption)] | rw [if_neg (by assumption)]
     exact ⟨_, _, _, rfl, ⟨s9⟩⟩)
  refine nx_skip (nx_then (nx_seq (nx_region (nv v_load_o (st (k := nv v_assign (nx_nil (nx_then (nx_ret ?_)))))))))
  first
  | (exfalso; omega)
  | exact nx_ret2 rfl ro (.tmp rfl) (rt ((Gh.le.refl _)) (IsStart.err herr (by decide) _))
  | (refine nx_row (T := tPort) (l := [t.at_]) (b := b89) (by repeat (first | exact Take.here | apply Take.cons | apply Take.app)) (rows_Port [t.at_]) rfl (Nat.le_of_ble_eq_true rfl) (fun G9 le9 s9 => ?_)
     have hst : N.start len t = ⟨if N.p.kind t.at_.elem = 4 then 1 else 2, [t.at_], t.left, 0, 0⟩ := if_pos herr
     refine nx_ret2 rfl ro (.tmp rfl) (rt le9 ?_)
     rw [hst, herr]
     first | rw [if_pos (by assumption)] | rw [if_neg (by assumption)]
     exact ⟨_, _, _, rfl, ⟨s9⟩⟩)
  refine nk (k := nk (k := nk (k := nk (k := nu (k := nu (k := nu (k := nu (k := nk (k := nr v_pick_f (nv v_pick_f (nv v_assign ?_)))))))))))
  refine nx_nil (nx_then (nx_cond_f rfl ?_))
  have hp2 : ¬ ((N.p.kind t.at_.elem = 4 ∧ ¬ t.left = 0) ∨ (N.p.kind t.at_.elem = 1 ∧ (t.left < 0 ∨ N.p.length t.at_.elem < t.left))) := by omega
  refine nx_seq (nx_region (nv v_move (nv v_eql (nv v_move ?_))))
  refine nx_guard_dec (t := 78) rfl (fun g78 => ?_) (fun g78 => ?_)
  refine nr v_fieldAddr (nr v_load1_o (nr v_move (nr v_add (nr v_move (nr v_gtr (nv v_pick_t (nv v_assign (nx_nil (nx_then ?_)))))))))
  refine nx_cond_dec rfl (fun c75 => ?_) (fun c75 => ?_)
  have herr : N.startErr len t = 9 := by unfold NetD.startErr; simp only; rw [if_neg hp1, if_neg c44, if_neg hp2, if_pos (by omega)]
  refine nx_seq (nx_region (nv (v_build rfl rfl rfl) (st (k := nv v_assign (nx_nil (nx_then (nx_ret (nx_in_ret (nx_then_ret ?_)))))))))
  first
  | (exfalso; omega)
  | exact nx_ret2 rfl ro (.tmp rfl) (rt ((Gh.le.refl _)) (IsStart.err herr (by decide) _))
  | (refine nx_row (T := tPort) (l := [t.at_]) (b := b89) (by repeat (first | exact Take.here | apply Take.cons | apply Take.app)) (rows_Port [t.at_]) rfl (Nat.le_of_ble_eq_true rfl) (fun G9 le9 s9 => ?_)
     have hst : N.start len t = ⟨if N.p.kind t.at_.elem = 4 then 1 else 2, [t.at_], t.left, 0, 0⟩ := if_pos herr
     refine nx_ret2 rfl ro (.tmp rfl) (rt le9 ?_)
     rw [hst, herr]
     first | rw [if_pos (by assumption)] | rw [if_neg (by assumption)]
     exact ⟨_, _, _, rfl, ⟨s9⟩⟩)
  have herr : N.startErr len t = 0 := by unfold NetD.startErr; simp only; rw [if_neg hp1, if_neg c44, if_neg hp2, if_neg (by omega)]
  refine nx_skip (nx_in _ (nx_then (nx_seq (nx_region (nv v_fieldAddr (nv v_load_o ?_))))))
  refine nx_op rfl (op_buildSlice rfl rfl rfl rfl rfl (fun b89 => ?_))
  refine nv v_fieldAddr (nv v_load1_o (nv (v_build rfl rfl rfl) ?_))
  refine nx_op rfl (op_alloc rfl (fun b10 => ?_))
  refine st (k := nx_nil (nx_then (nx_seq (nx_seq (nx_region (nv v_move (nv v_eql (nx_nil (nx_then ?_)))))))))
  refine nx_cond_dec rfl (fun c94 => ?_) (fun c94 => ?_)
  refine nx_region (nv v_fieldAddr (st (k := nx_nil (nx_then (nx_seq (nx_region (nv v_load_o (st (k := nv v_assign (nx_nil (nx_then ?_)))))))))))
  refine nx_ret ?_
  first
  | (exfalso; omega)
  | exact nx_ret2 rfl ro (.tmp rfl) (rt ((Gh.le.refl _)) (IsStart.err herr (by decide) _))
  | (refine nx_row (T := tPort) (l := [t.at_]) (b := b89) (by repeat (first | exact Take.here | apply Take.cons | apply Take.app)) (rows_Port [t.at_]) rfl (Nat.le_of_ble_eq_true rfl) (fun G9 le9 s9 => ?_)
     have hst : N.start len t = ⟨if N.p.kind t.at_.elem = 4 then 1 else 2, [t.at_], t.left, 0, 0⟩ := if_pos herr
     refine nx_ret2 rfl ro (.tmp rfl) (rt le9 ?_)
     rw [hst, herr]
     first | rw [if_pos (by assumption)] | rw [if_neg (by assumption)]
     exact ⟨_, _, _, rfl, ⟨s9⟩⟩)
  refine nx_skip (nx_then (nx_seq (nx_region (nv v_load_o (st (k := nv v_assign (nx_nil (nx_then (nx_ret ?_)))))))))
  first
  | (exfalso; omega)
  | exact nx_ret2 rfl ro (.tmp rfl) (rt ((Gh.le.refl _)) (IsStart.err herr (by decide) _))
  | (refine nx_row (T := tPort) (l := [t.at_]) (b := b89) (by repeat (first | exact Take.here | apply Take.cons | apply Take.app)) (rows_Port [t.at_]) rfl (Nat.le_of_ble_eq_true rfl) (fun G9 le9 s9 => ?_)
     have hst : N.start len t = ⟨if N.p.kind t.at_.elem = 4 then 1 else 2, [t.at_], t.left, 0, 0⟩ := if_pos herr
     refine nx_ret2 rfl ro (.tmp rfl) (rt le9 ?_)
     rw [hst, herr]
     first | rw [if_pos (by assumption)] | rw [if_neg (by assumption)]
     exact ⟨_, _, _, rfl, ⟨s9⟩⟩)
  refine nk (k := nk (k := nk (k := nk (k := nk (k := nk (k := nv v_pick_f (nv v_assign (nx_nil (nx_then (nx_cond_f rfl ?_))))))))))
  have herr : N.startErr len t = 0 := by unfold NetD.startErr; simp only; rw [if_neg hp1, if_neg c44, if_neg hp2, if_neg (by omega)]
  refine nx_skip (nx_in _ (nx_then (nx_seq (nx_region (nv v_fieldAddr (nv v_load_o ?_))))))
  refine nx_op rfl (op_buildSlice rfl rfl rfl rfl rfl (fun b89 => ?_))
  refine nv v_fieldAddr (nv v_load1_o (nv (v_build rfl rfl rfl) ?_))
  refine nx_op rfl (op_alloc rfl (fun b10 => ?_))
  refine st (k := nx_nil (nx_then (nx_seq (nx_seq (nx_region (nv v_move (nv v_eql (nx_nil (nx_then ?_)))))))))
  refine nx_cond_dec rfl (fun c94 => ?_) (fun c94 => ?_)
  refine nx_region (nv v_fieldAddr (st (k := nx_nil (nx_then (nx_seq (nx_region (nv v_load_o (st (k := nv v_assign (nx_nil (nx_then ?_)))))))))))
  refine nx_ret ?_
  first
  | (exfalso; omega)
  | exact nx_ret2 rfl ro (.tmp rfl) (rt ((Gh.le.refl _)) (IsStart.err herr (by decide) _))
  | (refine nx_row (T := tPort) (l := [t.at_]) (b := b89) (by repeat (first | exact Take.here | apply Take.cons | apply Take.app)) (rows_Port [t.at_]) rfl (Nat.le_of_ble_eq_true rfl) (fun G9 le9 s9 => ?_)
     have hst : N.start len t = ⟨if N.p.kind t.at_.elem = 4 then 1 else 2, [t.at_], t.left, 0, 0⟩ := if_pos herr
     refine nx_ret2 rfl ro (.tmp rfl) (rt le9 ?_)
     rw [hst, herr]
     first | rw [if_pos (by assumption)] | rw [if_neg (by assumption)]
     exact ⟨_, _, _, rfl, ⟨s9⟩⟩)
  refine nx_skip (nx_then (nx_seq (nx_region (nv v_load_o (st (k := nv v_assign (nx_nil (nx_then (nx_ret ?_)))))))))
  first
  | (exfalso; omega)
  | exact nx_ret2 rfl ro (.tmp rfl) (rt ((Gh.le.refl _)) (IsStart.err herr (by decide) _))
  | (refine nx_row (T := tPort) (l := [t.at_]) (b := b89) (by repeat (first | exact Take.here | apply Take.cons | apply Take.app)) (rows_Port [t.at_]) rfl (Nat.le_of_ble_eq_true rfl) (fun G9 le9 s9 => ?_)
     have hst : N.start len t = ⟨if N.p.kind t.at_.elem = 4 then 1 else 2, [t.at_], t.left, 0, 0⟩ := if_pos herr
     refine nx_ret2 rfl ro (.tmp rfl) (rt le9 ?_)
     rw [hst, herr]
     first | rw [if_pos (by assumption)] | rw [if_neg (by assumption)]
     exact ⟨_, _, _, rfl, ⟨s9⟩⟩)
end Go.Proofs.YtjckojnlapchoaaGreat
open Go Go.RowKit
namespace Go.Proofs.YtjckojnlapchoaaGreat
open Go.Proofs
def passes (a : Int) : Bool := decide (a = 1) || decide (a = 2)
set_option maxRecDepth 20000 in
set_option maxHeartbeats 1000000 in
theorem passes_ok {G : Gh} {H : List (Nat × Obj)} {W : World} (hp : Hp G H W) (a : Int) : Calls Tryz.prog 168 ⟨[.int .i64 a]⟩ W (RetS G H (.bool (passes a))) := by
  refine enter Tryz.func168 rfl Tryz.ntmps168 (Nat.le_of_ble_eq_true rfl) hp (nx_seq (nx_region (nv v_assign (nx_nil (nx_then (nx_seq (nx_region (nv v_move (nv v_eql (nv v_move ?_))))))))))
  refine nx_guard_dec (t := 5) rfl (fun g5 => ?_) (fun g5 => ?_)
  refine nk (k := nk (k := nv v_pick_t (nv v_assign (nx_nil (nx_then (nx_ret ?_))))))
  exact nx_ret1 rfl (.tmp rfl) (rs (by simp [passes, *]))
  refine nr v_move (nr v_eql (nv v_pick_f (nv v_assign (nx_nil (nx_then (nx_ret ?_))))))
  exact nx_ret1 rfl (.tmp rfl) (rs (by simp [passes, *]))
def Body.gateAt (b : Body) : Int := (b.head.getD ⟨0, 0⟩).elem
def Body.waiting (b : Body) : Bool := b.head.isSome && decide (b.mode = 1)
set_option maxRecDepth 20000 in
set_option maxHeartbeats 1000000 in
theorem lgate_ok {G : Gh} {H : List (Nat × Obj)} {W : World} (hp : Hp G H W) {A1 : Option Addr} {n1 c1 : Nat} {b : Body} (bt : Body.At G A1 n1 c1 b) : Calls Tryz.prog 94 ⟨[.agg ⟨[.int .i64 b.mode, .slice A1 n1 c1, .int .i64 b.left, .int .i64 b.over, .int .i64 b.v]⟩]⟩ W (RetS G H (.tuple #[.int .i64 b.gateAt, .bool b.waiting])) := by
  refine enter Tryz.func94 rfl Tryz.ntmps94 (Nat.le_of_ble_eq_true rfl) hp (nx_seq (nx_region ?_))
  refine nx_op rfl (op_box rfl rfl (fun b1 => ?_))
  refine nv v_assign (nv v_assign (nx_nil (nx_then (nx_seq (nx_region (nv v_load_o ?_))))))
  refine nx_op rfl (op_callS rfl rfl rfl (fun W hp => head_ok hp bt) ?_)
  refine nv v_move (nv (v_extract rfl rfl rfl) (nv (v_extract rfl rfl rfl) ?_))
  refine nx_op rfl (op_alloc rfl (fun b4 => ?_))
  refine st (k := nv v_assign (nx_nil (nx_then (nx_seq (dr_begin 10 (.q 0 (.q 1 (.q 2 (.q 3 (.q 4 (.q 5 (.q 6 (.q 7 (.q 8 (.q 9 .done)))))))))) rfl (by kernel_rfl) (dr_q rfl rfl v_fieldAddr ic (dr_q rfl rfl v_load1_o ic (dr_q rfl rfl v_move ic (dr_q rfl rfl v_move ic ?_)))))))))
  refine nx_guard (t := 14) rfl (fun g14 => ?_) (fun g14 => ?_)
  refine dr_q_run rfl rfl rfl rfl v_fieldAddr ic (dr_q_run rfl rfl rfl rfl v_load1_o ic (dr_q_run rfl rfl rfl rfl v_eql ic (dr_q rfl rfl v_pick_t ic (dr_q rfl rfl v_assign ic (dr_q rfl rfl v_assign ic (dr_end rfl ?_))))))
  refine nx_nil (nx_np ?_)
  refine nx_then (nx_ret ?_)
  exact nx_ret2 rfl (.tmp rfl) (.tmp rfl) (rs (by simp [Body.gateAt, Body.waiting, *]))
  refine dk (k := dk (k := dk (k := dr_q rfl rfl v_pick_f ic (dr_q rfl rfl v_assign ic (dr_q rfl rfl v_assign ic (dr_end rfl ?_))))))
  refine nx_nil (nx_np ?_)
  refine nx_then (nx_ret ?_)
  exact nx_ret2 rfl (.tmp rfl) (.tmp rfl) (rs (by simp [Body.gateAt, Body.waiting, *]))
def shut (lamps : List Int) (s : Int) : Bool := decide (s < 0) || decide ((lamps.length : Int) ≤ s) || !passes ((lamps[s.toNat]?).getD 0)
set_option maxRecDepth 20000 in
set_option maxHeartbeats 1000000 in
theorem shut_ok {G : Gh} {H : List (Nat × Obj)} {W : World} (hp : Hp G H W) {A : Option Addr} {n c : Nat} {l : List Int} (hs : Sl tInt G A n c l) (s : Int) : Calls Tryz.prog 113 ⟨[.slice A n c, .int .i64 s]⟩ W (RetS G H (.bool (shut l s))) := by
  have hl := hs.length
  refine enter Tryz.func113 rfl Tryz.ntmps113 (Nat.le_of_ble_eq_true rfl) hp (nx_seq (nx_region (nv v_assign (nx_nil (nx_then (nx_seq (nx_region (nv v_move (nv v_lss (nv v_move ?_))))))))))
  refine nx_guard_dec (t := 7) rfl (fun g7 => ?_) (fun g7 => ?_)
  refine nk (k := nk (k := nk (k := nk (k := nv v_pick_t (nv v_move (nk (k := nk (k := nk (k := nk (k := nk (k := nk (k := ?_))))))))))))
  refine nv v_pick_t (nv v_assign (nx_nil (nx_then (nx_ret ?_))))
  exact nx_ret1 rfl (.tmp rfl) (rs (by (simp [shut, *]; done)))
  refine nr v_move (nr v_move (nr v_len (nr v_geq (nv v_pick_f (nv v_move ?_)))))
  refine nx_guard_dec (t := 13) rfl (fun g13 => ?_) (fun g13 => ?_)
  refine nk (k := nk (k := nk (k := nk (k := nk (k := nk (k := nv v_pick_t (nv v_assign (nx_nil (nx_then (nx_ret ?_))))))))))
  exact nx_ret1 rfl (.tmp rfl) (rs (by (simp [shut, *]; done)))
  obtain ⟨q, hq⟩ : ∃ q : Nat, s = q := ⟨s.toNat, by omega⟩
  obtain ⟨x, hx⟩ : ∃ x, l[q]? = some x := ⟨_, List.getElem?_eq_getElem (by omega)⟩
  obtain ⟨xb, xo, xe, xk, xf0⟩ := get_Int hs hx
  cases xe
  have hval : (l[s.toNat]?).getD 0 = x := by rw [hq, Int.toNat_natCast, hx]; rfl
  refine nr v_move (nr v_move ?_)
  refine nr (v_indexAddr_nat (k := q) rfl rfl (by rw [← hq]; rfl) (by omega)) ?_
  refine nr v_load1_s ?_
  refine nx_op_run rfl rfl rfl (op_callS rfl rfl rfl (fun W hp => passes_ok hp x) ?_)
  refine nr v_not (nv v_pick_f (nv v_assign (nx_nil (nx_then (nx_ret ?_)))))
  exact nx_ret1 rfl (.tmp rfl) (rs (by (unfold shut; rw [hval, decide_eq_false g7, hl, decide_eq_false g13]; rfl)))
set_option maxRecDepth 20000 in
set_option maxHeartbeats 1000000 in
theorem planOf_ok {G : Gh} {H : List (Nat × Obj)} {W : World} (hp : Hp G H W) {g : Nat} {N : NetD} (h : NetAt G g N) (hsm : N.p.Small) : Calls Tryz.prog 88 ⟨[.pointer (some ⟨g, 0, none⟩)]⟩ W (RetD G H (IsPlan N.p)) := by
  obtain ⟨A1, n1, c1, A2, n2, c2, A3, n3, c3, A4, n4, c4, m1, m2, m3, m4, nh⟩ := h
  obtain ⟨k0, k1, k2, k3, k4, k5, k6, k7, k8, k9, k10, k11, k12, planh, nexth, readsh, lineh, leadh⟩ := nh
  refine enter Tryz.func88 rfl Tryz.ntmps88 (Nat.le_of_ble_eq_true rfl) hp (nx_seq (nx_region ?_))
  refine nx_op rfl (op_alloc rfl (fun b2 => ?_))
  refine nx_nil (nx_then (nx_seq (nx_region (nv v_move (nv v_nilCheck (nv v_fieldAddr (nv v_load_s ?_)))))))
  refine nx_op rfl (op_callD rfl rfl rfl (fun W hp => twin_ok hp planh hsm) (fun v7 G7 le7 ph7 => ?_))
  obtain ⟨B1, u1, w1, B2, u2, w2, B3, u3, w3, B4, u4, w4, rfl, bt⟩ := ph7
  refine st (k := nx_nil (nx_then (nx_ret ?_)))
  exact nx_ret1 rfl ro (rt (le7) ⟨_, _, _, _, _, _, _, _, _, _, _, _, rfl, bt⟩)
def NetD.inLoop (N : NetD) (x : Port) (left : Int) : Bool := decide (0 ≤ N.readsAt x) && decide (0 ≤ left) && decide (left ≤ N.p.margin)
set_option maxRecDepth 20000 in
set_option maxHeartbeats 1000000 in
theorem inLoop_ok {G : Gh} {H : List (Nat × Obj)} {W : World} (hp : Hp G H W) {g : Nat} {N : NetD} (h : NetAt G g N) (hsm : N.p.Small) (x : Port) (left : Int) : Calls Tryz.prog 169 ⟨[.pointer (some ⟨g, 0, none⟩), .agg ⟨x.cells⟩, .int .i64 left]⟩ W (RetD G H (fun _ v => v = .bool (N.inLoop x left))) := by
  refine enter Tryz.func169 rfl Tryz.ntmps169 (Nat.le_of_ble_eq_true rfl) hp (nx_seq (nx_region ?_))
  refine nx_op rfl (op_box rfl rfl (fun b4 => ?_))
  refine nv v_assign (nx_nil (nx_then (nx_seq (nx_region (nv v_move (nv v_load_o ?_))))))
  refine nx_op rfl (op_callS rfl rfl rfl (fun W hp => reads_ok hp h x) ?_)
  refine nv v_geq (nv v_move ?_)
  refine nx_guard_dec (t := 11) rfl (fun g11 => ?_) (fun g11 => ?_)
  refine nr v_move (nr v_geq (nv v_pick_t (nv v_move ?_)))
  refine nx_guard_dec (t := 15) rfl (fun g15 => ?_) (fun g15 => ?_)
  refine nr v_move (nr v_move ?_)
  refine nx_op_run rfl rfl rfl (op_callD rfl rfl rfl (fun W hp => planOf_ok hp h hsm) (fun v18 G18 le18 ph18 => ?_))
  obtain ⟨B1, u1, w1, B2, u2, w2, B3, u3, w3, B4, u4, w4, rfl, bt⟩ := ph18
  refine nr (v_field1 rfl rfl rfl) (nr v_leq (nv v_pick_t (nv v_assign (nx_nil (nx_then (nx_ret ?_))))))
  exact nx_ret1 rfl (.tmp rfl) (rt (le18) (by simp [NetD.inLoop, *]))
  refine nk (k := nk (k := nk (k := nk (k := nk (k := nv v_pick_f (nv v_assign (nx_nil (nx_then (nx_ret ?_)))))))))
  exact nx_ret1 rfl (.tmp rfl) (rt ((Gh.le.refl _)) (by simp [NetD.inLoop, *]))
  refine nk (k := nk (k := nv v_pick_f (nv v_move (nk (k := nk (k := nk (k := nk (k := nk (k := nv v_pick_f (nv v_assign (nx_nil ?_)))))))))))
  refine nx_then (nx_ret ?_)
  exact nx_ret1 rfl (.tmp rfl) (rt ((Gh.le.refl _)) (by simp [NetD.inLoop, *]))
def NetD.inside (N : NetD) (b : Body) : Int := if b.head.isSome && decide (b.mode = 2) && decide (b.over = 0) && N.inLoop (b.head.getD ⟨0, 0⟩) b.left then N.readsAt (b.head.getD ⟨0, 0⟩) else -1
set_option maxRecDepth 20000 in
set_option maxHeartbeats 1000000 in
theorem inside_ok {G : Gh} {H : List (Nat × Obj)} {W : World} (hp : Hp G H W) {g : Nat} {N : NetD} (h : NetAt G g N) (hsm : N.p.Small) {A1 : Option Addr} {n1 c1 : Nat} {b : Body} (bt : Body.At G A1 n1 c1 b) : Calls Tryz.prog 114 ⟨[.pointer (some ⟨g, 0, none⟩), .agg ⟨[.int .i64 b.mode, .slice A1 n1 c1, .int .i64 b.left, .int .i64 b.over, .int .i64 b.v]⟩]⟩ W (RetD G H (fun _ v => v = .int .i64 (N.inside b))) := by
  refine enter Tryz.func114 rfl Tryz.ntmps114 (Nat.le_of_ble_eq_true rfl) hp (nx_seq (nx_region ?_))
  refine nx_op rfl (op_box rfl rfl (fun b3 => ?_))
  refine nv v_assign (nx_nil (nx_then (nx_seq (nx_region (nv v_load_o ?_)))))
  refine nx_op rfl (op_callS rfl rfl rfl (fun W hp => head_ok hp bt) ?_)
  refine nv v_move (nv (v_extract rfl rfl rfl) (nv (v_extract rfl rfl rfl) ?_))
  refine nx_op rfl (op_alloc rfl (fun b5 => ?_))
  refine st (k := nv v_assign (nx_nil (nx_then (nx_seq (nx_seq (nx_region (nv v_move (nv v_not (nv v_move ?_)))))))))
  refine nx_guard (t := 14) rfl (fun g14 => ?_) (fun g14 => ?_)
  refine nk (k := nk (k := nk (k := nv v_pick_t (nv v_move (nk (k := nk (k := nk (k := nv v_pick_t (nv v_move (nk (k := nk (k := ?_))))))))))))
  refine nk (k := nk (k := nk (k := nk (k := nv v_pick_t (nx_nil (nx_then (nx_cond_t rfl (nx_seq (nx_region (nv v_assign (nx_nil ?_)))))))))))
  refine nx_then (nx_ret (nx_then_ret ?_))
  exact nx_ret1 rfl (.tmp rfl) (rt ((Gh.le.refl _)) (by (unfold NetD.inside; simp only [Bool.not_eq_true', Bool.not_eq_false'] at *; simp [*]; done)))
  refine nr v_fieldAddr (nr v_load1_o (nr v_neq (nv v_pick_f (nv v_move ?_))))
  refine nx_guard_dec (t := 19) rfl (fun g19 => ?_) (fun g19 => ?_)
  refine nk (k := nk (k := nk (k := nv v_pick_t (nv v_move (nk (k := nk (k := nk (k := nk (k := nk (k := nk (k := nv v_pick_t ?_)))))))))))
  refine nx_nil (nx_then (nx_cond_t rfl (nx_seq (nx_region (nv v_assign (nx_nil (nx_then (nx_ret (nx_then_ret ?_)))))))))
  exact nx_ret1 rfl (.tmp rfl) (rt ((Gh.le.refl _)) (by (simp [NetD.inside, *]; done)))
  refine nr v_fieldAddr (nr v_load1_o (nr v_neq (nv v_pick_f (nv v_move ?_))))
  refine nx_guard_dec (t := 24) rfl (fun g24 => ?_) (fun g24 => ?_)
  refine nk (k := nk (k := nk (k := nk (k := nk (k := nk (k := nv v_pick_t (nx_nil (nx_then (nx_cond_t rfl (nx_seq (nx_region ?_)))))))))))
  refine nv v_assign (nx_nil (nx_then (nx_ret (nx_then_ret ?_))))
  exact nx_ret1 rfl (.tmp rfl) (rt ((Gh.le.refl _)) (by (simp [NetD.inside, *]; done)))
  refine nr v_move (nr v_load_o (nr v_fieldAddr (nr v_load1_o ?_)))
  refine nx_op_run rfl rfl rfl (op_callD rfl rfl rfl (fun W hp => inLoop_ok hp h hsm (b.head.getD ⟨0, 0⟩) b.left) (fun v29 G29 le29 ph29 => ?_))
  subst ph29
  refine nr v_not (nv v_pick_f (nx_nil (nx_then ?_)))
  refine nx_cond rfl (fun c31 => ?_) (fun c31 => ?_)
  refine nx_seq (nx_region (nv v_assign (nx_nil (nx_then (nx_ret (nx_then_ret ?_))))))
  exact nx_ret1 rfl (.tmp rfl) (rt (le29) (by (unfold NetD.inside; simp only [Bool.not_eq_true', Bool.not_eq_false'] at *; simp [*]; done)))
  refine nx_skip (nx_then (nx_seq (nx_region (nv v_move (nv v_load_o ?_)))))
  refine nx_op rfl (op_callS rfl rfl rfl (fun W hp => reads_ok hp (h.le le29) (b.head.getD ⟨0, 0⟩)) ?_)
  refine nv v_assign (nx_nil (nx_then (nx_ret ?_)))
  exact nx_ret1 rfl (.tmp rfl) (rt (le29) (by (unfold NetD.inside; simp only [Bool.not_eq_true', Bool.not_eq_false'] at *; simp [*]; done)))
end Go.Proofs.YtjckojnlapchoaaGreat
open Go Go.RowKit
namespace Go.Proofs.YtjckojnlapchoaaGreat
open Go.Proofs
def held (n low high : Int) : Int := max low (min n high)
def paceMay (s : Stock) : Bool := decide (s.top = held s.top 1 60) && decide (s.acc = held s.acc 1 10) && decide (s.brake = held s.brake 1 10)
def paceNext (s : Stock) (v want : Int) (forced : Bool) : Int :=
  if paceMay s then held (held v 0 s.top + (if forced then -s.brake else held want (-s.brake) s.acc)) 0 s.top else 0
set_option maxRecDepth 20000 in
set_option maxHeartbeats 1000000 in
theorem held_ok {G : Gh} {H : List (Nat × Obj)} {W : World} (hp : Hp G H W) (n low high : Int) : Calls Tryz.prog 111 ⟨[.int .i64 n, .int .i64 low, .int .i64 high]⟩ W (RetS G H (.int .i64 (held n low high))) := by
  refine enter Tryz.func111 rfl Tryz.ntmps111 (Nat.le_of_ble_eq_true rfl) hp (nx_seq (nx_region (nv v_assign (nx_nil (nx_then (nx_seq (nx_region (nv v_move (nv v_move (nv v_move (nv v_min ?_)))))))))))
  refine nv v_max (nv v_assign (nx_nil (nx_then (nx_ret ?_))))
  exact nx_ret1 rfl (.tmp rfl) (rs (rfl))
set_option maxRecDepth 20000 in
set_option maxHeartbeats 1000000 in
theorem paceMay_ok {G : Gh} {H : List (Nat × Obj)} {W : World} (hp : Hp G H W) (s : Stock) : Calls Tryz.prog 110 ⟨[.agg ⟨s.cells⟩]⟩ W (RetS G H (.bool (paceMay s))) := by
  refine enter Tryz.func110 rfl Tryz.ntmps110 (Nat.le_of_ble_eq_true rfl) hp (nx_seq (nx_region ?_))
  refine nx_op rfl (op_box rfl rfl (fun b1 => ?_))
  refine nv v_assign (nx_nil (nx_then (nx_seq (dr_begin 23 (.q 0 (.q 1 (.q 2 (.q 3 (.l 4 (.q 5 (.q 6 (.q 7 (.q 8 (.q 9 (.q 10 (.l 11 (.q 12 (.q 13 (.q 14 (.q 15 (.q 16 (.q 17 (.q 18 (.l 19 (.q 20 (.q 21 (.q 22 .done))))))))))))))))))))))) rfl (by kernel_rfl) (dr_q rfl rfl v_fieldAddr ic (dr_q rfl rfl v_load1_o ic (dr_q rfl rfl v_fieldAddr ic (dr_q rfl rfl v_load1_o ic (dr_l rfl rfl ?_)))))))))
  refine op_callS rfl rfl rfl (fun W hp => held_ok hp s.top 1 60) ?_
  refine dr_k ic (dr_q rfl rfl v_eql ic (dr_q rfl rfl v_move ic ?_))
  refine nx_guard_dec (t := 9) rfl (fun g9 => ?_) (fun g9 => ?_)
  refine dr_q_run rfl rfl rfl rfl v_fieldAddr ic (dr_q_run rfl rfl rfl rfl v_load1_o ic (dr_q_run rfl rfl rfl rfl v_fieldAddr ic (dr_q_run rfl rfl rfl rfl v_load1_o ic (dr_l_run rfl rfl rfl rfl ?_))))
  refine op_callS rfl rfl rfl (fun W hp => held_ok hp s.acc 1 10) ?_
  refine dr_k ic (dr_q_run rfl rfl rfl rfl v_eql ic (dr_q rfl rfl v_pick_t ic (dr_q rfl rfl v_move ic ?_)))
  refine nx_guard_dec (t := 17) rfl (fun g17 => ?_) (fun g17 => ?_)
  refine dr_q_run rfl rfl rfl rfl v_fieldAddr ic (dr_q_run rfl rfl rfl rfl v_load1_o ic (dr_q_run rfl rfl rfl rfl v_fieldAddr ic (dr_q_run rfl rfl rfl rfl v_load1_o ic (dr_l_run rfl rfl rfl rfl ?_))))
  refine op_callS rfl rfl rfl (fun W hp => held_ok hp s.brake 1 10) ?_
  refine dr_k ic (dr_q_run rfl rfl rfl rfl v_eql ic (dr_q rfl rfl v_pick_t ic (dr_q rfl rfl v_assign ic (dr_end rfl ?_))))
  refine nx_nil (nx_np ?_)
  refine nx_then (nx_ret ?_)
  exact nx_ret1 rfl (.tmp rfl) (rs (by unfold paceMay; (rw [decide_eq_true g9, decide_eq_true g17]; rfl)))
  refine dk (k := dk (k := dk (k := dk (k := dr_l_skip rfl rfl rfl rfl rfl rfl ic (dk (k := dr_q rfl rfl v_pick_f ic (dr_q rfl rfl v_assign ic (dr_end rfl ?_))))))))
  refine nx_nil (nx_np ?_)
  refine nx_then (nx_ret ?_)
  exact nx_ret1 rfl (.tmp rfl) (rs (by unfold paceMay; (rw [decide_eq_true g9, decide_eq_false g17]; rfl)))
  refine dk (k := dk (k := dk (k := dk (k := dr_l_skip rfl rfl rfl rfl rfl rfl ic (dk (k := dr_q rfl rfl v_pick_f ic (dr_q rfl rfl v_move ic (dk (k := dk (k := dk (k := dk (k := ?_))))))))))))
  refine dr_l_skip rfl rfl rfl rfl rfl rfl ic (dk (k := dr_q rfl rfl v_pick_f ic (dr_q rfl rfl v_assign ic (dr_end rfl ?_))))
  refine nx_nil (nx_np ?_)
  refine nx_then (nx_ret ?_)
  exact nx_ret1 rfl (.tmp rfl) (rs (by unfold paceMay; (rw [decide_eq_false g9]; rfl)))
theorem paceMay_range {s : Stock} (h : paceMay s = true) : 1 ≤ s.top ∧ s.top ≤ 60 ∧ 1 ≤ s.acc ∧ s.acc ≤ 10 ∧ 1 ≤ s.brake ∧ s.brake ≤ 10 := by
  simp only [paceMay, Bool.and_eq_true, decide_eq_true_eq] at h
  obtain ⟨⟨h1, h2⟩, h3⟩ := h
  have key : ∀ n low high : Int, low ≤ high → n = held n low high → low ≤ n ∧ n ≤ high := by
    intro n low high hl hh
    unfold held at hh
    rw [Int.max_def, Int.min_def] at hh
    (repeat' split at hh) <;> omega
  have k1 := key _ _ _ (by omega) h1
  have k2 := key _ _ _ (by omega) h2
  have k3 := key _ _ _ (by omega) h3
  omega
theorem held_range (n low high : Int) (h : low ≤ high) : low ≤ held n low high ∧ held n low high ≤ high := by
  unfold held
  rw [Int.max_def, Int.min_def]
  (repeat' split) <;> omega
set_option maxRecDepth 20000 in
set_option maxHeartbeats 1000000 in
theorem paceNext_ok {G : Gh} {H : List (Nat × Obj)} {W : World} (hp : Hp G H W) (s : Stock) (v want : Int) (forced : Bool) : Calls Tryz.prog 58 ⟨[.agg ⟨s.cells⟩, .int .i64 v, .int .i64 want, .bool forced]⟩ W (RetS G H (.int .i64 (paceNext s v want forced))) := by
  refine enter Tryz.func58 rfl Tryz.ntmps58 (Nat.le_of_ble_eq_true rfl) hp (nx_seq (nx_region ?_))
  refine nx_op rfl (op_box rfl rfl (fun b4 => ?_))
  refine nv v_assign (nx_nil (nx_then (nx_seq (nx_seq (nx_region (nv v_load_o ?_))))))
  refine nx_op rfl (op_callS rfl rfl rfl (fun W hp => paceMay_ok hp s) ?_)
  refine nv v_not (nx_nil (nx_then ?_))
  refine nx_cond rfl (fun c12 => ?_) (fun c12 => ?_)
  have hno : paceNext s v want forced = 0 := by unfold paceNext; rw [if_neg (by simpa using c12)]
  refine nx_seq (nx_region (nv v_assign (nx_nil (nx_then (nx_ret (nx_then_ret ?_))))))
  exact nx_ret1 rfl (.tmp rfl) (rs (by (rw [hno]; done)))
  have hm : paceMay s = true := by simpa using c12
  have hr := paceMay_range hm
  have hh := held_range v 0 s.top (by omega)
  have hw := held_range want (-s.brake) s.acc (by omega)
  have hyes : paceNext s v want forced = held (held v 0 s.top + (if forced then -s.brake else held want (-s.brake) s.acc)) 0 s.top := by unfold paceNext; rw [if_pos hm]
  refine nx_skip (nx_then (nx_seq (nx_region (nv v_move (nv v_fieldAddr (nv v_load1_o (nv v_neg (nv v_fieldAddr (nv v_load1_o ?_)))))))))
  refine nx_op rfl (op_callS rfl rfl rfl (fun W hp => held_ok hp want (-s.brake) s.acc) ?_)
  refine nv v_assign (nx_nil (nx_then (nx_seq (nx_seq (nx_region (nv v_move (nx_nil (nx_then ?_))))))))
  refine nx_cond rfl (fun c20 => ?_) (fun c20 => ?_)
  refine nx_region (nv v_fieldAddr (nv v_load1_o (nv v_neg (nv v_assign (nx_nil (nx_then (nx_seq (dr_begin 10 (.q 0 (.q 1 (.q 2 (.q 4 (.q 6 (.q 7 (.l 3 (.q 5 (.l 8 (.q 9 .done)))))))))) rfl (by kernel_rfl) (dr_q rfl rfl v_move ic (dr_q rfl rfl v_fieldAddr ic (dr_q rfl rfl v_load1_o ic ?_)))))))))))
  refine dr_q rfl rfl v_move ic (dr_q rfl rfl v_fieldAddr ic (dr_q rfl rfl v_load1_o ic (dr_l rfl rfl ?_)))
  refine op_callS rfl rfl rfl (fun W hp => held_ok hp v 0 s.top) ?_
  refine dr_k ic (dr_q rfl rfl v_add ic (dr_l rfl rfl ?_))
  refine op_callS rfl rfl rfl (fun W hp => held_ok hp _ 0 s.top) ?_
  refine dr_k ic (dr_q rfl rfl v_assign ic (dr_end rfl ?_))
  refine nx_nil (nx_np ?_)
  refine nx_then (nx_ret ?_)
  exact nx_ret1 rfl (.tmp rfl) (rs (by (rw [hyes, c20]; rfl)))
  refine nx_skip (nx_then (nx_seq (dr_begin 10 (.q 0 (.q 1 (.q 2 (.q 4 (.q 6 (.q 7 (.l 3 (.q 5 (.l 8 (.q 9 .done)))))))))) rfl (by kernel_rfl) (dr_q rfl rfl v_move ic (dr_q rfl rfl v_fieldAddr ic (dr_q rfl rfl v_load1_o ic (dr_q rfl rfl v_move ic (dr_q rfl rfl v_fieldAddr ic (dr_q rfl rfl v_load1_o ic (dr_l rfl rfl ?_))))))))))
  refine op_callS rfl rfl rfl (fun W hp => held_ok hp v 0 s.top) ?_
  refine dr_k ic (dr_q rfl rfl v_add ic (dr_l rfl rfl ?_))
  refine op_callS rfl rfl rfl (fun W hp => held_ok hp _ 0 s.top) ?_
  refine dr_k ic (dr_q rfl rfl v_assign ic (dr_end rfl ?_))
  refine nx_nil (nx_np ?_)
  refine nx_then (nx_ret ?_)
  exact nx_ret1 rfl (.tmp rfl) (rs (by (rw [hyes, c20]; rfl)))
def NetD.forced (N : NetD) (lamps : List Int) (b : Body) (first : Bool) : Bool :=
  if b.mode = 1 then !first || shut lamps (N.readsAt (b.head.getD ⟨0, 0⟩))
  else decide (0 ≤ N.inside b) && shut lamps (N.inside b)
set_option maxRecDepth 20000 in
set_option maxHeartbeats 1000000 in
theorem forced_ok {G : Gh} {H : List (Nat × Obj)} {W : World} (hp : Hp G H W) {g : Nat} {N : NetD} (h : NetAt G g N) (hsm : N.p.Small) {B : Option Addr} {m d : Nat} {l : List Int} (hs : Sl tInt G B m d l) {A1 : Option Addr} {n1 c1 : Nat} {b : Body} (bt : Body.At G A1 n1 c1 b) (first : Bool) : Calls Tryz.prog 59 ⟨[.pointer (some ⟨g, 0, none⟩), .slice B m d, .agg ⟨[.int .i64 b.mode, .slice A1 n1 c1, .int .i64 b.left, .int .i64 b.over, .int .i64 b.v]⟩, .bool first]⟩ W (RetD G H (fun _ v => v = .bool (N.forced l b first))) := by
  refine enter Tryz.func59 rfl Tryz.ntmps59 (Nat.le_of_ble_eq_true rfl) hp (nx_seq (nx_region ?_))
  refine nx_op rfl (op_box rfl rfl (fun b6 => ?_))
  refine nv v_assign (nx_nil (nx_then (nx_seq (nx_seq (nx_region (nv v_fieldAddr (nv v_load1_o (nv v_eql (nx_nil (nx_then ?_))))))))))
  refine nx_cond_dec rfl (fun c14 => ?_) (fun c14 => ?_)
  refine nx_seq (nx_region (nv v_load_o ?_))
  refine nx_op rfl (op_callS rfl rfl rfl (fun W hp => head_ok hp bt) ?_)
  refine nv v_move (nv (v_extract rfl rfl rfl) (nv (v_extract rfl rfl rfl) ?_))
  refine nx_op rfl (op_alloc rfl (fun b9 => ?_))
  refine st (k := nv v_assign (nx_nil (nx_then (nx_seq (nx_region (nv v_move (nv v_not (nv v_move ?_))))))))
  refine nx_guard (t := 22) rfl (fun g22 => ?_) (fun g22 => ?_)
  refine nk (k := nk (k := nk (k := nk (k := nk (k := nv v_pick_t (nv v_assign (nx_nil (nx_then (nx_ret (nx_then_ret ?_))))))))))
  exact nx_ret1 rfl (.tmp rfl) (rt ((Gh.le.refl _)) (by (unfold NetD.forced; rw [if_pos c14, g22]; rfl)))
  refine nr v_move (nr v_move (nr v_load_o ?_))
  refine nx_op_run rfl rfl rfl (op_callS rfl rfl rfl (fun W hp => reads_ok hp h (b.head.getD ⟨0, 0⟩)) ?_)
  refine nx_op_run rfl rfl rfl (op_callS rfl rfl rfl (fun W hp => shut_ok hp hs _) ?_)
  refine nv v_pick_f (nv v_assign (nx_nil (nx_then (nx_ret (nx_then_ret ?_)))))
  exact nx_ret1 rfl (.tmp rfl) (rt ((Gh.le.refl _)) (by (unfold NetD.forced; rw [if_pos c14, g22]; rfl)))
  refine nx_skip (nx_then (nx_seq (nx_region (nv v_move (nv v_load_o ?_)))))
  refine nx_op rfl (op_callD rfl rfl rfl (fun W hp => inside_ok hp h hsm bt) (fun v31 G31 le31 ph31 => ?_))
  subst ph31
  refine nv v_assign (nx_nil (nx_then (nx_seq (nx_region (nv v_move (nv v_geq (nv v_move ?_)))))))
  refine nx_guard_dec (t := 34) rfl (fun g34 => ?_) (fun g34 => ?_)
  refine nr v_move (nr v_move ?_)
  refine nx_op_run rfl rfl rfl (op_callS rfl rfl rfl (fun W hp => shut_ok hp (hs.le le31) _) ?_)
  refine nv v_pick_t (nv v_assign (nx_nil (nx_then (nx_ret ?_))))
  exact nx_ret1 rfl (.tmp rfl) (rt (le31) (by (unfold NetD.forced; rw [if_neg c14, decide_eq_true g34]; rfl)))
  refine nk (k := nk (k := nk (k := nv v_pick_f (nv v_assign (nx_nil (nx_then (nx_ret ?_)))))))
  exact nx_ret1 rfl (.tmp rfl) (rt (le31) (by (unfold NetD.forced; rw [if_neg c14, decide_eq_false g34]; rfl)))
end Go.Proofs.YtjckojnlapchoaaGreat
