/- Part 4 of a proof of a law over the program: Plan, Plan2, Plan3, Plan4, Plan5. Conditions: none beyond what each statement says. -/
import Derived.Test.YtjckojnlapchoaaGreatQ03
set_option linter.unusedVariables false
set_option linter.unusedSimpArgs false
open Go Go.RowKit
namespace Go.Proofs.YtjckojnlapchoaaGreat
open Go.Proofs
theorem all_no {α : Type} {f : α → Bool} {l : List α} {k : Nat} {x : α} {rest : List α} (hI : (l.drop k).all f = l.all f) (hd : l.drop k = x :: rest) (h : f x = false) : l.all f = false := by rw [← hI, hd, List.all_cons, h]; rfl
theorem all_yes {α : Type} {f : α → Bool} {l : List α} {k : Nat} {x : α} {rest : List α} (hI : (l.drop k).all f = l.all f) (hd : l.drop k = x :: rest) (hr : l.drop (k + 1) = rest) (h : f x = true) : (l.drop (k + 1)).all f = l.all f := by rw [← hI, hd, List.all_cons, h, hr]; rfl
theorem all_end {α : Type} {f : α → Bool} {l : List α} {k : Nat} (hI : (l.drop k).all f = l.all f) (h : l.length ≤ k) : l.all f = true := by rw [← hI, List.drop_eq_nil_of_le h]; rfl
def Plan.isPort (p : Plan) (x : Port) : Bool := decide (0 ≤ x.elem) && decide (x.elem < p.elems.length) && decide (0 ≤ x.fin) && decide (x.fin < ends (p.kind x.elem))
theorem Plan.kind_nat {p : Plan} {k : Nat} (h : k < p.elems.length) : p.kind k = (p.elems[k]'h).kind := by
  unfold Plan.kind Plan.elem
  rw [if_neg (by omega), Int.toNat_natCast, List.getElem?_eq_getElem h]; rfl
theorem Plan.kind_of {p : Plan} {k : Nat} {e : Elem} (h : p.elems[k]? = some e) : p.kind k = e.kind := by
  unfold Plan.kind Plan.elem
  rw [if_neg (by omega), Int.toNat_natCast, h]; rfl
theorem Plan.length_of {p : Plan} {k : Nat} {e : Elem} (h : p.elems[k]? = some e) : p.length k = e.length := by
  unfold Plan.length Plan.elem
  rw [if_neg (by omega), Int.toNat_natCast, h]; rfl
set_option maxRecDepth 20000 in
set_option maxHeartbeats 1000000 in
theorem port_ok {G : Gh} {H : List (Nat × Obj)} {W : World} (hp : Hp G H W) {A1 : Option Addr} {n1 c1 : Nat} {A2 : Option Addr} {n2 c2 : Nat} {A3 : Option Addr} {n3 c3 : Nat} {A4 : Option Addr} {n4 c4 : Nat} {p : Plan} (at_ : Plan.At G A1 n1 c1 A2 n2 c2 A3 n3 c3 A4 n4 c4 p) (x : Port) : Calls Tryz.prog 172 ⟨[.agg ⟨[.slice A1 n1 c1, .slice A2 n2 c2, .slice A3 n3 c3, .slice A4 n4 c4, .int .i64 p.top, .int .i64 p.brake, .int .i64 p.margin, .int .i64 p.throw_, .bool p.hard]⟩, .agg ⟨x.cells⟩]⟩ W (RetS G H (.bool (p.isPort x))) := by
  have l1 := at_.h1.length
  have l2 := at_.h2.length
  have l3 := at_.h3.length
  have l4 := at_.h4.length
  have r1 := Nat.le_trans at_.h1.cap at_.h1.room
  have r2 := Nat.le_trans at_.h2.cap at_.h2.room
  have r3 := Nat.le_trans at_.h3.cap at_.h3.room
  have r4 := Nat.le_trans at_.h4.cap at_.h4.room
  refine enter Tryz.func172 rfl Tryz.ntmps172 (Nat.le_of_ble_eq_true rfl) hp (nx_seq (nx_region ?_))
  refine nx_op rfl (op_box rfl rfl (fun b2 => ?_))
  refine nx_op rfl (op_box rfl rfl (fun b3 => ?_))
  refine nv v_assign (nx_nil (nx_then (nx_seq (dr_begin 30 (.q 0 (.q 1 (.q 2 (.q 3 (.q 4 (.q 5 (.q 6 (.q 7 (.q 8 (.q 9 (.q 10 (.q 11 (.q 12 (.q 13 (.q 14 (.q 15 (.q 16 (.q 17 (.q 18 (.q 19 (.q 20 (.q 21 (.q 22 (.q 23 (.q 24 (.q 25 (.l 26 (.q 27 (.q 28 (.q 29 .done)))))))))))))))))))))))))))))) rfl (by kernel_rfl) (dr_q rfl rfl v_fieldAddr ic (dr_q rfl rfl v_load1_o ic (dr_q rfl rfl v_geq ic (dr_q rfl rfl v_move ic ?_))))))))
  refine nx_guard_dec (t := 8) rfl (fun g8 => ?_) (fun g8 => ?_)
  refine dr_q_run rfl rfl rfl rfl v_fieldAddr ic (dr_q_run rfl rfl rfl rfl v_load1_o ic (dr_q_run rfl rfl rfl rfl v_fieldAddr ic (dr_q_run rfl rfl rfl rfl v_load1_o ic (dr_q_run rfl rfl rfl rfl v_len ic (dr_q_run rfl rfl rfl rfl v_lss ic (dr_q rfl rfl v_pick_t ic (dr_q rfl rfl v_move ic ?_)))))))
  refine nx_guard_dec (t := 16) rfl (fun g16 => ?_) (fun g16 => ?_)
  refine dr_q_run rfl rfl rfl rfl v_fieldAddr ic (dr_q_run rfl rfl rfl rfl v_load1_o ic (dr_q_run rfl rfl rfl rfl v_geq ic (dr_q rfl rfl v_pick_t ic (dr_q rfl rfl v_move ic ?_))))
  refine nx_guard_dec (t := 21) rfl (fun g21 => ?_) (fun g21 => ?_)
  obtain ⟨k, hk⟩ : ∃ k : Nat, x.elem = k := ⟨x.elem.toNat, by omega⟩
  obtain ⟨eb, eo, ee, ek, ef0, ef1, ef2⟩ := get_Elem (at_.h1) (List.getElem?_eq_getElem (i := k) (by omega))
  cases ee
  refine dr_q_run rfl rfl rfl rfl v_fieldAddr ic (dr_q_run rfl rfl rfl rfl v_load1_o ic (dr_q_run rfl rfl rfl rfl v_fieldAddr ic (dr_q_run rfl rfl rfl rfl v_load1_o ic (dr_q_run rfl rfl rfl rfl v_fieldAddr ic (dr_q_run rfl rfl rfl rfl v_load1_o ic ?_)))))
  refine dr_q_run rfl rfl rfl rfl (v_indexAddr_nat (k := k) rfl rfl (by rw [← hk]; rfl) (by omega)) ic ?_
  refine dr_q_run rfl rfl rfl rfl v_fieldAddr ic (dr_q_run rfl rfl rfl rfl v_load1_s ic (dr_l_run rfl rfl rfl rfl ?_))
  refine op_callS rfl rfl rfl (fun W hp => ends_ok hp _) ?_
  refine dr_k ic (dr_q_run rfl rfl rfl rfl v_lss ic (dr_q rfl rfl v_pick_t ic (dr_q rfl rfl v_assign ic (dr_end rfl ?_))))
  refine nx_nil (nx_np ?_)
  refine nx_then (nx_ret ?_)
  exact nx_ret1 rfl (.tmp rfl) (rs (by simp only [Plan.isPort]; rw [hk, Plan.kind_nat (by omega), ← hk]; simp [*]))
  refine dk (k := dk (k := dk (k := dk (k := dk (k := dk (k := dk (k := dk (k := dk (k := dr_l_skip rfl rfl rfl rfl rfl rfl ic (dk (k := dr_q rfl rfl v_pick_f ic ?_)))))))))))
  refine dr_q rfl rfl v_assign ic (dr_end rfl ?_)
  refine nx_nil (nx_np ?_)
  refine nx_then (nx_ret ?_)
  exact nx_ret1 rfl (.tmp rfl) (rs (by simp [Plan.isPort, *]))
  refine dk (k := dk (k := dk (k := dr_q rfl rfl v_pick_f ic (dr_q rfl rfl v_move ic (dk (k := dk (k := dk (k := dk (k := dk (k := dk (k := dk (k := ?_))))))))))))
  refine dk (k := dk (k := dr_l_skip rfl rfl rfl rfl rfl rfl ic (dk (k := dr_q rfl rfl v_pick_f ic (dr_q rfl rfl v_assign ic (dr_end rfl ?_))))))
  refine nx_nil (nx_np ?_)
  refine nx_then (nx_ret ?_)
  exact nx_ret1 rfl (.tmp rfl) (rs (by simp [Plan.isPort, *]))
  refine dk (k := dk (k := dk (k := dk (k := dk (k := dk (k := dr_q rfl rfl v_pick_f ic (dr_q rfl rfl v_move ic (dk (k := dk (k := dk (k := dr_q rfl rfl v_pick_f ic ?_)))))))))))
  refine dr_q rfl rfl v_move ic (dk (k := dk (k := dk (k := dk (k := dk (k := dk (k := dk (k := dk (k := dk (k := dr_l_skip rfl rfl rfl rfl rfl rfl ic (dk (k := ?_))))))))))))
  refine dr_q rfl rfl v_pick_f ic (dr_q rfl rfl v_assign ic (dr_end rfl ?_))
  refine nx_nil (nx_np ?_)
  refine nx_then (nx_ret ?_)
  exact nx_ret1 rfl (.tmp rfl) (rs (by simp [Plan.isPort, *]))
def elemOk (e : Elem) : Bool := nameOk e.name && decide (¬ ends e.kind = 0) && (if e.kind = 4 then decide (e.length = 0) else decide (1 ≤ e.length) && decide (e.length ≤ 4000))
def numsOk (p : Plan) : Bool := decide (1 ≤ p.top) && decide (p.top ≤ 60) && decide (1 ≤ p.brake) && decide (p.brake ≤ 10) && decide (1 ≤ p.margin) && decide (p.margin ≤ 4000) && decide (1 ≤ p.throw_) && decide (p.throw_ ≤ 20) && decide (¬ p.elems.length = 0)
def numbersOk (p : Plan) : Bool := numsOk p && p.elems.all elemOk && p.signals.all (fun s => nameOk s.name) && p.lines.all (fun l => nameOk l.name)
set_option maxRecDepth 20000 in
set_option maxHeartbeats 1000000 in
theorem numbers_ok {G : Gh} {H : List (Nat × Obj)} {W : World} (hp : Hp G H W) {A1 : Option Addr} {n1 c1 : Nat} {A2 : Option Addr} {n2 c2 : Nat} {A3 : Option Addr} {n3 c3 : Nat} {A4 : Option Addr} {n4 c4 : Nat} {p : Plan} (at_ : Plan.At G A1 n1 c1 A2 n2 c2 A3 n3 c3 A4 n4 c4 p) : Calls Tryz.prog 123 ⟨[.agg ⟨[.slice A1 n1 c1, .slice A2 n2 c2, .slice A3 n3 c3, .slice A4 n4 c4, .int .i64 p.top, .int .i64 p.brake, .int .i64 p.margin, .int .i64 p.throw_, .bool p.hard]⟩]⟩ W (RetS G H (.bool (numbersOk p))) := by
  have l1 := at_.h1.length
  have l2 := at_.h2.length
  have l3 := at_.h3.length
  have l4 := at_.h4.length
  have r1 := Nat.le_trans at_.h1.cap at_.h1.room
  have r2 := Nat.le_trans at_.h2.cap at_.h2.room
  have r3 := Nat.le_trans at_.h3.cap at_.h3.room
  have r4 := Nat.le_trans at_.h4.cap at_.h4.room
  refine enter Tryz.func123 rfl Tryz.ntmps123 (Nat.le_of_ble_eq_true rfl) hp (nx_seq (nx_region ?_))
  refine nx_op rfl (op_box rfl rfl (fun b1 => ?_))
  refine nv v_assign (nx_nil (nx_then (nx_scope (nx_seq (nx_seq (nx_region (nv v_fieldAddr (nv v_load1_o (nv v_lss (nv v_move ?_))))))))))
  refine nx_guard_dec (t := 12) rfl (fun g12 => ?_) (fun g12 => ?_)
  refine nk (k := nk (k := nk (k := nv v_pick_t (nv v_move (nk (k := nk (k := nk (k := nv v_pick_t (nv v_move (nk (k := nk (k := ?_))))))))))))
  refine nk (k := nv v_pick_t (nv v_move (nk (k := nk (k := nk (k := nv v_pick_t (nv v_move (nk (k := nk (k := nk (k := nv v_pick_t ?_)))))))))))
  refine nv v_move (nk (k := nk (k := nk (k := nv v_pick_t (nv v_move (nk (k := nk (k := nk (k := nv v_pick_t (nv v_move (nk (k := ?_))))))))))))
  refine nk (k := nk (k := nk (k := nv v_pick_t (nx_nil (nx_then (nx_cond_t rfl ?_))))))
  have hno : numsOk p = false := by simp only [numsOk, Bool.and_eq_false_iff, decide_eq_false_iff_not]; omega
  refine nx_seq (nx_region (nv v_assign (nx_nil (nx_then (nx_ret (nx_then_ret (nx_ng_ret ?_)))))))
  exact nx_ret1 rfl (.tmp rfl) (rs (by (unfold numbersOk; rw [hno]; rfl)))
  refine nr v_fieldAddr (nr v_load1_o (nr v_gtr (nv v_pick_f (nv v_move ?_))))
  refine nx_guard_dec (t := 17) rfl (fun g17 => ?_) (fun g17 => ?_)
  refine nk (k := nk (k := nk (k := nv v_pick_t (nv v_move (nk (k := nk (k := nk (k := nv v_pick_t (nv v_move (nk (k := nk (k := ?_))))))))))))
  refine nk (k := nv v_pick_t (nv v_move (nk (k := nk (k := nk (k := nv v_pick_t (nv v_move (nk (k := nk (k := nk (k := nv v_pick_t ?_)))))))))))
  refine nv v_move (nk (k := nk (k := nk (k := nv v_pick_t (nv v_move (nk (k := nk (k := nk (k := nk (k := nv v_pick_t (nx_nil ?_)))))))))))
  refine nx_then (nx_cond_t rfl ?_)
  have hno : numsOk p = false := by simp only [numsOk, Bool.and_eq_false_iff, decide_eq_false_iff_not]; omega
  refine nx_seq (nx_region (nv v_assign (nx_nil (nx_then (nx_ret (nx_then_ret (nx_ng_ret ?_)))))))
  exact nx_ret1 rfl (.tmp rfl) (rs (by (unfold numbersOk; rw [hno]; rfl)))
  refine nr v_fieldAddr (nr v_load1_o (nr v_lss (nv v_pick_f (nv v_move ?_))))
  refine nx_guard_dec (t := 22) rfl (fun g22 => ?_) (fun g22 => ?_)
  refine nk (k := nk (k := nk (k := nv v_pick_t (nv v_move (nk (k := nk (k := nk (k := nv v_pick_t (nv v_move (nk (k := nk (k := ?_))))))))))))
  refine nk (k := nv v_pick_t (nv v_move (nk (k := nk (k := nk (k := nv v_pick_t (nv v_move (nk (k := nk (k := nk (k := nv v_pick_t ?_)))))))))))
  refine nv v_move (nk (k := nk (k := nk (k := nk (k := nv v_pick_t (nx_nil (nx_then (nx_cond_t rfl ?_))))))))
  have hno : numsOk p = false := by simp only [numsOk, Bool.and_eq_false_iff, decide_eq_false_iff_not]; omega
  refine nx_seq (nx_region (nv v_assign (nx_nil (nx_then (nx_ret (nx_then_ret (nx_ng_ret ?_)))))))
  exact nx_ret1 rfl (.tmp rfl) (rs (by (unfold numbersOk; rw [hno]; rfl)))
  refine nr v_fieldAddr (nr v_load1_o (nr v_gtr (nv v_pick_f (nv v_move ?_))))
  refine nx_guard_dec (t := 27) rfl (fun g27 => ?_) (fun g27 => ?_)
  refine nk (k := nk (k := nk (k := nv v_pick_t (nv v_move (nk (k := nk (k := nk (k := nv v_pick_t (nv v_move (nk (k := nk (k := ?_))))))))))))
  refine nk (k := nv v_pick_t (nv v_move (nk (k := nk (k := nk (k := nv v_pick_t (nv v_move (nk (k := nk (k := nk (k := nk (k := ?_))))))))))))
  refine nv v_pick_t (nx_nil (nx_then (nx_cond_t rfl ?_)))
  have hno : numsOk p = false := by simp only [numsOk, Bool.and_eq_false_iff, decide_eq_false_iff_not]; omega
  refine nx_seq (nx_region (nv v_assign (nx_nil (nx_then (nx_ret (nx_then_ret (nx_ng_ret ?_)))))))
  exact nx_ret1 rfl (.tmp rfl) (rs (by (unfold numbersOk; rw [hno]; rfl)))
  refine nr v_fieldAddr (nr v_load1_o (nr v_lss (nv v_pick_f (nv v_move ?_))))
  refine nx_guard_dec (t := 32) rfl (fun g32 => ?_) (fun g32 => ?_)
  refine nk (k := nk (k := nk (k := nv v_pick_t (nv v_move (nk (k := nk (k := nk (k := nv v_pick_t (nv v_move (nk (k := nk (k := ?_))))))))))))
  refine nk (k := nv v_pick_t (nv v_move (nk (k := nk (k := nk (k := nk (k := nv v_pick_t (nx_nil (nx_then (nx_cond_t rfl ?_))))))))))
  have hno : numsOk p = false := by simp only [numsOk, Bool.and_eq_false_iff, decide_eq_false_iff_not]; omega
  refine nx_seq (nx_region (nv v_assign (nx_nil (nx_then (nx_ret (nx_then_ret (nx_ng_ret ?_)))))))
  exact nx_ret1 rfl (.tmp rfl) (rs (by (unfold numbersOk; rw [hno]; rfl)))
  refine nr v_fieldAddr (nr v_load1_o (nr v_gtr (nv v_pick_f (nv v_move ?_))))
  refine nx_guard_dec (t := 37) rfl (fun g37 => ?_) (fun g37 => ?_)
  refine nk (k := nk (k := nk (k := nv v_pick_t (nv v_move (nk (k := nk (k := nk (k := nv v_pick_t (nv v_move (nk (k := nk (k := ?_))))))))))))
  refine nk (k := nk (k := nv v_pick_t (nx_nil (nx_then (nx_cond_t rfl ?_)))))
  have hno : numsOk p = false := by simp only [numsOk, Bool.and_eq_false_iff, decide_eq_false_iff_not]; omega
  refine nx_seq (nx_region (nv v_assign (nx_nil (nx_then (nx_ret (nx_then_ret (nx_ng_ret ?_)))))))
  exact nx_ret1 rfl (.tmp rfl) (rs (by (unfold numbersOk; rw [hno]; rfl)))
  refine nr v_fieldAddr (nr v_load1_o (nr v_lss (nv v_pick_f (nv v_move ?_))))
  refine nx_guard_dec (t := 42) rfl (fun g42 => ?_) (fun g42 => ?_)
  refine nk (k := nk (k := nk (k := nv v_pick_t (nv v_move (nk (k := nk (k := nk (k := nk (k := nv v_pick_t (nx_nil (nx_then ?_)))))))))))
  refine nx_cond_t rfl ?_
  have hno : numsOk p = false := by simp only [numsOk, Bool.and_eq_false_iff, decide_eq_false_iff_not]; omega
  refine nx_seq (nx_region (nv v_assign (nx_nil (nx_then (nx_ret (nx_then_ret (nx_ng_ret ?_)))))))
  exact nx_ret1 rfl (.tmp rfl) (rs (by (unfold numbersOk; rw [hno]; rfl)))
  refine nr v_fieldAddr (nr v_load1_o (nr v_gtr (nv v_pick_f (nv v_move ?_))))
  refine nx_guard_dec (t := 47) rfl (fun g47 => ?_) (fun g47 => ?_)
  refine nk (k := nk (k := nk (k := nk (k := nv v_pick_t (nx_nil (nx_then (nx_cond_t rfl ?_)))))))
  have hno : numsOk p = false := by simp only [numsOk, Bool.and_eq_false_iff, decide_eq_false_iff_not]; omega
  refine nx_seq (nx_region (nv v_assign (nx_nil (nx_then (nx_ret (nx_then_ret (nx_ng_ret ?_)))))))
  exact nx_ret1 rfl (.tmp rfl) (rs (by (unfold numbersOk; rw [hno]; rfl)))
  refine nr v_fieldAddr (nr v_load1_o (nr v_len (nr v_eql (nv v_pick_f (nx_nil (nx_then ?_))))))
  refine nx_cond_dec rfl (fun c52 => ?_) (fun c52 => ?_)
  have hno : numsOk p = false := by simp only [numsOk, Bool.and_eq_false_iff, decide_eq_false_iff_not]; omega
  refine nx_seq (nx_region (nv v_assign (nx_nil (nx_then (nx_ret (nx_then_ret (nx_ng_ret ?_)))))))
  exact nx_ret1 rfl (.tmp rfl) (rs (by (unfold numbersOk; rw [hno]; rfl)))
  have hnums : numsOk p = true := by simp only [numsOk, Bool.and_eq_true, decide_eq_true_eq]; omega
  refine nx_skip (nx_then (nx_seq (nx_label (nx_then (nx_seq (nx_seq (nx_region (nv v_fieldAddr (nv v_load1_o (nv v_len (nv v_move ?_)))))))))))
  refine nx_nil (nx_then (nx_block ?_))
  refine nx_loop_v (σ := Nat) [0, 1, 9, 10, 11, 12, 13, 14, 15, 16, 17, 18, 19, 20, 21, 22, 23, 24, 25, 26, 27, 28, 29, 30, 31, 32, 33, 34, 35, 36, 37, 38, 39, 40, 41, 42, 43, 44, 45, 46, 47, 48, 49, 50, 51, 52, 53, 54, 55] (fun k => [(56, .int .i64 (k : Int))]) (fun _ => G) (fun _ => _) (fun k => (p.elems.drop k).all elemOk = p.elems.all elemOk) (fun k => n1 - k) 0 (.cons rfl (.cons rfl (.cons rfl (.cons rfl (.cons rfl (.cons rfl (.cons rfl (.cons rfl (.cons rfl (.cons rfl (.cons rfl (.cons rfl (.cons rfl (.cons rfl (.cons rfl (.cons rfl (.cons rfl (.cons rfl (.cons rfl (.cons rfl (.cons rfl (.cons rfl (.cons rfl (.cons rfl (.cons rfl (.cons rfl (.cons rfl (.cons rfl (.cons rfl (.cons rfl (.cons rfl (.cons rfl (.cons rfl (.cons rfl (.cons rfl (.cons rfl (.cons rfl (.cons rfl (.cons rfl (.cons rfl (.cons rfl (.cons rfl (.cons rfl (.cons rfl (.cons rfl (.cons rfl (.cons rfl (.cons rfl (.cons rfl (.nil)))))))))))))))))))))))))))))))))))))))))))))))))) ⟨rfl, trivial⟩ rfl rfl rfl ?_
  intro k hI K next
  refine nx_seq (nx_region (nv v_lss (nx_nil (nx_then (nx_seq ?_)))))
  refine nx_cond_dec rfl (fun c57 => ?_) (fun c57 => ?_)
  obtain ⟨x, rest, hd, hx⟩ := drop_of_lt (xs := p.elems) (k := k) (by omega)
  obtain ⟨xb, xo, xe, xk, xr, xf0, xf1, xf2⟩ := next_Elem at_.h1 hd
  cases xe
  refine nx_skip (nx_then (nx_seq (nx_block (nx_seq (nx_region (nv (v_indexAddr_nat rfl rfl rfl (by omega)) (nv v_load_s ?_)))))))
  refine nx_op rfl (op_alloc rfl (fun b4 => ?_))
  refine st (k := nx_nil (nx_then (nx_block (nx_seq (nx_region (nv v_fieldAddr (nv v_load1_o ?_)))))))
  refine nx_op rfl (op_callS rfl rfl rfl (fun W hp => name_ok hp _) ?_)
  refine nv v_not (nv v_move ?_)
  refine nx_guard (t := 65) rfl (fun g65 => ?_) (fun g65 => ?_)
  refine nk (k := nk (k := nk (k := nk (k := nv v_pick_t (nv v_assign (nx_nil (nx_then (nx_cond_t rfl ?_))))))))
  have hno : elemOk x = false := by simp_all [elemOk]
  refine nx_seq (nx_region (nv v_assign (nx_nil (nx_then (nx_ret (nx_in_ret (nx_in_ret (nx_then_ret (nx_then_ret (nx_in_ret (nx_then_ret ?_)))))))))))
  refine nx_ng_ret ?_
  exact nx_ret1 rfl (.tmp rfl) (rs (by (unfold numbersOk; rw [all_no hI hd hno]; simp)))
  refine nr v_fieldAddr (nr v_load1_o ?_)
  refine nx_op_run rfl rfl rfl (op_callS rfl rfl rfl (fun W hp => ends_ok hp _) ?_)
  refine nr v_eql (nv v_pick_f (nv v_assign (nx_nil (nx_then ?_))))
  refine nx_cond_dec rfl (fun c60 => ?_) (fun c60 => ?_)
  have hno : elemOk x = false := by simp_all [elemOk]
  refine nx_seq (nx_region (nv v_assign (nx_nil (nx_then (nx_ret (nx_in_ret (nx_in_ret (nx_then_ret (nx_then_ret (nx_in_ret (nx_then_ret ?_)))))))))))
  refine nx_ng_ret ?_
  exact nx_ret1 rfl (.tmp rfl) (rs (by (unfold numbersOk; rw [all_no hI hd hno]; simp)))
  refine nx_seq (nx_region (nv v_fieldAddr (nv v_load1_o (nv v_eql (nv v_assign (nx_nil (nx_then ?_)))))))
  refine nx_cond_dec rfl (fun c71 => ?_) (fun c71 => ?_)
  refine nx_seq (nx_seq (nx_region (nv v_fieldAddr (nv v_load1_o (nv v_neq (nx_nil (nx_then ?_)))))))
  refine nx_cond_dec rfl (fun c77 => ?_) (fun c77 => ?_)
  have hno : elemOk x = false := by simp_all [elemOk]
  refine nx_seq (nx_region (nv v_assign (nx_nil (nx_then (nx_ret (nx_then_ret (nx_in_ret (nx_in_ret (nx_then_ret (nx_then_ret (nx_in_ret ?_)))))))))))
  refine nx_then_ret (nx_ng_ret ?_)
  exact nx_ret1 rfl (.tmp rfl) (rs (by (unfold numbersOk; rw [all_no hI hd hno]; simp)))
  have hyes : elemOk x = true := by simp_all [elemOk]
  refine nx_skip (nx_then (nx_exit (nx_in_ne rfl (nx_in_eq (nx_then (nx_region (nv v_add (nv v_move (nx_nil (nx_then ?_))))))))))
  exact nn (next (k + 1) (all_yes hI hd xr hyes) (by omega))
  refine nx_seq (nx_region (nv v_fieldAddr (nv v_load1_o (nv v_lss (nv v_move ?_)))))
  refine nx_guard_dec (t := 82) rfl (fun g82 => ?_) (fun g82 => ?_)
  refine nk (k := nk (k := nk (k := nv v_pick_t (nv v_assign (nx_nil (nx_then (nx_cond_t rfl ?_)))))))
  have hno : elemOk x = false := by
    have : ¬ (1 ≤ x.length ∧ x.length ≤ 4000) := by omega
    simp_all [elemOk]
  refine nx_seq (nx_region (nv v_assign (nx_nil (nx_then (nx_ret (nx_in_ret (nx_in_ret (nx_then_ret (nx_then_ret (nx_in_ret (nx_then_ret ?_)))))))))))
  refine nx_ng_ret ?_
  exact nx_ret1 rfl (.tmp rfl) (rs (by (unfold numbersOk; rw [all_no hI hd hno]; simp)))
  refine nr v_fieldAddr (nr v_load1_o (nr v_gtr (nv v_pick_f (nv v_assign (nx_nil (nx_then ?_))))))
  refine nx_cond_dec rfl (fun c78 => ?_) (fun c78 => ?_)
  have hno : elemOk x = false := by
    have : ¬ (1 ≤ x.length ∧ x.length ≤ 4000) := by omega
    simp_all [elemOk]
  refine nx_seq (nx_region (nv v_assign (nx_nil (nx_then (nx_ret (nx_in_ret (nx_in_ret (nx_then_ret (nx_then_ret (nx_in_ret (nx_then_ret ?_)))))))))))
  refine nx_ng_ret ?_
  exact nx_ret1 rfl (.tmp rfl) (rs (by (unfold numbersOk; rw [all_no hI hd hno]; simp)))
  have hyes : elemOk x = true := by
    have h1 : 1 ≤ x.length := by omega
    have h2 : x.length ≤ 4000 := by omega
    simp_all [elemOk]
  refine nx_skip (nx_in _ (nx_in _ (nx_then (nx_region (nv v_add (nv v_move (nx_nil (nx_then ?_))))))))
  exact nn (next (k + 1) (all_yes hI hd xr hyes) (by omega))
  refine nx_exit (nx_then_exit (nx_then_exit (nx_in_eq (nx_then (nx_seq (nx_seq (nx_region (nv v_fieldAddr (nv v_load1_o (nv v_len (nv v_move ?_)))))))))))
  refine nx_nil (nx_then (nx_block ?_))
  have h1 := all_end hI (by omega)
  refine nx_loop_v (σ := Nat) [0, 1, 9, 10, 11, 12, 13, 14, 15, 16, 17, 18, 19, 20, 21, 22, 23, 24, 25, 26, 27, 28, 29, 30, 31, 32, 33, 34, 35, 36, 37, 38, 39, 40, 41, 42, 43, 44, 45, 46, 47, 48, 49, 50, 51, 52, 53, 54, 55, 56, 57, 88, 89, 90] (fun k => [(91, .int .i64 (k : Int))]) (fun _ => G) (fun _ => _) (fun k => (p.signals.drop k).all (fun s => nameOk s.name) = p.signals.all (fun s => nameOk s.name)) (fun k => n3 - k) 0 (.cons rfl (.cons rfl (.cons rfl (.cons rfl (.cons rfl (.cons rfl (.cons rfl (.cons rfl (.cons rfl (.cons rfl (.cons rfl (.cons rfl (.cons rfl (.cons rfl (.cons rfl (.cons rfl (.cons rfl (.cons rfl (.cons rfl (.cons rfl (.cons rfl (.cons rfl (.cons rfl (.cons rfl (.cons rfl (.cons rfl (.cons rfl (.cons rfl (.cons rfl (.cons rfl (.cons rfl (.cons rfl (.cons rfl (.cons rfl (.cons rfl (.cons rfl (.cons rfl (.cons rfl (.cons rfl (.cons rfl (.cons rfl (.cons rfl (.cons rfl (.cons rfl (.cons rfl (.cons rfl (.cons rfl (.cons rfl (.cons rfl (.cons rfl (.cons rfl (.cons rfl (.cons rfl (.cons rfl (.nil))))))))))))))))))))))))))))))))))))))))))))))))))))))) ⟨rfl, trivial⟩ rfl rfl rfl ?_
  intro k hI K next
  refine nx_seq (nx_region (nv v_lss (nx_nil (nx_then (nx_seq ?_)))))
  refine nx_cond_dec rfl (fun c92 => ?_) (fun c92 => ?_)
  obtain ⟨x, rest, hd, hx⟩ := drop_of_lt (xs := p.signals) (k := k) (by omega)
  obtain ⟨xb, xo, xe, xk, xr, xf0, xf1, xf2, xf3⟩ := next_Signal at_.h3 hd
  cases xe
  refine nx_skip (nx_then (nx_seq (nx_block (nx_seq (nx_region (nv (v_indexAddr_nat rfl rfl rfl (by omega)) (nv v_load_s ?_)))))))
  refine nx_op rfl (op_alloc rfl (fun b6 => ?_))
  refine st (k := nx_nil (nx_then (nx_seq (nx_region (nv v_fieldAddr (nv v_load1_o ?_))))))
  refine nx_op rfl (op_callS rfl rfl rfl (fun W hp => name_ok hp _) ?_)
  refine nv v_not (nx_nil (nx_then ?_))
  refine nx_cond rfl (fun c98 => ?_) (fun c98 => ?_)
  have hno : nameOk x.name = false := by simpa using c98
  refine nx_seq (nx_region (nv v_assign (nx_nil (nx_then (nx_ret (nx_in_ret (nx_then_ret (nx_then_ret (nx_in_ret (nx_then_ret (nx_ng_ret ?_)))))))))))
  exact nx_ret1 rfl (.tmp rfl) (rs (by (unfold numbersOk; rw [all_no hI hd hno]; simp)))
  refine nx_skip (nx_in _ (nx_then (nx_region (nv v_add (nv v_move (nx_nil (nx_then ?_)))))))
  exact nn (next (k + 1) (all_yes hI hd xr (by simpa using c98)) (by omega))
  refine nx_exit (nx_then_exit (nx_then_exit (nx_in_eq (nx_then (nx_seq (nx_seq (nx_region (nv v_fieldAddr (nv v_load1_o (nv v_len (nv v_move ?_)))))))))))
  refine nx_nil (nx_then (nx_block ?_))
  have h2 := all_end hI (by omega)
  refine nx_loop_v (σ := Nat) [0, 1, 9, 10, 11, 12, 13, 14, 15, 16, 17, 18, 19, 20, 21, 22, 23, 24, 25, 26, 27, 28, 29, 30, 31, 32, 33, 34, 35, 36, 37, 38, 39, 40, 41, 42, 43, 44, 45, 46, 47, 48, 49, 50, 51, 52, 53, 54, 55, 56, 57, 88, 89, 90, 91, 92, 100, 101, 102] (fun k => [(103, .int .i64 (k : Int))]) (fun _ => G) (fun _ => _) (fun k => (p.lines.drop k).all (fun s => nameOk s.name) = p.lines.all (fun s => nameOk s.name)) (fun k => n4 - k) 0 (.cons rfl (.cons rfl (.cons rfl (.cons rfl (.cons rfl (.cons rfl (.cons rfl (.cons rfl (.cons rfl (.cons rfl (.cons rfl (.cons rfl (.cons rfl (.cons rfl (.cons rfl (.cons rfl (.cons rfl (.cons rfl (.cons rfl (.cons rfl (.cons rfl (.cons rfl (.cons rfl (.cons rfl (.cons rfl (.cons rfl (.cons rfl (.cons rfl (.cons rfl (.cons rfl (.cons rfl (.cons rfl (.cons rfl (.cons rfl (.cons rfl (.cons rfl (.cons rfl (.cons rfl (.cons rfl (.cons rfl (.cons rfl (.cons rfl (.cons rfl (.cons rfl (.cons rfl (.cons rfl (.cons rfl (.cons rfl (.cons rfl (.cons rfl (.cons rfl (.cons rfl (.cons rfl (.cons rfl (.cons rfl (.cons rfl (.cons rfl (.cons rfl (.cons rfl (.nil)))))))))))))))))))))))))))))))))))))))))))))))))))))))))))) ⟨rfl, trivial⟩ rfl rfl rfl ?_
  intro k hI K next
  refine nx_seq (nx_region (nv v_lss (nx_nil (nx_then (nx_seq ?_)))))
  refine nx_cond_dec rfl (fun c104 => ?_) (fun c104 => ?_)
  obtain ⟨x, rest, hd, hx⟩ := drop_of_lt (xs := p.lines) (k := k) (by omega)
  obtain ⟨xb, xo, xA1, xn1, xc1, xe, xk, xr, xf0, xf1, xat⟩ := next_Line at_.h4 hd
  cases xe
  refine nx_skip (nx_then (nx_seq (nx_block (nx_seq (nx_region (nv (v_indexAddr_nat rfl rfl rfl (by omega)) (nv v_load_s ?_)))))))
  refine nx_op rfl (op_alloc rfl (fun b8 => ?_))
  refine st (k := nx_nil (nx_then (nx_seq (nx_region (nv v_fieldAddr (nv v_load1_o ?_))))))
  refine nx_op rfl (op_callS rfl rfl rfl (fun W hp => name_ok hp _) ?_)
  refine nv v_not (nx_nil (nx_then ?_))
  refine nx_cond rfl (fun c110 => ?_) (fun c110 => ?_)
  have hno : nameOk x.name = false := by simpa using c110
  refine nx_seq (nx_region (nv v_assign (nx_nil (nx_then (nx_ret (nx_in_ret (nx_then_ret (nx_then_ret (nx_in_ret (nx_then_ret (nx_ng_ret ?_)))))))))))
  exact nx_ret1 rfl (.tmp rfl) (rs (by (unfold numbersOk; rw [all_no hI hd hno]; simp)))
  refine nx_skip (nx_in _ (nx_then (nx_region (nv v_add (nv v_move (nx_nil (nx_then ?_)))))))
  exact nn (next (k + 1) (all_yes hI hd xr (by simpa using c110)) (by omega))
  refine nx_exit (nx_then_exit (nx_then_exit (nx_in_eq (nx_then (nx_seq (nx_region (nv v_assign (nx_nil (nx_then (nx_ret (nx_ng_ret ?_)))))))))))
  exact nx_ret1 rfl (.tmp rfl) (rs (by (unfold numbersOk; rw [hnums, h1, h2, all_end hI (by omega)]; rfl)))
end Go.Proofs.YtjckojnlapchoaaGreat
open Go Go.RowKit
namespace Go.Proofs.YtjckojnlapchoaaGreat
open Go.Proofs
def twiceF : List ByteArray → List (ByteArray × Bool) → Bool
  | [], _ => false
  | x :: r, m => if (getK m x).getD false then true else twiceF r (putK m x true)
set_option maxRecDepth 20000 in
set_option maxHeartbeats 1000000 in
theorem twice_ok {G : Gh} {H : List (Nat × Obj)} {W : World} (hp : Hp G H W) {n : Nat} (l : List ByteArray) (hn : n = l.length) (hr : n ≤ 9223372036854775807) {fn : Nat} [FnT Tryz.prog fn] {fst cap : List Value}
    (hf : ∀ (k : Nat) x, l[k]? = some x → Does Tryz.prog fn (fst ++ [.int .i64 (k : Int)] ++ cap) G H (.string x)) : Calls Tryz.prog 124 ⟨[.int .i64 (n : Int), .func (.func fn) ⟨fst⟩ ⟨cap⟩]⟩ W (RetD G H (fun _ v => v = .bool (twiceF l []))) := by
  refine enter Tryz.func124 rfl Tryz.ntmps124 (Nat.le_of_ble_eq_true rfl) hp (nx_seq (nx_region (nv v_assign (nx_nil (nx_then (nx_seq (nx_region ?_)))))))
  refine nx_op rfl (op_makeMap rfl (fun b7 => ?_))
  refine nv v_assign (nx_nil (nx_then (nx_seq (nx_seq (nx_region (nv v_move (nv v_move (nx_nil (nx_then (nx_block ?_))))))))))
  refine nx_loop_v (σ := Nat × Gh × Obj × List (ByteArray × Bool)) [0, 1, 5, 7, 8] (fun s => [(9, .int .i64 (s.1 : Int))]) (fun s => s.2.1) (fun s => (b7, s.2.2.1) :: _) (fun s => G.le s.2.1 ∧ MapObj str_ bool_ s.2.2.1 s.2.2.2 ∧ twiceF (l.drop s.1) s.2.2.2 = twiceF l []) (fun s => n - s.1) (0, G, _, []) (.cons rfl (.cons rfl (.cons rfl (.cons rfl (.cons rfl (.nil)))))) ⟨rfl, trivial⟩ ⟨Gh.le.refl _, MapObj.new _ _ _, rfl⟩ rfl rfl ?_
  rintro ⟨k, G1, o, m⟩ ⟨le1, hm, hI⟩ K next
  dsimp only at le1 hm hI ⊢
  refine nx_seq (nx_region (nv v_lss (nx_nil (nx_then (nx_seq ?_)))))
  refine nx_cond_dec rfl (fun c10 => ?_) (fun c10 => ?_)
  obtain ⟨x, rest, hd, hx⟩ := drop_of_lt (xs := l) (k := k) (by omega)
  have xr : l.drop (k + 1) = rest := by rw [← List.tail_drop, hd]; rfl
  rw [hd] at hI
  refine nx_skip (nx_then (nx_seq (nx_block (nx_seq (nx_region (nv v_move (nv v_assign (nx_nil (nx_then (nx_seq (nx_seq ?_)))))))))))
  refine nx_region (nv v_move (nv v_move (nv v_move ?_)))
  refine nx_op rfl (op_callD rfl rfl rfl (fun W hp => hf k x hx _ _ W le1 (by repeat (first | exact Suf.refl | apply Suf.keep | apply Suf.cons | apply Suf.keepN | apply Suf.app)) hp) (fun v15 G15 le15 ph15 => ?_))
  subst ph15
  refine nv (v_lookup keyStr x false (.own (by repeat (first | exact Take.here | apply Take.cons | apply Take.app)) hm) rfl rfl rfl (by rfl)) ?_
  refine nx_nil (nx_then ?_)
  refine nx_cond rfl (fun c16 => ?_) (fun c16 => ?_)
  refine nx_seq (nx_region (nv v_assign (nx_nil (nx_then (nx_ret (nx_then_ret (nx_in_ret (nx_then_ret (nx_then_ret (nx_in_ret (nx_then_ret ?_)))))))))))
  exact nx_ret1 rfl (.tmp rfl) (rt ((Gh.le.trans le1 le15)) (by rw [← hI]; simp only [twiceF]; rw [c16]; rfl))
  have hI' : twiceF rest (putK m x true) = twiceF l [] := by rw [← hI]; simp only [twiceF]; rw [c16]; rfl
  refine nx_skip (nx_then (nx_region (nv v_move (nv v_move (nv v_move ?_)))))
  refine nx_op rfl (op_callD rfl rfl rfl (fun W hp => hf k x hx _ _ W (Gh.le.trans le1 le15) (by repeat (first | exact Suf.refl | apply Suf.keep | apply Suf.cons | apply Suf.keepN | apply Suf.app)) hp) (fun v20 G20 le20 ph20 => ?_))
  subst ph20
  refine nx_op rfl (op_mapUpdate keyStr x true (venc := bool_) (by exact Take.here) hm rfl rfl rfl (fun o' hm' => ?_))
  refine nx_nil (nx_in _ (nx_then (nx_region (nv v_add (nv v_move (nx_nil (nx_then ?_)))))))
  exact nn (next (k + 1, G20, o', putK m x true) ⟨(Gh.le.trans le1 (Gh.le.trans le15 le20)), hm', (by rw [xr]; exact hI')⟩ (by dsimp only; omega))
  refine nx_exit (nx_then_exit (nx_then_exit (nx_in_eq (nx_then (nx_seq (nx_region (nv v_assign (nx_nil (nx_then (nx_ret ?_))))))))))
  exact nx_ret1 rfl (.tmp rfl) (rt (le1) (by rw [← hI, List.drop_eq_nil_of_le (by omega)]; rfl))
set_option maxRecDepth 20000 in
set_option maxHeartbeats 1000000 in
theorem chk1_ok {G : Gh} {H : List (Nat × Obj)} {W : World} (hp : Hp G H W) {A1 : Option Addr} {n1 c1 : Nat} {A2 : Option Addr} {n2 c2 : Nat} {A3 : Option Addr} {n3 c3 : Nat} {A4 : Option Addr} {n4 c4 : Nat} {p : Plan} (at_ : Plan.At G A1 n1 c1 A2 n2 c2 A3 n3 c3 A4 n4 c4 p) {b : Nat} (hm : (b, row [.slice A1 n1 c1, .slice A2 n2 c2, .slice A3 n3 c3, .slice A4 n4 c4, .int .i64 p.top, .int .i64 p.brake, .int .i64 p.margin, .int .i64 p.throw_, .bool p.hard] 27) ∈ H) {k : Nat} {x : Elem} (hx : p.elems[k]? = some x) :
    Calls Tryz.prog 125 ⟨[.int .i64 (k : Int), .pointer (some ⟨b, 0, none⟩)]⟩ W (RetS G H (.string x.name)) := by
  obtain ⟨xb, xo, xe, xk, xf0, xf1, xf2⟩ := get_Elem at_.h1 hx
  cases xe
  refine enter Tryz.func125 rfl Tryz.ntmps125 (Nat.le_of_ble_eq_true rfl) hp (nx_seq (nx_region (nv v_assign (nx_nil (nx_then (nx_seq (nx_region (nv v_fieldAddr (nv (v_load1 rfl rfl (Rd.own hm rfl)) (nv v_move (nv (v_indexAddr_nat rfl rfl rfl (by omega)) ?_)))))))))))
  refine nv v_fieldAddr (nv v_load1_s (nv v_assign (nx_nil (nx_then (nx_ret ?_)))))
  exact nx_ret1 rfl (.tmp rfl) (rs (rfl))
set_option maxRecDepth 20000 in
set_option maxHeartbeats 1000000 in
theorem chk2_ok {G : Gh} {H : List (Nat × Obj)} {W : World} (hp : Hp G H W) {A1 : Option Addr} {n1 c1 : Nat} {A2 : Option Addr} {n2 c2 : Nat} {A3 : Option Addr} {n3 c3 : Nat} {A4 : Option Addr} {n4 c4 : Nat} {p : Plan} (at_ : Plan.At G A1 n1 c1 A2 n2 c2 A3 n3 c3 A4 n4 c4 p) {b : Nat} (hm : (b, row [.slice A1 n1 c1, .slice A2 n2 c2, .slice A3 n3 c3, .slice A4 n4 c4, .int .i64 p.top, .int .i64 p.brake, .int .i64 p.margin, .int .i64 p.throw_, .bool p.hard] 27) ∈ H) {k : Nat} {x : Signal} (hx : p.signals[k]? = some x) :
    Calls Tryz.prog 126 ⟨[.int .i64 (k : Int), .pointer (some ⟨b, 0, none⟩)]⟩ W (RetS G H (.string x.name)) := by
  obtain ⟨xb, xo, xe, xk, xf0, xf1, xf2, xf3⟩ := get_Signal at_.h3 hx
  cases xe
  refine enter Tryz.func126 rfl Tryz.ntmps126 (Nat.le_of_ble_eq_true rfl) hp (nx_seq (nx_region (nv v_assign (nx_nil (nx_then (nx_seq (nx_region (nv v_fieldAddr (nv (v_load1 rfl rfl (Rd.own hm rfl)) (nv v_move (nv (v_indexAddr_nat rfl rfl rfl (by omega)) ?_)))))))))))
  refine nv v_fieldAddr (nv v_load1_s (nv v_assign (nx_nil (nx_then (nx_ret ?_)))))
  exact nx_ret1 rfl (.tmp rfl) (rs (rfl))
set_option maxRecDepth 20000 in
set_option maxHeartbeats 1000000 in
theorem chk3_ok {G : Gh} {H : List (Nat × Obj)} {W : World} (hp : Hp G H W) {A1 : Option Addr} {n1 c1 : Nat} {A2 : Option Addr} {n2 c2 : Nat} {A3 : Option Addr} {n3 c3 : Nat} {A4 : Option Addr} {n4 c4 : Nat} {p : Plan} (at_ : Plan.At G A1 n1 c1 A2 n2 c2 A3 n3 c3 A4 n4 c4 p) {b : Nat} (hm : (b, row [.slice A1 n1 c1, .slice A2 n2 c2, .slice A3 n3 c3, .slice A4 n4 c4, .int .i64 p.top, .int .i64 p.brake, .int .i64 p.margin, .int .i64 p.throw_, .bool p.hard] 27) ∈ H) {k : Nat} {x : Line} (hx : p.lines[k]? = some x) :
    Calls Tryz.prog 127 ⟨[.int .i64 (k : Int), .pointer (some ⟨b, 0, none⟩)]⟩ W (RetS G H (.string x.name)) := by
  obtain ⟨xb, xo, xA1, xn1, xc1, xe, xk, xf0, xf1, xat⟩ := get_Line at_.h4 hx
  cases xe
  refine enter Tryz.func127 rfl Tryz.ntmps127 (Nat.le_of_ble_eq_true rfl) hp (nx_seq (nx_region (nv v_assign (nx_nil (nx_then (nx_seq (nx_region (nv v_fieldAddr (nv (v_load1 rfl rfl (Rd.own hm rfl)) (nv v_move (nv (v_indexAddr_nat rfl rfl rfl (by omega)) ?_)))))))))))
  refine nv v_fieldAddr (nv v_load1_s (nv v_assign (nx_nil (nx_then (nx_ret ?_)))))
  exact nx_ret1 rfl (.tmp rfl) (rs (rfl))
end Go.Proofs.YtjckojnlapchoaaGreat
open Go Go.RowKit
namespace Go.Proofs.YtjckojnlapchoaaGreat
open Go.Proofs
def Mp (p : Plan) (m : List (Port × Port)) : Prop := ∀ k v, getK m k = some v → p.isPort v = true
theorem Mp.nil (p : Plan) : Mp p [] := by intro k v h; cases h
theorem Mp.put {p : Plan} {m : List (Port × Port)} (h : Mp p m) (k v : Port) (hv : p.isPort v = true) : Mp p (putK m k v) := by
  intro k' v' h'
  rw [getK_put] at h'
  split at h'
  · cases h'; exact hv
  · exact h k' v' h'
theorem Plan.isPort_elem {p : Plan} {x : Port} (h : p.isPort x = true) : ∃ k : Nat, x.elem = k ∧ k < p.elems.length ∧ 0 ≤ x.fin ∧ x.fin < 4 := by
  simp only [Plan.isPort, Bool.and_eq_true, decide_eq_true_eq] at h
  obtain ⟨⟨⟨h1, h2⟩, h3⟩, h4⟩ := h
  have := ends_le (p.kind x.elem)
  exact ⟨x.elem.toNat, by omega, by omega, h3, by omega⟩
def joinBad (p : Plan) (m : List (Port × Port)) (j : Join) : Bool := (getK m j.a).isSome || (getK m j.b).isSome || decide (j.a = j.b) || !p.isPort j.a || !p.isPort j.b
def joinF (p : Plan) : List Join → List (Port × Port) → Option (List (Port × Port))
  | [], m => some m
  | j :: r, m => if joinBad p m j then none else joinF p r (putK (putK m j.a j.b) j.b j.a)
def gateBad (p : Plan) (m : List (Port × Port)) (i : Int) (e : Elem) : Bool := decide (e.kind = 4) && (!(getK m ⟨i, 0⟩).isSome || decide (p.kind ((getK m ⟨i, 0⟩).getD ⟨0, 0⟩).elem = 4))
def gateF (p : Plan) (m : List (Port × Port)) : List Elem → Nat → Bool
  | [], _ => true
  | e :: r, i => if gateBad p m i e then false else gateF p m r (i + 1)
def joined (p : Plan) : Option (List (Port × Port)) := match joinF p p.joins [] with
  | none => none
  | some m => if gateF p m p.elems 0 then some m else none
theorem joined_no1 {p : Plan} (h : joinF p p.joins [] = none) : joined p = none := by unfold joined; rw [h]
theorem joined_no2 {p : Plan} {m : List (Port × Port)} (h : joinF p p.joins [] = some m) (g : gateF p m p.elems 0 = false) : joined p = none := by unfold joined; rw [h]; simp [g]
theorem joined_yes {p : Plan} {m : List (Port × Port)} (h : joinF p p.joins [] = some m) (g : gateF p m p.elems 0 = true) : joined p = some m := by unfold joined; rw [h]; simp [g]
def IsNext (o : Option (List (Port × Port))) (G : Gh) (v : Value) : Prop := match o with
  | none => v = .tuple #[.map none, .bool false]
  | some m => ∃ b, v = .tuple #[.map (some b), .bool true] ∧ GMap Port.val Port.val G b m
set_option maxRecDepth 20000 in
set_option maxHeartbeats 1000000 in
theorem joined_ok {G : Gh} {H : List (Nat × Obj)} {W : World} (hp : Hp G H W) {A1 : Option Addr} {n1 c1 : Nat} {A2 : Option Addr} {n2 c2 : Nat} {A3 : Option Addr} {n3 c3 : Nat} {A4 : Option Addr} {n4 c4 : Nat} {p : Plan} (at_ : Plan.At G A1 n1 c1 A2 n2 c2 A3 n3 c3 A4 n4 c4 p) : Calls Tryz.prog 128 ⟨[.agg ⟨[.slice A1 n1 c1, .slice A2 n2 c2, .slice A3 n3 c3, .slice A4 n4 c4, .int .i64 p.top, .int .i64 p.brake, .int .i64 p.margin, .int .i64 p.throw_, .bool p.hard]⟩]⟩ W (RetD G H (IsNext (joined p))) := by
  have l1 := at_.h1.length
  have l2 := at_.h2.length
  have l3 := at_.h3.length
  have l4 := at_.h4.length
  have r1 := Nat.le_trans at_.h1.cap at_.h1.room
  have r2 := Nat.le_trans at_.h2.cap at_.h2.room
  have r3 := Nat.le_trans at_.h3.cap at_.h3.room
  have r4 := Nat.le_trans at_.h4.cap at_.h4.room
  refine enter Tryz.func128 rfl Tryz.ntmps128 (Nat.le_of_ble_eq_true rfl) hp (nx_seq (nx_region ?_))
  refine nx_op rfl (op_box rfl rfl (fun b1 => ?_))
  refine nv v_assign (nv v_assign (nx_nil (nx_then (nx_seq (nx_region ?_)))))
  refine nx_op rfl (op_makeMap rfl (fun b15 => ?_))
  refine nv v_assign (nx_nil (nx_then (nx_seq (nx_seq (nx_region (nv v_fieldAddr (nv v_load1_o (nv v_len (nv v_move (nx_nil (nx_then ?_)))))))))))
  refine nx_block ?_
  refine nx_loop_v (σ := Nat × Obj × List (Port × Port)) [0, 1, 4, 15, 16, 17, 18] (fun s => [(19, .int .i64 (s.1 : Int))]) (fun _ => G) (fun s => (b15, s.2.1) :: _) (fun s => MapObj Port.val Port.val s.2.1 s.2.2 ∧ Mp p s.2.2 ∧ joinF p (p.joins.drop s.1) s.2.2 = joinF p p.joins []) (fun s => n2 - s.1) (0, _, []) (.cons rfl (.cons rfl (.cons rfl (.cons rfl (.cons rfl (.cons rfl (.cons rfl (.nil)))))))) ⟨rfl, trivial⟩ ⟨MapObj.new _ _ _, Mp.nil p, rfl⟩ rfl rfl ?_
  rintro ⟨k, o, m⟩ ⟨hm, hmp, hI⟩ K next
  dsimp only at hm hmp hI ⊢
  refine nx_seq (nx_region (nv v_lss (nx_nil (nx_then (nx_seq ?_)))))
  refine nx_cond_dec rfl (fun c20 => ?_) (fun c20 => ?_)
  obtain ⟨x, rest, hd, hx⟩ := drop_of_lt (xs := p.joins) (k := k) (by omega)
  obtain ⟨xb, xo, xe, xk, xr, xf0, xf1, xf2, xf3⟩ := next_Join at_.h2 hd
  cases xe
  rw [hd] at hI
  refine nx_skip (nx_then (nx_seq (nx_block (nx_seq (nx_region (nv (v_indexAddr_nat rfl rfl rfl (by omega)) (nv v_load_s ?_)))))))
  refine nx_op rfl (op_alloc rfl (fun b6 => ?_))
  refine st (k := nx_nil (nx_then (nx_seq (nx_region (nv v_move (nv v_fieldAddr (nv v_load_o ?_)))))))
  refine nv (v_lookup_ok keyOk_port x.a ⟨0, 0⟩ (.own (by repeat (first | exact Take.here | apply Take.cons | apply Take.app)) hm) rfl rfl rfl (by rfl)) ?_
  refine nv v_move (nv (v_extract rfl rfl rfl) (nv (v_extract rfl rfl rfl) ?_))
  refine nx_op rfl (op_alloc rfl (fun b7 => ?_))
  refine st (k := nv v_assign (nx_nil (nx_then (nx_seq (nx_region (nv v_move (nv v_fieldAddr (nv v_load_o ?_))))))))
  refine nv (v_lookup_ok keyOk_port x.b ⟨0, 0⟩ (.own (by repeat (first | exact Take.here | apply Take.cons | apply Take.app)) hm) rfl rfl rfl (by rfl)) ?_
  refine nv v_move (nv (v_extract rfl rfl rfl) (nv (v_extract rfl rfl rfl) ?_))
  refine nx_op rfl (op_alloc rfl (fun b9 => ?_))
  refine st (k := nv v_assign (nx_nil (nx_then (nx_seq (nx_seq (nx_region (nv v_move (nv v_move ?_))))))))
  refine nx_guard (t := 38) rfl (fun g38 => ?_) (fun g38 => ?_)
  refine nk (k := nv v_pick_t (nv v_move (nk (k := nk (k := nk (k := nk (k := nk (k := nv v_pick_t (nv v_move (nk (k := nk (k := ?_))))))))))))
  refine nk (k := nk (k := nk (k := nv v_pick_t (nv v_move (nk (k := nk (k := nk (k := nk (k := nk (k := nv v_pick_t (nx_nil ?_)))))))))))
  refine nx_then (nx_cond_t rfl ?_)
  have hbad : joinBad p m x = true := by simp_all [joinBad]
  refine nx_seq (nx_region (nv v_assign (nv v_assign (nx_nil (nx_then (nx_ret (nx_then_ret (nx_in_ret (nx_then_ret (nx_then_ret (nx_in_ret ?_)))))))))))
  refine nx_then_ret ?_
  have hno : joined p = none := joined_no1 (by rw [← hI]; simp only [joinF]; rw [hbad]; rfl)
  exact nx_ret2 rfl (.tmp rfl) (.tmp rfl) (rt ((Gh.le.refl _)) (by rw [hno]; rfl))
  refine nr v_move (nv v_pick_f (nv v_move ?_))
  refine nx_guard (t := 41) rfl (fun g41 => ?_) (fun g41 => ?_)
  refine nk (k := nk (k := nk (k := nk (k := nk (k := nv v_pick_t (nv v_move (nk (k := nk (k := nk (k := nk (k := nk (k := ?_))))))))))))
  refine nv v_pick_t (nv v_move (nk (k := nk (k := nk (k := nk (k := nk (k := nv v_pick_t (nx_nil (nx_then (nx_cond_t rfl ?_))))))))))
  have hbad : joinBad p m x = true := by simp_all [joinBad]
  refine nx_seq (nx_region (nv v_assign (nv v_assign (nx_nil (nx_then (nx_ret (nx_then_ret (nx_in_ret (nx_then_ret (nx_then_ret (nx_in_ret ?_)))))))))))
  refine nx_then_ret ?_
  have hno : joined p = none := joined_no1 (by rw [← hI]; simp only [joinF]; rw [hbad]; rfl)
  exact nx_ret2 rfl (.tmp rfl) (.tmp rfl) (rt ((Gh.le.refl _)) (by rw [hno]; rfl))
  refine nr v_fieldAddr (nr v_load_o (nr v_fieldAddr (nr v_load_o (nr (v_eql_T Port.cells x.a x.b rfl rfl rfl) (nv v_pick_f (nv v_move ?_))))))
  refine nx_guard_dec (t := 48) rfl (fun g48 => ?_) (fun g48 => ?_)
  refine nk (k := nk (k := nk (k := nk (k := nk (k := nv v_pick_t (nv v_move (nk (k := nk (k := nk (k := nk (k := nk (k := ?_))))))))))))
  refine nv v_pick_t (nx_nil (nx_then (nx_cond_t rfl ?_)))
  have hbad : joinBad p m x = true := by simp_all [joinBad]
  refine nx_seq (nx_region (nv v_assign (nv v_assign (nx_nil (nx_then (nx_ret (nx_then_ret (nx_in_ret (nx_then_ret (nx_then_ret (nx_in_ret ?_)))))))))))
  refine nx_then_ret ?_
  have hno : joined p = none := joined_no1 (by rw [← hI]; simp only [joinF]; rw [hbad]; rfl)
  exact nx_ret2 rfl (.tmp rfl) (.tmp rfl) (rt ((Gh.le.refl _)) (by rw [hno]; rfl))
  refine nr v_load_o (nr v_fieldAddr (nr v_load_o ?_))
  refine nx_op_run rfl rfl rfl (op_callS rfl rfl rfl (fun W hp => port_ok hp at_ x.a) ?_)
  refine nr v_not (nv v_pick_f (nv v_move ?_))
  refine nx_guard (t := 55) rfl (fun g55 => ?_) (fun g55 => ?_)
  refine nk (k := nk (k := nk (k := nk (k := nk (k := nv v_pick_t (nx_nil (nx_then (nx_cond_t rfl ?_))))))))
  have hbad : joinBad p m x = true := by simp_all [joinBad]
  refine nx_seq (nx_region (nv v_assign (nv v_assign (nx_nil (nx_then (nx_ret (nx_then_ret (nx_in_ret (nx_then_ret (nx_then_ret (nx_in_ret ?_)))))))))))
  refine nx_then_ret ?_
  have hno : joined p = none := joined_no1 (by rw [← hI]; simp only [joinF]; rw [hbad]; rfl)
  exact nx_ret2 rfl (.tmp rfl) (.tmp rfl) (rt ((Gh.le.refl _)) (by rw [hno]; rfl))
  refine nr v_load_o (nr v_fieldAddr (nr v_load_o ?_))
  refine nx_op_run rfl rfl rfl (op_callS rfl rfl rfl (fun W hp => port_ok hp at_ x.b) ?_)
  refine nr v_not (nv v_pick_f (nx_nil (nx_then ?_)))
  refine nx_cond rfl (fun c61 => ?_) (fun c61 => ?_)
  have hbad : joinBad p m x = true := by simp_all [joinBad]
  refine nx_seq (nx_region (nv v_assign (nv v_assign (nx_nil (nx_then (nx_ret (nx_then_ret (nx_in_ret (nx_then_ret (nx_then_ret (nx_in_ret ?_)))))))))))
  refine nx_then_ret ?_
  have hno : joined p = none := joined_no1 (by rw [← hI]; simp only [joinF]; rw [hbad]; rfl)
  exact nx_ret2 rfl (.tmp rfl) (.tmp rfl) (rt ((Gh.le.refl _)) (by rw [hno]; rfl))
  have hgood : joinBad p m x = false := by simp_all [joinBad]
  have ha : p.isPort x.a = true := by simp_all
  have hb' : p.isPort x.b = true := by simp_all
  refine nx_skip (nx_then (nf (b := b15) (k := dr_begin_cons 11 (.q 0 (.q 1 (.q 2 (.q 3 (.q 4 (.q 5 (.q 6 (.q 7 (.q 8 (.q 9 (.l 10 .done))))))))))) rfl (by kernel_rfl) (dr_q rfl rfl v_move (ic.cons _) (dr_q rfl rfl v_fieldAddr (ic.cons _) (dr_q rfl rfl v_load_o (ic.cons _) (dr_q rfl rfl v_move (ic.cons _) (dr_q rfl rfl v_fieldAddr (ic.cons _) (dr_q rfl rfl v_load_o (ic.cons _) (dr_q rfl rfl v_fieldAddr (ic.cons _) (dr_q rfl rfl v_load_o (ic.cons _) ?_)))))))))))
  refine dr_q rfl rfl v_fieldAddr (ic.cons _) (dr_q rfl rfl v_load_o (ic.cons _) (dr_l rfl rfl ?_))
  refine op_mapUpdate keyOk_port x.a x.b (by exact Take.here) hm rfl rfl rfl (fun o1 hm1 => ?_)
  refine dr_k (ic.cons _) (dr_end rfl ?_)
  refine nx_op rfl (op_mapUpdate keyOk_port x.b x.a (by exact Take.here) hm1 rfl rfl rfl (fun o2 hm2 => ?_))
  refine nx_nil (nx_np ?_)
  refine nx_in _ (nx_then (nx_region (nv v_add (nv v_move (nx_nil (nx_then ?_))))))
  exact nn (next (k + 1, o2, putK (putK m x.a x.b) x.b x.a) ⟨hm2, (hmp.put _ _ hb').put _ _ ha, (by rw [xr, ← hI]; simp only [joinF]; rw [hgood]; rfl)⟩ (by dsimp only; omega))
  refine nx_exit (nx_then_exit (nx_then_exit (nx_in_eq (nx_then (nx_seq (nx_seq (nx_region (nv v_fieldAddr (nv v_load1_o (nv v_len (nv v_move ?_)))))))))))
  refine nx_nil (nx_then (nx_block ?_))
  have hj : joinF p p.joins [] = some m := by rw [← hI, List.drop_eq_nil_of_le (by omega)]; rfl
  refine nx_loop_v (σ := Nat) [0, 1, 4, 15, 16, 17, 18, 19, 20, 73, 74, 75] (fun s => [(76, .int .i64 (s : Int))]) (fun _ => G) (fun _ => _) (fun s => gateF p m (p.elems.drop s) s = gateF p m p.elems 0) (fun s => n1 - s) 0 (.cons rfl (.cons rfl (.cons rfl (.cons rfl (.cons rfl (.cons rfl (.cons rfl (.cons rfl (.cons rfl (.cons rfl (.cons rfl (.cons rfl (.nil))))))))))))) ⟨rfl, trivial⟩ rfl rfl rfl ?_
  intro k hI K next
  refine nx_seq (nx_region (nv v_lss (nx_nil (nx_then (nx_seq ?_)))))
  refine nx_cond_dec rfl (fun c77 => ?_) (fun c77 => ?_)
  obtain ⟨x, rest, hd, hx⟩ := drop_of_lt (xs := p.elems) (k := k) (by omega)
  obtain ⟨xb, xo, xe, xk, xr, xf0, xf1, xf2⟩ := next_Elem at_.h1 hd
  cases xe
  rw [hd] at hI
  refine nx_skip (nx_then (nx_seq (nx_block (nx_seq (nx_region (nv v_move (nv (v_indexAddr_nat rfl rfl rfl (by omega)) (nv v_load_s ?_))))))))
  refine nx_op rfl (op_alloc rfl (fun b12 => ?_))
  refine nv v_assign (st (k := nx_nil (nx_then (nx_seq (nx_seq (nx_region (nv v_fieldAddr (nv v_load1_o (nv v_neq (nx_nil (nx_then ?_)))))))))))
  refine nx_cond_dec rfl (fun c83 => ?_) (fun c83 => ?_)
  have hok : gateBad p m k x = false := by simp_all [gateBad]
  refine nx_exit (nx_then_exit (nx_in_eq (nx_then (nx_region (nv v_add (nv v_move (nx_nil (nx_then ?_))))))))
  exact nn (next (k + 1) (by rw [xr, ← hI]; simp only [gateF]; rw [hok]; rfl) (by omega))
  refine nx_skip (nx_then (nx_seq (nx_region (nv v_move (nv v_move (nv (v_build rfl rfl rfl) ?_))))))
  refine nv (v_lookup_ok keyOk_port ⟨(k : Int), 0⟩ ⟨0, 0⟩ (.own (by repeat (first | exact Take.here | apply Take.cons | apply Take.app)) hm) rfl rfl rfl (by rfl)) ?_
  refine nv v_move (nv (v_extract rfl rfl rfl) (nv (v_extract rfl rfl rfl) ?_))
  refine nx_op rfl (op_alloc rfl (fun b13 => ?_))
  refine st (k := nv v_assign (nx_nil (nx_then (nx_seq (nx_region (nv v_move (nv v_not (nv v_move ?_))))))))
  refine nx_guard (t := 93) rfl (fun g93 => ?_) (fun g93 => ?_)
  refine nk (k := nk (k := nk (k := nk (k := nk (k := nk (k := nk (k := nk (k := nv v_pick_t (nx_nil (nx_then (nx_cond_t rfl ?_)))))))))))
  have hk4 : x.kind = 4 := by omega
  have hbad : gateBad p m k x = true := by
    first
    | (have hv0 : (getK m ⟨(k : Int), 0⟩).isSome = false := by simpa using g93
       simp [gateBad, hv0, hk4])
    | (have hkv : p.kind v.elem = 4 := by rw [hq, Plan.kind_nat hq1]; exact c102
       simp [gateBad, hv, hk4, hkv])
  refine nx_seq (nx_region (nv v_assign (nv v_assign (nx_nil (nx_then (nx_ret (nx_in_ret (nx_then_ret (nx_then_ret (nx_in_ret (nx_then_ret ?_)))))))))))
  have hno : joined p = none := joined_no2 hj (by rw [← hI]; simp only [gateF]; rw [hbad]; rfl)
  exact nx_ret2 rfl (.tmp rfl) (.tmp rfl) (rt ((Gh.le.refl _)) (by rw [hno]; rfl))
  obtain ⟨v, hv⟩ := Option.isSome_iff_exists.1 (by simpa using g93 : (getK m ⟨(k : Int), 0⟩).isSome = true)
  have hvp := hmp _ _ hv
  obtain ⟨q, hq, hq1, _⟩ := Plan.isPort_elem hvp
  obtain ⟨yb, yo, ye, yk, yf0, yf1, yf2⟩ := get_Elem at_.h1 (List.getElem?_eq_getElem (i := q) hq1)
  cases ye
  refine nr v_fieldAddr (nr v_load1_o (nr v_fieldAddr (nr v_load1_o ?_)))
  refine nr (v_indexAddr_nat (k := q) rfl rfl (by show some (Value.int .i64 ((getK m ⟨(k : Int), 0⟩).getD ⟨0, 0⟩).elem) = _; rw [hv, ← hq]; rfl) (by omega)) ?_
  refine nr v_fieldAddr (nr v_load1_s (nr v_eql (nv v_pick_f (nx_nil (nx_then ?_)))))
  refine nx_cond_dec rfl (fun c102 => ?_) (fun c102 => ?_)
  have hk4 : x.kind = 4 := by omega
  have hbad : gateBad p m k x = true := by
    first
    | (have hv0 : (getK m ⟨(k : Int), 0⟩).isSome = false := by simpa using g93
       simp [gateBad, hv0, hk4])
    | (have hkv : p.kind v.elem = 4 := by rw [hq, Plan.kind_nat hq1]; exact c102
       simp [gateBad, hv, hk4, hkv])
  refine nx_seq (nx_region (nv v_assign (nv v_assign (nx_nil (nx_then (nx_ret (nx_in_ret (nx_then_ret (nx_then_ret (nx_in_ret (nx_then_ret ?_)))))))))))
  have hno : joined p = none := joined_no2 hj (by rw [← hI]; simp only [gateF]; rw [hbad]; rfl)
  exact nx_ret2 rfl (.tmp rfl) (.tmp rfl) (rt ((Gh.le.refl _)) (by rw [hno]; rfl))
  have hok : gateBad p m k x = false := by
    have hkv : ¬ p.kind v.elem = 4 := by rw [hq, Plan.kind_nat hq1]; exact c102
    simp [gateBad, hv, hkv]
  refine nx_skip (nx_in _ (nx_then (nx_region (nv v_add (nv v_move (nx_nil (nx_then ?_)))))))
  exact nn (next (k + 1) (by rw [xr, ← hI]; simp only [gateF]; rw [hok]; rfl) (by omega))
  refine nx_exit (nx_then_exit (nx_then_exit (nx_in_eq (nx_then (nx_seq (nx_region (nv v_move (nv v_assign (nv v_assign (nx_nil (nx_then ?_)))))))))))
  refine nx_ret ?_
  have hyes : joined p = some m := joined_yes hj (by rw [← hI, List.drop_eq_nil_of_le (by omega)]; rfl)
  refine nx_keep ((by repeat (first | exact Take.here | apply Take.cons | apply Take.app))) (fun G9 le9 hg9 => ?_)
  exact nx_ret2 rfl (.tmp rfl) (.tmp rfl) (rt (le9) (by rw [hyes]; exact ⟨_, rfl, _, hg9, hm⟩))
end Go.Proofs.YtjckojnlapchoaaGreat
open Go Go.RowKit
namespace Go.Proofs.YtjckojnlapchoaaGreat
open Go.Proofs
def sigBad (p : Plan) (next : List (Port × Port)) (m : List (Port × Bool)) (s : Signal) : Bool :=
  !p.isPort s.at_ || (getK m s.at_).getD false || (decide (¬ p.kind s.at_.elem = 1) && decide (¬ p.kind s.at_.elem = 4)) || !(getK next s.at_).isSome || decide (p.kind ((getK next s.at_).getD ⟨0, 0⟩).elem = 4)
def sigF (p : Plan) (next : List (Port × Port)) : List Signal → List (Port × Bool) → Option (List (Port × Bool))
  | [], m => some m
  | s :: r, m => if sigBad p next m s then none else sigF p next r (putK m s.at_ true)
def gateS (m : List (Port × Bool)) : List Elem → Nat → Bool
  | [], _ => true
  | e :: r, i => if decide (e.kind = 4) && !(getK m ⟨(i : Int), 0⟩).getD false then false else gateS m r (i + 1)
def signalsOk (p : Plan) (next : List (Port × Port)) : Bool := match sigF p next p.signals [] with
  | none => false
  | some m => gateS m p.elems 0
theorem signals_no1 {p : Plan} {next : List (Port × Port)} (h : sigF p next p.signals [] = none) : signalsOk p next = false := by unfold signalsOk; rw [h]
theorem signals_yes {p : Plan} {next : List (Port × Port)} {m : List (Port × Bool)} (h : sigF p next p.signals [] = some m) : signalsOk p next = gateS m p.elems 0 := by unfold signalsOk; rw [h]
theorem sigF_port {p : Plan} {next : List (Port × Port)} : ∀ {l : List Signal} {m m' : List (Port × Bool)}, sigF p next l m = some m' → ∀ s, s ∈ l → p.isPort s.at_ = true
  | [], _, _, _, s, hs => absurd hs List.not_mem_nil
  | x :: l, m, m', h, s, hs => by
    unfold sigF at h
    split at h
    · cases h
    · rename_i hb
      rcases List.mem_cons.1 hs with rfl | hs
      · simp [sigBad] at hb; simp_all
      · exact sigF_port h s hs
theorem signals_port {p : Plan} {next : List (Port × Port)} (h : signalsOk p next = true) : ∀ s, s ∈ p.signals → p.isPort s.at_ = true := by
  unfold signalsOk at h
  split at h
  · cases h
  · rename_i m hm; exact sigF_port hm
set_option maxRecDepth 20000 in
set_option maxHeartbeats 1000000 in
theorem signalsOk_ok {G : Gh} {H : List (Nat × Obj)} {W : World} (hp : Hp G H W) {A1 : Option Addr} {n1 c1 : Nat} {A2 : Option Addr} {n2 c2 : Nat} {A3 : Option Addr} {n3 c3 : Nat} {A4 : Option Addr} {n4 c4 : Nat} {p : Plan} (at_ : Plan.At G A1 n1 c1 A2 n2 c2 A3 n3 c3 A4 n4 c4 p) {mn : Nat} {nx : List (Port × Port)} (hnx : GMap Port.val Port.val G mn nx) (hmp : Mp p nx) : Calls Tryz.prog 129 ⟨[.agg ⟨[.slice A1 n1 c1, .slice A2 n2 c2, .slice A3 n3 c3, .slice A4 n4 c4, .int .i64 p.top, .int .i64 p.brake, .int .i64 p.margin, .int .i64 p.throw_, .bool p.hard]⟩, .map (some mn)]⟩ W (RetS G H (.bool (signalsOk p nx))) := by
  have l1 := at_.h1.length
  have l2 := at_.h2.length
  have l3 := at_.h3.length
  have l4 := at_.h4.length
  have r1 := Nat.le_trans at_.h1.cap at_.h1.room
  have r2 := Nat.le_trans at_.h2.cap at_.h2.room
  have r3 := Nat.le_trans at_.h3.cap at_.h3.room
  have r4 := Nat.le_trans at_.h4.cap at_.h4.room
  refine enter Tryz.func129 rfl Tryz.ntmps129 (Nat.le_of_ble_eq_true rfl) hp (nx_seq (nx_region ?_))
  refine nx_op rfl (op_box rfl rfl (fun b2 => ?_))
  refine nv v_assign (nx_nil (nx_then (nx_seq (nx_region ?_))))
  refine nx_op rfl (op_makeMap rfl (fun b13 => ?_))
  refine nv v_assign (nx_nil (nx_then (nx_seq (nx_seq (nx_region (nv v_fieldAddr (nv v_load1_o (nv v_len (nv v_move (nx_nil (nx_then ?_)))))))))))
  refine nx_block ?_
  refine nx_loop_v (σ := Nat × Obj × List (Port × Bool)) [0, 1, 2, 5, 13, 14, 15, 16] (fun s => [(17, .int .i64 (s.1 : Int))]) (fun _ => G) (fun s => (b13, s.2.1) :: _) (fun s => MapObj Port.val bool_ s.2.1 s.2.2 ∧ sigF p nx (p.signals.drop s.1) s.2.2 = sigF p nx p.signals []) (fun s => n3 - s.1) (0, _, []) (.cons rfl (.cons rfl (.cons rfl (.cons rfl (.cons rfl (.cons rfl (.cons rfl (.cons rfl (.nil))))))))) ⟨rfl, trivial⟩ ⟨MapObj.new _ _ _, rfl⟩ rfl rfl ?_
  rintro ⟨k, o, m⟩ ⟨hm, hI⟩ K next
  dsimp only at hm hI ⊢
  refine nx_seq (nx_region (nv v_lss (nx_nil (nx_then (nx_seq ?_)))))
  refine nx_cond_dec rfl (fun c18 => ?_) (fun c18 => ?_)
  obtain ⟨x, rest, hd, hx⟩ := drop_of_lt (xs := p.signals) (k := k) (by omega)
  obtain ⟨xb, xo, xe, xk, xr, xf0, xf1, xf2, xf3⟩ := next_Signal at_.h3 hd
  cases xe
  rw [hd] at hI
  refine nx_skip (nx_then (nx_seq (nx_block (nx_seq (nx_region (nv (v_indexAddr_nat rfl rfl rfl (by omega)) (nv v_load_s ?_)))))))
  refine nx_op rfl (op_alloc rfl (fun b7 => ?_))
  refine st (k := nx_nil (nx_then (nx_seq (nx_seq (nx_region (nv v_load_o (nv v_fieldAddr (nv v_load_o ?_))))))))
  refine nx_op rfl (op_callS rfl rfl rfl (fun W hp => port_ok hp at_ x.at_) ?_)
  refine nv v_not (nv v_move ?_)
  refine nx_guard (t := 26) rfl (fun g26 => ?_) (fun g26 => ?_)
  refine nk (k := nk (k := nk (k := nk (k := nv v_pick_t (nx_nil (nx_then (nx_cond_t rfl ?_)))))))
  have hbad : sigBad p nx m x = true := by simp_all [sigBad]
  refine nx_seq (nx_region (nv v_assign (nx_nil (nx_then (nx_ret (nx_then_ret (nx_in_ret (nx_then_ret (nx_then_ret (nx_in_ret (nx_then_ret ?_)))))))))))
  exact nx_ret1 rfl (.tmp rfl) (rs (by rw [signals_no1 (by rw [← hI]; simp only [sigF]; rw [hbad]; rfl)]))
  refine nr v_move (nr v_fieldAddr (nr v_load_o ?_))
  refine nr (v_lookup keyOk_port x.at_ false (.own (by repeat (first | exact Take.here | apply Take.cons | apply Take.app)) hm) rfl rfl rfl (by rfl)) ?_
  refine nv v_pick_f (nx_nil (nx_then ?_))
  refine nx_cond rfl (fun c31 => ?_) (fun c31 => ?_)
  have hbad : sigBad p nx m x = true := by simp_all [sigBad]
  refine nx_seq (nx_region (nv v_assign (nx_nil (nx_then (nx_ret (nx_then_ret (nx_in_ret (nx_then_ret (nx_then_ret (nx_in_ret (nx_then_ret ?_)))))))))))
  exact nx_ret1 rfl (.tmp rfl) (rs (by rw [signals_no1 (by rw [← hI]; simp only [sigF]; rw [hbad]; rfl)]))
  have hport : p.isPort x.at_ = true := by simp_all
  obtain ⟨q, hq, hq1, _⟩ := Plan.isPort_elem hport
  obtain ⟨yb, yo, ye, yk, yf0, yf1, yf2⟩ := get_Elem at_.h1 (List.getElem?_eq_getElem (i := q) hq1)
  cases ye
  have hkq : p.kind x.at_.elem = (p.elems[q]).kind := by rw [hq, Plan.kind_nat hq1]
  refine nx_skip (nx_then (nx_seq (nx_seq (nx_region (nv v_fieldAddr (nv v_load1_o (nv v_fieldAddr (nv v_fieldAddr (nv v_load1_o ?_)))))))))
  refine nv (v_indexAddr_nat (k := q) rfl rfl (by rw [← hq]; rfl) (by omega)) ?_
  refine nv v_fieldAddr (nv v_load1_s (nv v_assign (nx_nil (nx_then (nx_seq (nx_region (nv v_move (nv v_neq (nv v_move ?_)))))))))
  refine nx_guard_dec (t := 42) rfl (fun g42 => ?_) (fun g42 => ?_)
  refine nr v_move (nr v_neq (nv v_pick_t (nx_nil (nx_then ?_))))
  refine nx_cond_dec rfl (fun c45 => ?_) (fun c45 => ?_)
  have hbad : sigBad p nx m x = true := by simp_all [sigBad]
  refine nx_seq (nx_region (nv v_assign (nx_nil (nx_then (nx_ret (nx_then_ret (nx_in_ret (nx_then_ret (nx_then_ret (nx_in_ret (nx_then_ret ?_)))))))))))
  exact nx_ret1 rfl (.tmp rfl) (rs (by rw [signals_no1 (by rw [← hI]; simp only [sigF]; rw [hbad]; rfl)]))
  refine nx_skip (nx_then (nx_seq (nx_region (nv v_move (nv v_fieldAddr (nv v_load_o (nv (v_lookup_ok keyOk_port x.at_ ⟨0, 0⟩ (.inl hnx) rfl rfl rfl (by rfl)) (nv v_move (nv (v_extract rfl rfl rfl) (nv (v_extract rfl rfl rfl) ?_))))))))))
  refine nx_op rfl (op_alloc rfl (fun b9 => ?_))
  refine st (k := nv v_assign (nx_nil (nx_then (nx_seq (nx_seq (nx_region (nv v_move (nv v_not (nv v_move ?_)))))))))
  refine nx_guard (t := 55) rfl (fun g55 => ?_) (fun g55 => ?_)
  refine nk (k := nk (k := nk (k := nk (k := nk (k := nk (k := nk (k := nk (k := nv v_pick_t (nx_nil (nx_then (nx_cond_t rfl ?_)))))))))))
  have hbad : sigBad p nx m x = true := by
    first
    | (have hv0 : (getK nx x.at_).isSome = false := by simpa using g55
       simp [sigBad, hv0])
    | (have hkv : p.kind v.elem = 4 := by rw [hku]; exact c64
       simp [sigBad, hv, hkv])
  refine nx_seq (nx_region (nv v_assign (nx_nil (nx_then (nx_ret (nx_then_ret (nx_in_ret (nx_then_ret (nx_then_ret (nx_in_ret (nx_then_ret ?_)))))))))))
  exact nx_ret1 rfl (.tmp rfl) (rs (by rw [signals_no1 (by rw [← hI]; simp only [sigF]; rw [hbad]; rfl)]))
  obtain ⟨v, hv⟩ := Option.isSome_iff_exists.1 (by simpa using g55 : (getK nx x.at_).isSome = true)
  obtain ⟨u, hu, hu1, _⟩ := Plan.isPort_elem (hmp _ _ hv)
  obtain ⟨zb, zo, ze, zk, zf0, zf1, zf2⟩ := get_Elem at_.h1 (List.getElem?_eq_getElem (i := u) hu1)
  cases ze
  have hku : p.kind v.elem = (p.elems[u]).kind := by rw [hu, Plan.kind_nat hu1]
  refine nr v_fieldAddr (nr v_load1_o (nr v_fieldAddr (nr v_load1_o ?_)))
  refine nr (v_indexAddr_nat (k := u) rfl rfl (by show some (Value.int .i64 ((getK nx x.at_).getD ⟨0, 0⟩).elem) = _; rw [hv, ← hu]; rfl) (by omega)) ?_
  refine nr v_fieldAddr (nr v_load1_s (nr v_eql (nv v_pick_f (nx_nil (nx_then ?_)))))
  refine nx_cond_dec rfl (fun c64 => ?_) (fun c64 => ?_)
  have hbad : sigBad p nx m x = true := by
    first
    | (have hv0 : (getK nx x.at_).isSome = false := by simpa using g55
       simp [sigBad, hv0])
    | (have hkv : p.kind v.elem = 4 := by rw [hku]; exact c64
       simp [sigBad, hv, hkv])
  refine nx_seq (nx_region (nv v_assign (nx_nil (nx_then (nx_ret (nx_then_ret (nx_in_ret (nx_then_ret (nx_then_ret (nx_in_ret (nx_then_ret ?_)))))))))))
  exact nx_ret1 rfl (.tmp rfl) (rs (by rw [signals_no1 (by rw [← hI]; simp only [sigF]; rw [hbad]; rfl)]))
  have hok : sigBad p nx m x = false := by
    have hkv : ¬ p.kind v.elem = 4 := by rw [hku]; exact c64
    have h1 : (getK m x.at_).getD false = false := by simp_all
    have h2 : (decide (¬ p.kind x.at_.elem = 1) && decide (¬ p.kind x.at_.elem = 4)) = false := by rw [hkq]; simp_all
    simp only [sigBad, hport, h1, h2, hv, Option.isSome_some, Option.getD_some, hkv, decide_false]; rfl
  refine nx_skip (nx_then (nx_region (nv v_move (nv v_fieldAddr (nv v_load_o ?_)))))
  refine nx_op rfl (op_mapUpdate keyOk_port x.at_ true (venc := bool_) (by repeat (first | exact Take.here | apply Take.cons | apply Take.app)) hm rfl rfl rfl (fun o1 hm1 => ?_))
  refine nx_nil (nx_in _ (nx_then (nx_region (nv v_add (nv v_move (nx_nil (nx_then ?_)))))))
  exact nn (next (k + 1, o1, putK m x.at_ true) ⟨hm1, (by rw [xr, ← hI]; simp only [sigF]; rw [hok]; rfl)⟩ (by dsimp only; omega))
  refine nk (k := nk (k := nv v_pick_f (nx_nil (nx_then (nx_cond_f rfl (nx_skip (nx_then (nx_seq (nx_region (nv v_move (nv v_fieldAddr ?_)))))))))))
  refine nv v_load_o (nv (v_lookup_ok keyOk_port x.at_ ⟨0, 0⟩ (.inl hnx) rfl rfl rfl (by rfl)) (nv v_move (nv (v_extract rfl rfl rfl) (nv (v_extract rfl rfl rfl) ?_))))
  refine nx_op rfl (op_alloc rfl (fun b9 => ?_))
  refine st (k := nv v_assign (nx_nil (nx_then (nx_seq (nx_seq (nx_region (nv v_move (nv v_not (nv v_move ?_)))))))))
  refine nx_guard (t := 55) rfl (fun g55 => ?_) (fun g55 => ?_)
  refine nk (k := nk (k := nk (k := nk (k := nk (k := nk (k := nk (k := nk (k := nv v_pick_t (nx_nil (nx_then (nx_cond_t rfl ?_)))))))))))
  have hbad : sigBad p nx m x = true := by
    first
    | (have hv0 : (getK nx x.at_).isSome = false := by simpa using g55
       simp [sigBad, hv0])
    | (have hkv : p.kind v.elem = 4 := by rw [hku]; exact c64
       simp [sigBad, hv, hkv])
  refine nx_seq (nx_region (nv v_assign (nx_nil (nx_then (nx_ret (nx_then_ret (nx_in_ret (nx_then_ret (nx_then_ret (nx_in_ret (nx_then_ret ?_)))))))))))
  exact nx_ret1 rfl (.tmp rfl) (rs (by rw [signals_no1 (by rw [← hI]; simp only [sigF]; rw [hbad]; rfl)]))
  obtain ⟨v, hv⟩ := Option.isSome_iff_exists.1 (by simpa using g55 : (getK nx x.at_).isSome = true)
  obtain ⟨u, hu, hu1, _⟩ := Plan.isPort_elem (hmp _ _ hv)
  obtain ⟨zb, zo, ze, zk, zf0, zf1, zf2⟩ := get_Elem at_.h1 (List.getElem?_eq_getElem (i := u) hu1)
  cases ze
  have hku : p.kind v.elem = (p.elems[u]).kind := by rw [hu, Plan.kind_nat hu1]
  refine nr v_fieldAddr (nr v_load1_o (nr v_fieldAddr (nr v_load1_o ?_)))
  refine nr (v_indexAddr_nat (k := u) rfl rfl (by show some (Value.int .i64 ((getK nx x.at_).getD ⟨0, 0⟩).elem) = _; rw [hv, ← hu]; rfl) (by omega)) ?_
  refine nr v_fieldAddr (nr v_load1_s (nr v_eql (nv v_pick_f (nx_nil (nx_then ?_)))))
  refine nx_cond_dec rfl (fun c64 => ?_) (fun c64 => ?_)
  have hbad : sigBad p nx m x = true := by
    first
    | (have hv0 : (getK nx x.at_).isSome = false := by simpa using g55
       simp [sigBad, hv0])
    | (have hkv : p.kind v.elem = 4 := by rw [hku]; exact c64
       simp [sigBad, hv, hkv])
  refine nx_seq (nx_region (nv v_assign (nx_nil (nx_then (nx_ret (nx_then_ret (nx_in_ret (nx_then_ret (nx_then_ret (nx_in_ret (nx_then_ret ?_)))))))))))
  exact nx_ret1 rfl (.tmp rfl) (rs (by rw [signals_no1 (by rw [← hI]; simp only [sigF]; rw [hbad]; rfl)]))
  have hok : sigBad p nx m x = false := by
    have hkv : ¬ p.kind v.elem = 4 := by rw [hku]; exact c64
    have h1 : (getK m x.at_).getD false = false := by simp_all
    have h2 : (decide (¬ p.kind x.at_.elem = 1) && decide (¬ p.kind x.at_.elem = 4)) = false := by rw [hkq]; simp_all
    simp only [sigBad, hport, h1, h2, hv, Option.isSome_some, Option.getD_some, hkv, decide_false]; rfl
  refine nx_skip (nx_then (nx_region (nv v_move (nv v_fieldAddr (nv v_load_o ?_)))))
  refine nx_op rfl (op_mapUpdate keyOk_port x.at_ true (venc := bool_) (by repeat (first | exact Take.here | apply Take.cons | apply Take.app)) hm rfl rfl rfl (fun o1 hm1 => ?_))
  refine nx_nil (nx_in _ (nx_then (nx_region (nv v_add (nv v_move (nx_nil (nx_then ?_)))))))
  exact nn (next (k + 1, o1, putK m x.at_ true) ⟨hm1, (by rw [xr, ← hI]; simp only [sigF]; rw [hok]; rfl)⟩ (by dsimp only; omega))
  refine nx_exit (nx_then_exit (nx_then_exit (nx_in_eq (nx_then (nx_seq (nx_seq (nx_region (nv v_fieldAddr (nv v_load1_o (nv v_len (nv v_move ?_)))))))))))
  refine nx_nil (nx_then (nx_block ?_))
  have hj : sigF p nx p.signals [] = some m := by rw [← hI, List.drop_eq_nil_of_le (by omega)]; rfl
  refine nx_loop_v (σ := Nat) [0, 1, 2, 5, 13, 14, 15, 16, 17, 18, 69, 70, 71] (fun s => [(72, .int .i64 (s : Int))]) (fun _ => G) (fun _ => _) (fun s => gateS m (p.elems.drop s) s = gateS m p.elems 0) (fun s => n1 - s) 0 (.cons rfl (.cons rfl (.cons rfl (.cons rfl (.cons rfl (.cons rfl (.cons rfl (.cons rfl (.cons rfl (.cons rfl (.cons rfl (.cons rfl (.cons rfl (.nil)))))))))))))) ⟨rfl, trivial⟩ rfl rfl rfl ?_
  intro k hI K next
  refine nx_seq (nx_region (nv v_lss (nx_nil (nx_then (nx_seq ?_)))))
  refine nx_cond_dec rfl (fun c73 => ?_) (fun c73 => ?_)
  obtain ⟨x, rest, hd, hx⟩ := drop_of_lt (xs := p.elems) (k := k) (by omega)
  obtain ⟨xb, xo, xe, xk, xr, xf0, xf1, xf2⟩ := next_Elem at_.h1 hd
  cases xe
  rw [hd] at hI
  refine nx_skip (nx_then (nx_seq (nx_block (nx_seq (nx_region (nv v_move (nv (v_indexAddr_nat rfl rfl rfl (by omega)) (nv v_load_s ?_))))))))
  refine nx_op rfl (op_alloc rfl (fun b12 => ?_))
  refine nv v_assign (st (k := nx_nil (nx_then (nx_seq (nx_region (nv v_fieldAddr (nv v_load1_o (nv v_eql (nv v_move ?_)))))))))
  refine nx_guard_dec (t := 80) rfl (fun g80 => ?_) (fun g80 => ?_)
  refine nr v_move (nr v_move (nr (v_build rfl rfl rfl) ?_))
  refine nr (v_lookup keyOk_port ⟨(k : Int), 0⟩ false (.own (by repeat (first | exact Take.here | apply Take.cons | apply Take.app)) hm) rfl rfl rfl (by rfl)) ?_
  refine nr v_not (nv v_pick_t (nx_nil (nx_then ?_)))
  refine nx_cond rfl (fun c86 => ?_) (fun c86 => ?_)
  have hbad : (decide (x.kind = 4) && !(getK m ⟨(k : Int), 0⟩).getD false) = true := by simp_all
  refine nx_seq (nx_region (nv v_assign (nx_nil (nx_then (nx_ret (nx_in_ret (nx_then_ret (nx_then_ret (nx_in_ret (nx_then_ret ?_))))))))))
  exact nx_ret1 rfl (.tmp rfl) (rs (by (rw [signals_yes hj, ← hI]; simp only [gateS]; rw [hbad]; rfl)))
  have hok : (decide (x.kind = 4) && !(getK m ⟨(k : Int), 0⟩).getD false) = false := by simp_all
  refine nx_skip (nx_in _ (nx_then (nx_region (nv v_add (nv v_move (nx_nil (nx_then ?_)))))))
  exact nn (next (k + 1) (by rw [xr, ← hI]; simp only [gateS]; rw [hok]; rfl) (by omega))
  refine nk (k := nk (k := nk (k := nk (k := nk (k := nv v_pick_f (nx_nil (nx_then (nx_cond_f rfl ?_))))))))
  have hok : (decide (x.kind = 4) && !(getK m ⟨(k : Int), 0⟩).getD false) = false := by simp_all
  refine nx_skip (nx_in _ (nx_then (nx_region (nv v_add (nv v_move (nx_nil (nx_then ?_)))))))
  exact nn (next (k + 1) (by rw [xr, ← hI]; simp only [gateS]; rw [hok]; rfl) (by omega))
  refine nx_exit (nx_then_exit (nx_then_exit (nx_in_eq (nx_then (nx_seq (nx_region (nv v_assign (nx_nil (nx_then (nx_ret ?_))))))))))
  exact nx_ret1 rfl (.tmp rfl) (rs (by (rw [signals_yes hj, ← hI, List.drop_eq_nil_of_le (by omega)]; rfl)))
def look (nx : List (Port × Port)) (a e : Int) : Port := (getK nx ⟨a, e⟩).getD ⟨0, 0⟩
def rowStep (nx : List (Port × Port)) (a b out e : Int) : Int := if (getK nx ⟨a, e⟩).isSome && decide ((look nx a e).elem = b) then e else out
def rowOut (nx : List (Port × Port)) (a b : Int) : Int := rowStep nx a b (rowStep nx a b (-1) 1) 0
def rowGo (nx : List (Port × Port)) : Int → Int → List Int → Bool
  | _, _, [] => true
  | out, prev, e :: r => if !(getK nx ⟨prev, out⟩).isSome || decide (¬ (look nx prev out).elem = e) then false else rowGo nx (1 - (look nx prev out).fin) e r
def rowOk (nx : List (Port × Port)) : List Int → Bool
  | a :: b :: r => if rowOut nx a b < 0 then false else rowGo nx (rowOut nx a b) a (b :: r)
  | _ => true
theorem rowStep_range (nx : List (Port × Port)) (a b out e : Int) (h : -1 ≤ out ∧ out ≤ 1) (h' : 0 ≤ e ∧ e ≤ 1) : -1 ≤ rowStep nx a b out e ∧ rowStep nx a b out e ≤ 1 := by
  unfold rowStep; split <;> omega
set_option maxRecDepth 20000 in
set_option maxHeartbeats 1000000 in
theorem row_ok {G : Gh} {H : List (Nat × Obj)} {W : World} (hp : Hp G H W) {A : Option Addr} {n c : Nat} {l : List Int} (hs : Sl tInt G A n c l) {p : Plan} {mn : Nat} {nx : List (Port × Port)} (hnx : GMap Port.val Port.val G mn nx) (hmp : Mp p nx) : Calls Tryz.prog 173 ⟨[.slice A n c, .map (some mn)]⟩ W (RetS G H (.bool (rowOk nx l))) := by
  have hl := hs.length
  have hb := Nat.le_trans hs.cap hs.room
  refine enter Tryz.func173 rfl Tryz.ntmps173 (Nat.le_of_ble_eq_true rfl) hp (nx_seq (nx_region (nv v_assign (nx_nil (nx_then (nx_seq (nx_seq (nx_region (nv v_move (nv v_len (nv v_lss ?_)))))))))))
  refine nx_nil (nx_then ?_)
  refine nx_cond_dec rfl (fun c14 => ?_) (fun c14 => ?_)
  have hyes : rowOk nx l = true := by
    match l, hl with
    | [], _ => rfl
    | [_], _ => rfl
    | _ :: _ :: _, h => simp at h; omega
  refine nx_seq (nx_region (nv v_assign (nx_nil (nx_then (nx_ret (nx_then_ret ?_))))))
  exact nx_ret1 rfl (.tmp rfl) (rs (by (rw [hyes]; done)))
  obtain ⟨a, r0, hd0, ha⟩ := drop_of_lt (xs := l) (k := 0) (by omega)
  obtain ⟨b, r1, hd1, hb1⟩ := drop_of_lt (xs := l) (k := 1) (by omega)
  obtain ⟨xb, xo, xe, xk, xf0⟩ := get_Int hs ha
  cases xe
  obtain ⟨yb, yo, ye, yk, yf0⟩ := get_Int hs hb1
  cases ye
  have hl2 : l = a :: b :: r1 := by
    have h0 : l = a :: r0 := by simpa using hd0
    have h1 : l.drop 1 = r0 := by rw [h0]; rfl
    rw [hd1] at h1; rw [h0, ← h1]
  refine nx_skip (nx_then (nx_seq (nx_region (nv v_assign (nx_nil (nx_then (nx_seq (nx_seq (nx_region (nv v_assign (nx_nil ?_)))))))))))
  refine nx_then (nx_block ?_)
  refine nx_loop_v (σ := Int × Int) [0, 1, 4, 12, 13, 14] (fun s => [(6, .int .i64 s.1), (5, .int .i64 s.2)]) (fun _ => G) (fun _ => _) (fun s => -1 ≤ s.1 ∧ ((s.1 = 1 ∧ s.2 = -1) ∨ (s.1 = 0 ∧ s.2 = rowStep nx a b (-1) 1) ∨ (s.1 = -1 ∧ s.2 = rowOut nx a b))) (fun s => (s.1 + 1).toNat) (1, -1) (.cons rfl (.cons rfl (.cons rfl (.cons rfl (.cons rfl (.cons rfl (.nil))))))) ⟨rfl, rfl, trivial⟩ ⟨by omega, .inl ⟨rfl, rfl⟩⟩ rfl rfl ?_
  rintro ⟨e, out⟩ ⟨hge, hI⟩ K next
  dsimp only at hge hI ⊢
  refine nx_seq (nx_seq (nx_region (nv v_move (nv v_geq (nx_nil (nx_then ?_))))))
  refine nx_cond_dec rfl (fun c16 => ?_) (fun c16 => ?_)
  refine nx_skip (nx_then (nx_seq (nx_block (nx_seq (nx_region (nv v_move (nv v_move (nv (v_indexAddr_nat (k := 0) rfl rfl rfl (by omega)) (nv v_load1_s (nv v_move (nv (v_build rfl rfl rfl) ?_)))))))))))
  refine nv (v_lookup_ok keyOk_port ⟨a, e⟩ ⟨0, 0⟩ (.inl hnx) rfl rfl rfl (by rfl)) (nv v_move (nv (v_extract rfl rfl rfl) (nv (v_extract rfl rfl rfl) ?_)))
  refine nx_op rfl (op_alloc rfl (fun b7 => ?_))
  refine st (k := nv v_assign (nx_nil (nx_then (nx_seq (dr_begin 9 (.q 0 (.q 1 (.q 2 (.q 3 (.q 4 (.q 5 (.q 6 (.q 7 (.q 8 .done))))))))) rfl (by kernel_rfl) (dr_q rfl rfl v_move ic (dr_q rfl rfl v_move ic ?_)))))))
  refine nx_guard (t := 30) rfl (fun g30 => ?_) (fun g30 => ?_)
  refine dr_q_run rfl rfl rfl rfl v_fieldAddr ic (dr_q_run rfl rfl rfl rfl v_load1_o ic (dr_q_run rfl rfl rfl rfl v_move ic (dr_q_run rfl rfl rfl rfl (v_indexAddr_nat (k := 1) rfl rfl rfl (by omega)) ic (dr_q_run rfl rfl rfl rfl v_load1_s ic (dr_q_run rfl rfl rfl rfl v_eql ic (dr_q rfl rfl v_pick_t ic (dr_end rfl ?_)))))))
  refine nx_nil (nx_np ?_)
  refine nx_then ?_
  refine nx_cond_dec rfl (fun c37 => ?_) (fun c37 => ?_)
  refine nx_region (nv v_move (nv v_assign (nx_nil (nx_in _ (nx_then (nx_region (nv v_move (nv v_sub (nv v_assign (nx_nil (nx_then ?_)))))))))))
  have hstep : rowStep nx a b out e = e := by simp_all [rowStep, look]
  have hge0 : 0 ≤ e := c16
  exact nn (next (e - 1, e) ⟨(by dsimp only; omega), (by dsimp only; rcases hI with ⟨h1, h2⟩ | ⟨h1, h2⟩ | ⟨h1, h2⟩; right; left; subst h1; subst h2; exact ⟨rfl, hstep.symm⟩; right; right; subst h1; subst h2; exact ⟨rfl, hstep.symm⟩; omega)⟩ (by dsimp only; omega))
  refine nx_skip (nx_in _ (nx_then (nx_region (nv v_move (nv v_sub (nv v_assign (nx_nil (nx_then ?_))))))))
  have hstep : rowStep nx a b out e = out := by simp_all [rowStep, look]
  have hge0 : 0 ≤ e := c16
  exact nn (next (e - 1, out) ⟨(by dsimp only; omega), (by dsimp only; rcases hI with ⟨h1, h2⟩ | ⟨h1, h2⟩ | ⟨h1, h2⟩; right; left; subst h1; subst h2; exact ⟨rfl, hstep.symm⟩; right; right; subst h1; exact ⟨rfl, (by unfold rowOut; rw [← h2]; exact hstep.symm)⟩; omega)⟩ (by dsimp only; omega))
  refine dk (k := dk (k := dk (k := dk (k := dk (k := dk (k := dr_q rfl rfl v_pick_f ic (dr_end rfl ?_)))))))
  refine nx_nil (nx_np ?_)
  refine nx_then (nx_cond_f rfl (nx_skip (nx_in _ (nx_then (nx_region (nv v_move (nv v_sub (nv v_assign (nx_nil (nx_then ?_))))))))))
  have hstep : rowStep nx a b out e = out := by simp_all [rowStep, look]
  have hge0 : 0 ≤ e := c16
  exact nn (next (e - 1, out) ⟨(by dsimp only; omega), (by dsimp only; rcases hI with ⟨h1, h2⟩ | ⟨h1, h2⟩ | ⟨h1, h2⟩; right; left; subst h1; subst h2; exact ⟨rfl, hstep.symm⟩; right; right; subst h1; exact ⟨rfl, (by unfold rowOut; rw [← h2]; exact hstep.symm)⟩; omega)⟩ (by dsimp only; omega))
  refine nx_exit (nx_then_exit (nx_then_exit (nx_in_eq (nx_then (nx_seq (nx_seq (nx_region (nv v_move (nv v_lss (nx_nil (nx_then ?_)))))))))))
  refine nx_cond_dec rfl (fun c40 => ?_) (fun c40 => ?_)
  have hout : out = rowOut nx a b := by omega
  have hno : rowOk nx l = false := by rw [hl2]; exact if_pos (by omega)
  refine nx_seq (nx_region (nv v_assign (nx_nil (nx_then (nx_ret (nx_then_ret ?_))))))
  exact nx_ret1 rfl (.tmp rfl) (rs (by (rw [hno]; done)))
  have hout : out = rowOut nx a b := by omega
  have hyes : rowOk nx l = rowGo nx (rowOut nx a b) a (b :: r1) := by rw [hl2]; exact if_neg (by omega)
  have hrng : -1 ≤ rowOut nx a b ∧ rowOut nx a b ≤ 1 := rowStep_range _ _ _ _ _ (rowStep_range _ _ _ _ _ (by omega) (by omega)) (by omega)
  refine nx_skip (nx_then (nx_seq (nx_seq (nx_region (nv v_assign (nx_nil (nx_then (nx_block ?_))))))))
  refine nx_loop_v (σ := Nat × Int) [0, 1, 6, 12, 13, 14, 15, 16, 39, 40] (fun s => [(9, .int .i64 ((s.1 : Int) + 1)), (5, .int .i64 s.2)]) (fun _ => G) (fun _ => _) (fun s => ∃ q, l[s.1]? = some q ∧ rowGo nx s.2 q (l.drop (s.1 + 1)) = rowOk nx l) (fun s => n - s.1) (0, out) (.cons rfl (.cons rfl (.cons rfl (.cons rfl (.cons rfl (.cons rfl (.cons rfl (.cons rfl (.cons rfl (.cons rfl (.nil))))))))))) ⟨rfl, rfl, trivial⟩ ⟨a, ha, (by rw [hyes, hd1, hout])⟩ rfl rfl ?_
  rintro ⟨k, o2⟩ ⟨q, hq, hI⟩ K next
  dsimp only at hq hI ⊢
  refine nx_seq (nx_seq (nx_region (nv v_move (nv v_move (nv v_len (nv v_lss (nx_nil (nx_then ?_))))))))
  refine nx_cond_dec rfl (fun c44 => ?_) (fun c44 => ?_)
  obtain ⟨z, rest, hd, hz⟩ := drop_of_lt (xs := l) (k := k + 1) (by omega)
  obtain ⟨ub, uo, ue, uk, uf0⟩ := get_Int hs hq
  cases ue
  obtain ⟨vb, vo, ve, vk, vf0⟩ := get_Int hs hz
  cases ve
  rw [hd] at hI
  have hrest : l.drop (k + 1 + 1) = rest := by rw [← List.tail_drop, hd]; rfl
  refine nx_skip (nx_then (nx_seq (nx_block (nx_seq (nx_region (nv v_move (nv v_move (nv v_move (nv v_sub ?_)))))))))
  refine nv (v_indexAddr_nat (k := k) rfl rfl (by show some (Value.int .i64 ((k : Int) + 1 - 1)) = _; rw [Int.add_sub_cancel]) (by omega)) ?_
  refine nv v_load1_s (nv v_move (nv (v_build rfl rfl rfl) (nv (v_lookup_ok keyOk_port ⟨q, o2⟩ ⟨0, 0⟩ (.inl hnx) rfl rfl rfl (by rfl)) (nv v_move (nv (v_extract rfl rfl rfl) (nv (v_extract rfl rfl rfl) ?_))))))
  refine nx_op rfl (op_alloc rfl (fun b10 => ?_))
  refine st (k := nv v_assign (nx_nil (nx_then (nx_seq (nx_seq (dr_begin 11 (.q 0 (.q 1 (.q 2 (.q 3 (.q 4 (.q 5 (.q 6 (.q 7 (.q 8 (.q 9 (.q 10 .done))))))))))) rfl (by kernel_rfl) (dr_q rfl rfl v_move ic (dr_q rfl rfl v_not ic (dr_q rfl rfl v_move ic ?_)))))))))
  refine nx_guard (t := 61) rfl (fun g61 => ?_) (fun g61 => ?_)
  refine dk (k := dk (k := dk (k := dk (k := dk (k := dk (k := dk (k := dr_q rfl rfl v_pick_t ic (dr_end rfl ?_))))))))
  refine nx_nil (nx_np ?_)
  refine nx_then (nx_cond_t rfl ?_)
  have hbad : (!(getK nx ⟨q, o2⟩).isSome || decide (¬ (look nx q o2).elem = z)) = true := by simp_all [look]
  refine nx_seq (nx_region (nv v_assign (nx_nil (nx_then (nx_ret (nx_then_ret (nx_in_ret (nx_then_ret (nx_then_ret (nx_in_ret (nx_then_ret ?_)))))))))))
  exact nx_ret1 rfl (.tmp rfl) (rs (by (rw [← hI]; simp only [rowGo]; rw [hbad]; rfl)))
  refine dr_q_run rfl rfl rfl rfl v_fieldAddr ic (dr_q_run rfl rfl rfl rfl v_load1_o ic (dr_q_run rfl rfl rfl rfl v_move ic (dr_q_run rfl rfl rfl rfl v_move ic (dr_q_run rfl rfl rfl rfl (v_indexAddr_nat (k := k + 1) rfl rfl rfl (by omega)) ic (dr_q_run rfl rfl rfl rfl v_load1_s ic (dr_q_run rfl rfl rfl rfl v_neq ic (dr_q rfl rfl v_pick_f ic (dr_end rfl ?_))))))))
  refine nx_nil (nx_np ?_)
  refine nx_then ?_
  refine nx_cond_dec rfl (fun c69 => ?_) (fun c69 => ?_)
  have hbad : (!(getK nx ⟨q, o2⟩).isSome || decide (¬ (look nx q o2).elem = z)) = true := by simp_all [look]
  refine nx_seq (nx_region (nv v_assign (nx_nil (nx_then (nx_ret (nx_then_ret (nx_in_ret (nx_then_ret (nx_then_ret (nx_in_ret (nx_then_ret ?_)))))))))))
  exact nx_ret1 rfl (.tmp rfl) (rs (by (rw [← hI]; simp only [rowGo]; rw [hbad]; rfl)))
  have hok : (!(getK nx ⟨q, o2⟩).isSome || decide (¬ (look nx q o2).elem = z)) = false := by simp_all [look]
  obtain ⟨w, hw⟩ := Option.isSome_iff_exists.1 (by simpa using g61 : (getK nx ⟨q, o2⟩).isSome = true)
  obtain ⟨_, _, _, hw1, hw2⟩ := Plan.isPort_elem (hmp _ _ hw)
  have hfin : ((getK nx ⟨q, o2⟩).getD ⟨0, 0⟩).fin = w.fin := by rw [hw]; rfl
  refine nx_skip (nx_then (nx_region (nv v_fieldAddr (nv v_load1_o (nv v_sub (nv v_assign (nx_nil (nx_in _ (nx_then (nx_region (nv v_move ?_)))))))))))
  refine nv v_add (nv v_assign (nx_nil (nx_then ?_)))
  exact nn (next (k + 1, 1 - (look nx q o2).fin) ⟨z, hz, (by rw [hrest, ← hI]; simp only [rowGo]; rw [hok]; rfl)⟩ (by dsimp only; omega))
  refine nx_exit (nx_then_exit (nx_then_exit (nx_in_eq (nx_then (nx_seq (nx_region (nv v_assign (nx_nil (nx_then (nx_ret ?_))))))))))
  exact nx_ret1 rfl (.tmp rfl) (rs (by (rw [← hI, List.drop_eq_nil_of_le (by omega)]; rfl)))
def elBad (p : Plan) (m : List (Int × Bool)) (e : Int) : Bool := decide (e < 0) || decide ((p.elems.length : Int) ≤ e) || decide (¬ p.kind e = 1) || (getK m e).getD false
def elF (p : Plan) : List Int → List (Int × Bool) → Option (List (Int × Bool))
  | [], m => some m
  | e :: r, m => if elBad p m e then none else elF p r (putK m e true)
def lineF (p : Plan) (nx : List (Port × Port)) : List Line → List (Int × Bool) → Bool
  | [], _ => true
  | l :: r, m => if l.elems.length = 0 then false else match elF p l.elems m with
    | none => false
    | some m' => if rowOk nx l.elems then lineF p nx r m' else false
def linesOk (p : Plan) (nx : List (Port × Port)) : Bool := lineF p nx p.lines []
set_option maxRecDepth 20000 in
set_option maxHeartbeats 1000000 in
theorem linesOk_ok {G : Gh} {H : List (Nat × Obj)} {W : World} (hp : Hp G H W) {A1 : Option Addr} {n1 c1 : Nat} {A2 : Option Addr} {n2 c2 : Nat} {A3 : Option Addr} {n3 c3 : Nat} {A4 : Option Addr} {n4 c4 : Nat} {p : Plan} (at_ : Plan.At G A1 n1 c1 A2 n2 c2 A3 n3 c3 A4 n4 c4 p) {mn : Nat} {nx : List (Port × Port)} (hnx : GMap Port.val Port.val G mn nx) (hmp : Mp p nx) : Calls Tryz.prog 130 ⟨[.agg ⟨[.slice A1 n1 c1, .slice A2 n2 c2, .slice A3 n3 c3, .slice A4 n4 c4, .int .i64 p.top, .int .i64 p.brake, .int .i64 p.margin, .int .i64 p.throw_, .bool p.hard]⟩, .map (some mn)]⟩ W (RetS G H (.bool (linesOk p nx))) := by
  have l1 := at_.h1.length
  have l2 := at_.h2.length
  have l3 := at_.h3.length
  have l4 := at_.h4.length
  have r1 := Nat.le_trans at_.h1.cap at_.h1.room
  have r2 := Nat.le_trans at_.h2.cap at_.h2.room
  have r3 := Nat.le_trans at_.h3.cap at_.h3.room
  have r4 := Nat.le_trans at_.h4.cap at_.h4.room
  refine enter Tryz.func130 rfl Tryz.ntmps130 (Nat.le_of_ble_eq_true rfl) hp (nx_seq (nx_region ?_))
  refine nx_op rfl (op_box rfl rfl (fun b2 => ?_))
  refine nv v_assign (nx_nil (nx_then (nx_seq (nx_region ?_))))
  refine nx_op rfl (op_makeMap rfl (fun b10 => ?_))
  refine nv v_assign (nx_nil (nx_then (nx_seq (nx_seq (nx_region (nv v_fieldAddr (nv v_load1_o (nv v_len (nv v_move (nx_nil (nx_then ?_)))))))))))
  refine nx_block ?_
  refine nx_loop_v (σ := Nat × Obj × List (Int × Bool)) [0, 1, 2, 5, 10, 11, 12, 13] (fun s => [(14, .int .i64 (s.1 : Int))]) (fun _ => G) (fun s => (b10, s.2.1) :: _) (fun s => MapObj int_ bool_ s.2.1 s.2.2 ∧ lineF p nx (p.lines.drop s.1) s.2.2 = linesOk p nx) (fun s => n4 - s.1) (0, _, []) (.cons rfl (.cons rfl (.cons rfl (.cons rfl (.cons rfl (.cons rfl (.cons rfl (.cons rfl (.nil))))))))) ⟨rfl, trivial⟩ ⟨MapObj.new _ _ _, rfl⟩ rfl rfl ?_
  rintro ⟨k, o, m⟩ ⟨hm, hI⟩ K next
  dsimp only at hm hI ⊢
  refine nx_seq (nx_region (nv v_lss (nx_nil (nx_then (nx_seq ?_)))))
  refine nx_cond_dec rfl (fun c15 => ?_) (fun c15 => ?_)
  obtain ⟨x, rest, hd, hx⟩ := drop_of_lt (xs := p.lines) (k := k) (by omega)
  obtain ⟨xb, xo, xA1, xn1, xc1, xe, xk, xr, xf0, xf1, xat⟩ := next_Line at_.h4 hd
  cases xe
  rw [hd] at hI
  have hxl := xat.h1.length
  have hxb := Nat.le_trans xat.h1.cap xat.h1.room
  refine nx_skip (nx_then (nx_seq (nx_block (nx_seq (nx_region (nv (v_indexAddr_nat rfl rfl rfl (by omega)) (nv v_load_s ?_)))))))
  refine nx_op rfl (op_alloc rfl (fun b7 => ?_))
  refine st (k := nx_nil (nx_then (nx_seq (nx_seq (nx_region (nv v_fieldAddr (nv v_load1_o (nv v_len (nv v_eql (nx_nil (nx_then ?_)))))))))))
  refine nx_cond_dec rfl (fun c21 => ?_) (fun c21 => ?_)
  have hno : linesOk p nx = false := by rw [← hI]; simp only [lineF]; rw [if_pos (by omega)]
  refine nx_seq (nx_region (nv v_assign (nx_nil (nx_then (nx_ret (nx_then_ret (nx_in_ret (nx_then_ret (nx_then_ret (nx_in_ret (nx_then_ret ?_)))))))))))
  exact nx_ret1 rfl (.tmp rfl) (rs (by (rw [hno]; done)))
  refine nx_skip (nx_then (nx_seq (nx_seq (nx_region (nv v_fieldAddr (nv v_load1_o (nv v_len (nv v_move (nx_nil (nx_then (nx_block ?_)))))))))))
  refine nf (b := b10) (k := ?_)
  refine nx_loop_v (σ := Nat × Obj × List (Int × Bool)) [0, 1, 2, 5, 7, 10, 11, 12, 13, 14, 15, 16, 17, 18, 19, 20, 21, 22, 23, 24] (fun s => [(25, .int .i64 (s.1 : Int))]) (fun _ => G) (fun s => (b10, s.2.1) :: _) (fun s => MapObj int_ bool_ s.2.1 s.2.2 ∧ elF p (x.elems.drop s.1) s.2.2 = elF p x.elems m) (fun s => xn1 - s.1) (0, o, m) (.cons rfl (.cons rfl (.cons rfl (.cons rfl (.cons rfl (.cons rfl (.cons rfl (.cons rfl (.cons rfl (.cons rfl (.cons rfl (.cons rfl (.cons rfl (.cons rfl (.cons rfl (.cons rfl (.cons rfl (.cons rfl (.cons rfl (.cons rfl (.nil))))))))))))))))))))) ⟨rfl, trivial⟩ ⟨hm, rfl⟩ rfl rfl ?_
  rintro ⟨k2, o2, m2⟩ ⟨hm2, hI2⟩ K2 next2
  dsimp only at hm2 hI2 ⊢
  refine nx_seq (nx_region (nv v_lss (nx_nil (nx_then (nx_seq ?_)))))
  refine nx_cond_dec rfl (fun c26 => ?_) (fun c26 => ?_)
  obtain ⟨y, rest2, hd2, hy⟩ := drop_of_lt (xs := x.elems) (k := k2) (by omega)
  obtain ⟨yb, yo, ye, yk, yr, yf0⟩ := next_Int xat.h1 hd2
  cases ye
  rw [hd2] at hI2
  refine nx_skip (nx_then (nx_seq (nx_block (nx_seq (nx_region (nv (v_indexAddr_nat rfl rfl rfl (by omega)) (nv v_load1_s (nv v_assign (nx_nil (nx_then (nx_seq ?_)))))))))))
  refine nx_seq (nx_region (nv v_move (nv v_lss (nv v_move ?_))))
  refine nx_guard_dec (t := 31) rfl (fun g31 => ?_) (fun g31 => ?_)
  refine nk (k := nk (k := nk (k := nk (k := nk (k := nv v_pick_t (nv v_move (nk (k := nk (k := nk (k := nk (k := nk (k := ?_))))))))))))
  refine nk (k := nk (k := nv v_pick_t (nv v_move (nk (k := nk (k := nk (k := nv v_pick_t (nx_nil (nx_then (nx_cond_t rfl ?_))))))))))
  have hbad : elBad p m2 y = true := by simp_all [elBad]
  have hel : elF p x.elems m = none := by rw [← hI2]; simp only [elF]; rw [hbad]; rfl
  have hno : linesOk p nx = false := by rw [← hI]; simp only [lineF]; rw [if_neg (by omega), hel]
  refine nx_seq (nx_region (nv v_assign (nx_nil (nx_then (nx_ret (nx_then_ret (nx_in_ret (nx_then_ret (nx_then_ret (nx_in_ret (nx_then_ret ?_)))))))))))
  refine nx_in_ret (nx_then_ret (nx_then_ret (nx_in_ret (nx_then_ret ?_))))
  exact nx_ret1 rfl (.tmp rfl) (rs (by (rw [hno]; done)))
  refine nr v_move (nr v_fieldAddr (nr v_load1_o (nr v_len (nr v_geq (nv v_pick_f (nv v_move ?_))))))
  refine nx_guard_dec (t := 38) rfl (fun g38 => ?_) (fun g38 => ?_)
  refine nk (k := nk (k := nk (k := nk (k := nk (k := nk (k := nk (k := nv v_pick_t (nv v_move (nk (k := nk (k := nk (k := ?_))))))))))))
  refine nv v_pick_t (nx_nil (nx_then (nx_cond_t rfl ?_)))
  have hbad : elBad p m2 y = true := by simp_all [elBad]
  have hel : elF p x.elems m = none := by rw [← hI2]; simp only [elF]; rw [hbad]; rfl
  have hno : linesOk p nx = false := by rw [← hI]; simp only [lineF]; rw [if_neg (by omega), hel]
  refine nx_seq (nx_region (nv v_assign (nx_nil (nx_then (nx_ret (nx_then_ret (nx_in_ret (nx_then_ret (nx_then_ret (nx_in_ret (nx_then_ret ?_)))))))))))
  refine nx_in_ret (nx_then_ret (nx_then_ret (nx_in_ret (nx_then_ret ?_))))
  exact nx_ret1 rfl (.tmp rfl) (rs (by (rw [hno]; done)))
  obtain ⟨zq, zhq⟩ : ∃ q : Nat, y = q := ⟨(y).toNat, by omega⟩
  obtain ⟨z, zh⟩ : ∃ x, p.elems[zq]? = some x := ⟨_, List.getElem?_eq_getElem (by omega)⟩
  obtain ⟨zb, zo, ze, zk, zf0, zf1, zf2⟩ := get_Elem at_.h1 zh
  cases ze
  have zkind : p.kind (y) = z.kind := by rw [zhq]; exact Plan.kind_of zh
  have zlen : p.length (y) = z.length := by rw [zhq]; exact Plan.length_of zh
  refine nr v_fieldAddr (nr v_load1_o (nr v_move ?_))
  refine nr (v_indexAddr_nat (k := zq) rfl rfl (by rw [← zhq]; rfl) (by omega)) ?_
  refine nr v_fieldAddr (nr v_load1_s (nr v_neq (nv v_pick_f (nv v_move ?_))))
  refine nx_guard_dec (t := 47) rfl (fun g47 => ?_) (fun g47 => ?_)
  refine nk (k := nk (k := nk (k := nv v_pick_t (nx_nil (nx_then (nx_cond_t rfl ?_))))))
  have hbad : elBad p m2 y = true := by simp_all [elBad]
  have hel : elF p x.elems m = none := by rw [← hI2]; simp only [elF]; rw [hbad]; rfl
  have hno : linesOk p nx = false := by rw [← hI]; simp only [lineF]; rw [if_neg (by omega), hel]
  refine nx_seq (nx_region (nv v_assign (nx_nil (nx_then (nx_ret (nx_then_ret (nx_in_ret (nx_then_ret (nx_then_ret (nx_in_ret (nx_then_ret ?_)))))))))))
  refine nx_in_ret (nx_then_ret (nx_then_ret (nx_in_ret (nx_then_ret ?_))))
  exact nx_ret1 rfl (.tmp rfl) (rs (by (rw [hno]; done)))
  refine nr v_move (nr v_move ?_)
  refine nr (v_lookup keyInt y false (.own (by repeat (first | exact Take.here | apply Take.cons | apply Take.app)) hm2) rfl rfl rfl (by rfl)) ?_
  refine nv v_pick_f (nx_nil (nx_then ?_))
  refine nx_cond rfl (fun c51 => ?_) (fun c51 => ?_)
  have hbad : elBad p m2 y = true := by simp_all [elBad]
  have hel : elF p x.elems m = none := by rw [← hI2]; simp only [elF]; rw [hbad]; rfl
  have hno : linesOk p nx = false := by rw [← hI]; simp only [lineF]; rw [if_neg (by omega), hel]
  refine nx_seq (nx_region (nv v_assign (nx_nil (nx_then (nx_ret (nx_then_ret (nx_in_ret (nx_then_ret (nx_then_ret (nx_in_ret (nx_then_ret ?_)))))))))))
  refine nx_in_ret (nx_then_ret (nx_then_ret (nx_in_ret (nx_then_ret ?_))))
  exact nx_ret1 rfl (.tmp rfl) (rs (by (rw [hno]; done)))
  have hok : elBad p m2 y = false := by simp_all [elBad]
  refine nx_skip (nx_then (nx_region (nv v_move (nv v_move ?_))))
  refine nx_op rfl (op_mapUpdate keyInt y true (venc := bool_) (by repeat (first | exact Take.here | apply Take.cons | apply Take.app)) hm2 rfl rfl rfl (fun o3 hm3 => ?_))
  refine nx_nil (nx_in _ (nx_then (nx_region (nv v_add (nv v_move (nx_nil (nx_then ?_)))))))
  exact nn (next2 (k2 + 1, o3, putK m2 y true) ⟨hm3, (by rw [yr, ← hI2]; simp only [elF]; rw [hok]; rfl)⟩ (by dsimp only; omega))
  refine nx_exit (nx_then_exit (nx_then_exit (nx_in_eq (nx_then (nx_seq (nx_region ?_))))))
  have hel : elF p x.elems m = some m2 := by rw [← hI2, List.drop_eq_nil_of_le (by omega)]; rfl
  refine nv v_fieldAddr (nv v_load1_o (nv v_move ?_))
  refine nx_op rfl (op_callS rfl rfl rfl (fun W hp => row_ok hp xat.h1 hnx hmp) ?_)
  refine nv v_not (nx_nil (nx_then ?_))
  refine nx_cond rfl (fun c59 => ?_) (fun c59 => ?_)
  have hnok : rowOk nx x.elems = false := by simpa using c59
  have hno : linesOk p nx = false := by rw [← hI]; simp only [lineF]; rw [if_neg (by omega), hel]; simp [hnok]
  refine nx_seq (nx_region (nv v_assign (nx_nil (nx_then (nx_ret (nx_in_ret (nx_then_ret (nx_then_ret (nx_in_ret (nx_then_ret ?_))))))))))
  exact nx_ret1 rfl (.tmp rfl) (rs (by (rw [hno]; done)))
  refine nx_skip (nx_in _ (nx_then (nx_region (nv v_add (nv v_move (nx_nil (nx_then ?_)))))))
  have hok : rowOk nx x.elems = true := by simpa using c59
  exact nn (next (k + 1, o2, m2) ⟨hm2, (by rw [xr, ← hI]; simp only [lineF]; rw [if_neg (by omega), hel]; simp [hok])⟩ (by dsimp only; omega))
  refine nx_exit (nx_then_exit (nx_then_exit (nx_in_eq (nx_then (nx_seq (nx_region (nv v_assign (nx_nil (nx_then (nx_ret ?_))))))))))
  exact nx_ret1 rfl (.tmp rfl) (rs (by (rw [← hI, List.drop_eq_nil_of_le (by omega)]; rfl)))
def sigLong (p : Plan) (s : Signal) : Bool := !(decide (p.kind s.at_.elem = 1) && decide (p.length s.at_.elem < p.margin))
def elLong (p : Plan) (e : Elem) : Bool := !(decide (¬ e.kind = 4) && decide (e.length < p.top))
def longOk (p : Plan) : Bool := if p.margin < p.top + stop p.top p.brake then false else p.signals.all (sigLong p) && p.elems.all (elLong p)
theorem stopF_range (b : Int) (hb : 1 ≤ b) : ∀ (k : Nat) (v n : Int), v ≤ 60 → n ≤ stopF k v b n ∧ stopF k v b n ≤ n + 60 * k
  | 0, v, n, _ => by simp [stopF]
  | k + 1, v, n, hv => by
    unfold stopF
    split
    · have := stopF_range b hb k (v - b) (n + v) (by omega); omega
    · omega
theorem stop_range (v b : Int) : 0 ≤ stop v b ∧ stop v b ≤ 3600 := by
  unfold stop
  split
  · omega
  · have := stopF_range b (by omega) 60 (v - b) 0 (by omega); omega
set_option maxRecDepth 20000 in
set_option maxHeartbeats 1000000 in
theorem longOk_ok {G : Gh} {H : List (Nat × Obj)} {W : World} (hp : Hp G H W) {A1 : Option Addr} {n1 c1 : Nat} {A2 : Option Addr} {n2 c2 : Nat} {A3 : Option Addr} {n3 c3 : Nat} {A4 : Option Addr} {n4 c4 : Nat} {p : Plan} (at_ : Plan.At G A1 n1 c1 A2 n2 c2 A3 n3 c3 A4 n4 c4 p) (hs : ∀ s, s ∈ p.signals → p.isPort s.at_ = true) (ht : 1 ≤ p.top ∧ p.top ≤ 60) : Calls Tryz.prog 131 ⟨[.agg ⟨[.slice A1 n1 c1, .slice A2 n2 c2, .slice A3 n3 c3, .slice A4 n4 c4, .int .i64 p.top, .int .i64 p.brake, .int .i64 p.margin, .int .i64 p.throw_, .bool p.hard]⟩]⟩ W (RetS G H (.bool (longOk p))) := by
  have l1 := at_.h1.length
  have l2 := at_.h2.length
  have l3 := at_.h3.length
  have l4 := at_.h4.length
  have r1 := Nat.le_trans at_.h1.cap at_.h1.room
  have r2 := Nat.le_trans at_.h2.cap at_.h2.room
  have r3 := Nat.le_trans at_.h3.cap at_.h3.room
  have r4 := Nat.le_trans at_.h4.cap at_.h4.room
  have hst := stop_range p.top p.brake
  refine enter Tryz.func131 rfl Tryz.ntmps131 (Nat.le_of_ble_eq_true rfl) hp (nx_seq (nx_region ?_))
  refine nx_op rfl (op_box rfl rfl (fun b1 => ?_))
  refine nv v_assign (nx_nil (nx_then (nx_seq (nx_seq (dr_begin 11 (.q 0 (.q 1 (.q 2 (.q 3 (.q 4 (.q 5 (.q 6 (.q 7 (.l 8 (.q 9 (.q 10 .done))))))))))) rfl (by kernel_rfl) (dr_q rfl rfl v_fieldAddr ic (dr_q rfl rfl v_load1_o ic (dr_q rfl rfl v_fieldAddr ic (dr_q rfl rfl v_load1_o ic (dr_q rfl rfl v_fieldAddr ic (dr_q rfl rfl v_load1_o ic ?_)))))))))))
  refine dr_q rfl rfl v_fieldAddr ic (dr_q rfl rfl v_load1_o ic (dr_l rfl rfl ?_))
  refine op_callS rfl rfl rfl (fun W hp => stop_ok hp p.top p.brake) ?_
  refine dr_k ic (dr_q rfl rfl v_add ic (dr_q rfl rfl v_lss ic (dr_end rfl ?_)))
  refine nx_nil (nx_np ?_)
  refine nx_then ?_
  refine nx_cond_dec rfl (fun c18 => ?_) (fun c18 => ?_)
  have hno : longOk p = false := if_pos c18
  refine nx_seq (nx_region (nv v_assign (nx_nil (nx_then (nx_ret (nx_then_ret ?_))))))
  exact nx_ret1 rfl (.tmp rfl) (rs (by (rw [hno]; done)))
  have hyes : longOk p = (p.signals.all (sigLong p) && p.elems.all (elLong p)) := if_neg c18
  refine nx_skip (nx_then (nx_seq (nx_seq (nx_region (nv v_fieldAddr (nv v_load1_o (nv v_len (nv v_move (nx_nil (nx_then (nx_block ?_)))))))))))
  refine nx_loop_v (σ := Nat) [0, 1, 8, 9, 10, 11, 12, 13, 14, 15, 16, 17, 18, 19, 20, 21] (fun k => [(22, .int .i64 (k : Int))]) (fun _ => G) (fun _ => _) (fun k => (p.signals.drop k).all (sigLong p) = p.signals.all (sigLong p)) (fun k => n3 - k) 0 (.cons rfl (.cons rfl (.cons rfl (.cons rfl (.cons rfl (.cons rfl (.cons rfl (.cons rfl (.cons rfl (.cons rfl (.cons rfl (.cons rfl (.cons rfl (.cons rfl (.cons rfl (.cons rfl (.nil))))))))))))))))) ⟨rfl, trivial⟩ rfl rfl rfl ?_
  intro k hI K next
  refine nx_seq (nx_region (nv v_lss (nx_nil (nx_then (nx_seq ?_)))))
  refine nx_cond_dec rfl (fun c23 => ?_) (fun c23 => ?_)
  obtain ⟨x, rest, hd, hx⟩ := drop_of_lt (xs := p.signals) (k := k) (by omega)
  obtain ⟨xb, xo, xe, xk, xr, xf0, xf1, xf2, xf3⟩ := next_Signal at_.h3 hd
  cases xe
  obtain ⟨_, _, _, _⟩ := Plan.isPort_elem (hs x (List.mem_of_getElem? hx))
  obtain ⟨zq, zhq⟩ : ∃ q : Nat, x.at_.elem = q := ⟨(x.at_.elem).toNat, by omega⟩
  obtain ⟨z, zh⟩ : ∃ x, p.elems[zq]? = some x := ⟨_, List.getElem?_eq_getElem (by omega)⟩
  obtain ⟨zb, zo, ze, zk, zf0, zf1, zf2⟩ := get_Elem at_.h1 zh
  cases ze
  have zkind : p.kind (x.at_.elem) = z.kind := by rw [zhq]; exact Plan.kind_of zh
  have zlen : p.length (x.at_.elem) = z.length := by rw [zhq]; exact Plan.length_of zh
  refine nx_skip (nx_then (nx_seq (nx_block (nx_seq (nx_region (nv (v_indexAddr_nat rfl rfl rfl (by omega)) (nv v_load_s ?_)))))))
  refine nx_op rfl (op_alloc rfl (fun b4 => ?_))
  refine st (k := nx_nil (nx_then (nx_seq (nx_region (nv v_fieldAddr (nv v_load1_o (nv v_fieldAddr (nv v_fieldAddr (nv v_load1_o ?_)))))))))
  refine nv (v_indexAddr_nat (k := zq) rfl rfl (by rw [← zhq]; rfl) (by omega)) ?_
  refine nv v_load_s ?_
  refine nx_op rfl (op_alloc rfl (fun b5 => ?_))
  refine st (k := nx_nil (nx_then (nx_seq (nx_region (nv v_fieldAddr (nv v_load1_o (nv v_eql (nv v_move ?_))))))))
  refine nx_guard_dec (t := 36) rfl (fun g36 => ?_) (fun g36 => ?_)
  refine nr v_fieldAddr (nr v_load1_o (nr v_fieldAddr (nr v_load1_o (nr v_lss (nv v_pick_t (nx_nil (nx_then ?_)))))))
  refine nx_cond_dec rfl (fun c42 => ?_) (fun c42 => ?_)
  have hno : longOk p = false := by rw [hyes, all_no hI hd (by simp_all [sigLong])]; rfl
  refine nx_seq (nx_region (nv v_assign (nx_nil (nx_then (nx_ret (nx_in_ret (nx_then_ret (nx_then_ret (nx_in_ret (nx_then_ret ?_))))))))))
  exact nx_ret1 rfl (.tmp rfl) (rs (by (rw [hno]; done)))
  refine nx_skip (nx_in _ (nx_then (nx_region (nv v_add (nv v_move (nx_nil (nx_then ?_)))))))
  exact nn (next (k + 1) (all_yes hI hd xr (by simp_all [sigLong])) (by omega))
  refine nk (k := nk (k := nk (k := nk (k := nk (k := nv v_pick_f (nx_nil (nx_then (nx_cond_f rfl (nx_skip (nx_in _ (nx_then ?_)))))))))))
  refine nx_region (nv v_add (nv v_move (nx_nil (nx_then ?_))))
  exact nn (next (k + 1) (all_yes hI hd xr (by simp_all [sigLong])) (by omega))
  refine nx_exit (nx_then_exit (nx_then_exit (nx_in_eq (nx_then (nx_seq (nx_seq (nx_region (nv v_fieldAddr (nv v_load1_o (nv v_len (nv v_move ?_)))))))))))
  refine nx_nil (nx_then (nx_block ?_))
  have h1 := all_end hI (by omega)
  refine nx_loop_v (σ := Nat) [0, 1, 8, 9, 10, 11, 12, 13, 14, 15, 16, 17, 18, 19, 20, 21, 22, 23, 44, 45, 46] (fun k => [(47, .int .i64 (k : Int))]) (fun _ => G) (fun _ => _) (fun k => (p.elems.drop k).all (elLong p) = p.elems.all (elLong p)) (fun k => n1 - k) 0 (.cons rfl (.cons rfl (.cons rfl (.cons rfl (.cons rfl (.cons rfl (.cons rfl (.cons rfl (.cons rfl (.cons rfl (.cons rfl (.cons rfl (.cons rfl (.cons rfl (.cons rfl (.cons rfl (.cons rfl (.cons rfl (.cons rfl (.cons rfl (.cons rfl (.nil)))))))))))))))))))))) ⟨rfl, trivial⟩ rfl rfl rfl ?_
  intro k hI K next
  refine nx_seq (nx_region (nv v_lss (nx_nil (nx_then (nx_seq ?_)))))
  refine nx_cond_dec rfl (fun c48 => ?_) (fun c48 => ?_)
  obtain ⟨x, rest, hd, hx⟩ := drop_of_lt (xs := p.elems) (k := k) (by omega)
  obtain ⟨xb, xo, xe, xk, xr, xf0, xf1, xf2⟩ := next_Elem at_.h1 hd
  cases xe
  refine nx_skip (nx_then (nx_seq (nx_block (nx_seq (nx_region (nv (v_indexAddr_nat rfl rfl rfl (by omega)) (nv v_load_s ?_)))))))
  refine nx_op rfl (op_alloc rfl (fun b7 => ?_))
  refine st (k := nx_nil (nx_then (nx_seq (nx_region (nv v_fieldAddr (nv v_load1_o (nv v_neq (nv v_move ?_))))))))
  refine nx_guard_dec (t := 54) rfl (fun g54 => ?_) (fun g54 => ?_)
  refine nr v_fieldAddr (nr v_load1_o (nr v_fieldAddr (nr v_load1_o (nr v_lss (nv v_pick_t (nx_nil (nx_then ?_)))))))
  refine nx_cond_dec rfl (fun c60 => ?_) (fun c60 => ?_)
  have hno : longOk p = false := by rw [hyes, all_no hI hd (by simp_all [elLong])]; simp
  refine nx_seq (nx_region (nv v_assign (nx_nil (nx_then (nx_ret (nx_in_ret (nx_then_ret (nx_then_ret (nx_in_ret (nx_then_ret ?_))))))))))
  exact nx_ret1 rfl (.tmp rfl) (rs (by (rw [hno]; done)))
  refine nx_skip (nx_in _ (nx_then (nx_region (nv v_add (nv v_move (nx_nil (nx_then ?_)))))))
  exact nn (next (k + 1) (all_yes hI hd xr (by simp_all [elLong])) (by omega))
  refine nk (k := nk (k := nk (k := nk (k := nk (k := nv v_pick_f (nx_nil (nx_then (nx_cond_f rfl (nx_skip (nx_in _ (nx_then ?_)))))))))))
  refine nx_region (nv v_add (nv v_move (nx_nil (nx_then ?_))))
  exact nn (next (k + 1) (all_yes hI hd xr (by simp_all [elLong])) (by omega))
  refine nx_exit (nx_then_exit (nx_then_exit (nx_in_eq (nx_then (nx_seq (nx_region (nv v_assign (nx_nil (nx_then (nx_ret ?_))))))))))
  exact nx_ret1 rfl (.tmp rfl) (rs (by (rw [hyes, h1, all_end hI (by omega)]; rfl)))
end Go.Proofs.YtjckojnlapchoaaGreat
open Go Go.RowKit
namespace Go.Proofs.YtjckojnlapchoaaGreat
open Go.Proofs
theorem joinF_mp {p : Plan} : ∀ {l : List Join} {m m' : List (Port × Port)}, joinF p l m = some m' → Mp p m → Mp p m'
  | [], _, _, h, hm => by cases h; exact hm
  | j :: l, m, m', h, hm => by
    unfold joinF at h
    split at h
    · cases h
    · rename_i hb
      simp [joinBad] at hb
      exact joinF_mp h ((hm.put _ _ hb.2).put _ _ hb.1.2)
theorem joined_mp {p : Plan} {m : List (Port × Port)} (h : joined p = some m) : Mp p m := by
  unfold joined at h
  split at h
  · cases h
  · rename_i m' hm
    split at h
    · cases h; exact joinF_mp hm (Mp.nil p)
    · cases h
def namesTwice (p : Plan) : Bool := twiceF (p.elems.map Elem.name) [] || twiceF (p.signals.map Signal.name) [] || twiceF (p.lines.map Line.name) []
def tooMuch (p : Plan) : Bool := decide (40 < p.elems.length) || decide (24 < p.signals.length) || decide (4 < p.lines.length) || decide (80 < p.joins.length)
def planRest (p : Plan) (o : Option (List (Port × Port))) : Int := match o with
  | none => 6
  | some nx => if !signalsOk p nx then 7 else if !linesOk p nx then 8 else if !longOk p then 9 else 0
def planCheck (p : Plan) : Int := if tooMuch p then 3 else if !numbersOk p then 1 else if namesTwice p then 4 else planRest p (joined p)
theorem planCheck_ok {p : Plan} (h : planCheck p = 0) : tooMuch p = false ∧ numbersOk p = true ∧ namesTwice p = false ∧ ∃ nx, joined p = some nx ∧ signalsOk p nx = true ∧ linesOk p nx = true ∧ longOk p = true := by
  unfold planCheck at h
  split at h; · cases h
  rename_i h1
  split at h; · cases h
  rename_i h2
  split at h; · cases h
  rename_i h3
  unfold planRest at h
  split at h; · cases h
  rename_i nx hx
  split at h; · cases h
  rename_i h4
  split at h; · cases h
  rename_i h5
  split at h; · cases h
  rename_i h6
  exact ⟨by simpa using h1, by simpa using h2, by simpa using h3, nx, hx, by simpa using h4, by simpa using h5, by simpa using h6⟩
theorem numbers_top {p : Plan} (h : numbersOk p = true) : 1 ≤ p.top ∧ p.top ≤ 60 := by
  simp only [numbersOk, numsOk, Bool.and_eq_true, decide_eq_true_eq] at h
  omega
set_option maxRecDepth 20000 in
set_option maxHeartbeats 1000000 in
theorem planCheck_run {G : Gh} {H : List (Nat × Obj)} {W : World} (hp : Hp G H W) {A1 : Option Addr} {n1 c1 : Nat} {A2 : Option Addr} {n2 c2 : Nat} {A3 : Option Addr} {n3 c3 : Nat} {A4 : Option Addr} {n4 c4 : Nat} {p : Plan} (at_ : Plan.At G A1 n1 c1 A2 n2 c2 A3 n3 c3 A4 n4 c4 p) : Calls Tryz.prog 78 ⟨[.agg ⟨[.slice A1 n1 c1, .slice A2 n2 c2, .slice A3 n3 c3, .slice A4 n4 c4, .int .i64 p.top, .int .i64 p.brake, .int .i64 p.margin, .int .i64 p.throw_, .bool p.hard]⟩]⟩ W (RetD G H (fun _ v => v = .int .i64 (planCheck p))) := by
  have l1 := at_.h1.length
  have l2 := at_.h2.length
  have l3 := at_.h3.length
  have l4 := at_.h4.length
  have r1 := Nat.le_trans at_.h1.cap at_.h1.room
  have r2 := Nat.le_trans at_.h2.cap at_.h2.room
  have r3 := Nat.le_trans at_.h3.cap at_.h3.room
  have r4 := Nat.le_trans at_.h4.cap at_.h4.room
  refine enter Tryz.func78 rfl Tryz.ntmps78 (Nat.le_of_ble_eq_true rfl) hp (nx_seq (nx_region ?_))
  refine nx_op rfl (op_box rfl rfl (fun b1 => ?_))
  refine nv v_assign (nx_nil (nx_then (nx_seq (nx_seq (nx_region (nv v_fieldAddr (nv v_load1_o (nv v_len (nv v_gtr (nv v_move ?_))))))))))
  refine nx_guard_dec (t := 9) rfl (fun g9 => ?_) (fun g9 => ?_)
  refine nk (k := nk (k := nk (k := nk (k := nv v_pick_t (nv v_move (nk (k := nk (k := nk (k := nk (k := nv v_pick_t (nv v_move ?_)))))))))))
  refine nk (k := nk (k := nk (k := nk (k := nv v_pick_t (nx_nil (nx_then (nx_cond_t rfl ?_)))))))
  have hc : planCheck p = 3 := if_pos (by simp only [tooMuch, Bool.or_eq_true, decide_eq_true_eq]; omega)
  refine nx_seq (nx_region (nv v_assign (nx_nil (nx_then (nx_ret (nx_then_ret ?_))))))
  exact nx_ret1 rfl (.tmp rfl) (rt ((Gh.le.refl _)) (by rw [hc]))
  refine nr v_fieldAddr (nr v_load1_o (nr v_len (nr v_gtr (nv v_pick_f (nv v_move ?_)))))
  refine nx_guard_dec (t := 15) rfl (fun g15 => ?_) (fun g15 => ?_)
  refine nk (k := nk (k := nk (k := nk (k := nv v_pick_t (nv v_move (nk (k := nk (k := nk (k := nk (k := nv v_pick_t (nx_nil ?_)))))))))))
  refine nx_then (nx_cond_t rfl ?_)
  have hc : planCheck p = 3 := if_pos (by simp only [tooMuch, Bool.or_eq_true, decide_eq_true_eq]; omega)
  refine nx_seq (nx_region (nv v_assign (nx_nil (nx_then (nx_ret (nx_then_ret ?_))))))
  exact nx_ret1 rfl (.tmp rfl) (rt ((Gh.le.refl _)) (by rw [hc]))
  refine nr v_fieldAddr (nr v_load1_o (nr v_len (nr v_gtr (nv v_pick_f (nv v_move ?_)))))
  refine nx_guard_dec (t := 21) rfl (fun g21 => ?_) (fun g21 => ?_)
  refine nk (k := nk (k := nk (k := nk (k := nv v_pick_t (nx_nil (nx_then (nx_cond_t rfl ?_)))))))
  have hc : planCheck p = 3 := if_pos (by simp only [tooMuch, Bool.or_eq_true, decide_eq_true_eq]; omega)
  refine nx_seq (nx_region (nv v_assign (nx_nil (nx_then (nx_ret (nx_then_ret ?_))))))
  exact nx_ret1 rfl (.tmp rfl) (rt ((Gh.le.refl _)) (by rw [hc]))
  refine nr v_fieldAddr (nr v_load1_o (nr v_len (nr v_gtr (nv v_pick_f (nx_nil (nx_then ?_))))))
  refine nx_cond_dec rfl (fun c26 => ?_) (fun c26 => ?_)
  have hc : planCheck p = 3 := if_pos (by simp only [tooMuch, Bool.or_eq_true, decide_eq_true_eq]; omega)
  refine nx_seq (nx_region (nv v_assign (nx_nil (nx_then (nx_ret (nx_then_ret ?_))))))
  exact nx_ret1 rfl (.tmp rfl) (rt ((Gh.le.refl _)) (by rw [hc]))
  have h1 : tooMuch p = false := by simp only [tooMuch, Bool.or_eq_false_iff, decide_eq_false_iff_not]; omega
  refine nx_skip (nx_then (nx_seq (nx_seq (nx_region (nv v_load_o ?_)))))
  refine nx_op rfl (op_callS rfl rfl rfl (fun W hp => numbers_ok hp at_) ?_)
  refine nv v_not (nx_nil (nx_then ?_))
  refine nx_cond rfl (fun c29 => ?_) (fun c29 => ?_)
  have hc : planCheck p = 1 := by unfold planCheck; rw [h1]; simp_all
  refine nx_seq (nx_region (nv v_assign (nx_nil (nx_then (nx_ret (nx_then_ret ?_))))))
  exact nx_ret1 rfl (.tmp rfl) (rt ((Gh.le.refl _)) (by rw [hc]))
  have h2 : numbersOk p = true := by simpa using c29
  refine nx_skip (nx_then (nx_seq (nx_seq (nx_region (nv v_fieldAddr (nv v_load1_o (nv v_len (nv v_makeFunc ?_))))))))
  refine nx_op rfl (op_callD rfl rfl rfl (fun W hp => twice_ok hp (p.elems.map Elem.name) (by simp [l1]) (by omega) (fst := []) (cap := [.pointer (some ⟨b1, 0, none⟩)]) (fun k x hx => by obtain ⟨y, hy, rfl⟩ := Option.map_eq_some_iff.1 ((List.getElem?_map ..).symm.trans hx); exact fun G' H' W' hl hs hp' => RetS.toD (chk1_ok hp' (at_.le hl) (hs.sublist.subset (List.mem_cons_self)) hy))) (fun v34 G34 le34 ph34 => ?_))
  subst ph34
  refine nv v_move ?_
  refine nx_guard (t := 35) rfl (fun g35 => ?_) (fun g35 => ?_)
  refine nk (k := nk (k := nk (k := nk (k := nk (k := nv v_pick_t (nv v_move (nk (k := nk (k := nk (k := nk (k := nk (k := ?_))))))))))))
  refine nv v_pick_t (nx_nil (nx_then (nx_cond_t rfl ?_)))
  have hc : planCheck p = 4 := by unfold planCheck namesTwice; simp_all
  refine nx_seq (nx_region (nv v_assign (nx_nil (nx_then (nx_ret (nx_then_ret ?_))))))
  exact nx_ret1 rfl (.tmp rfl) (rt (le34) (by rw [hc]))
  refine nr v_fieldAddr (nr v_load1_o (nr v_len (nr v_makeFunc ?_)))
  refine nx_op_run rfl rfl rfl (op_callD rfl rfl rfl (fun W hp => twice_ok hp (p.signals.map Signal.name) (by simp [l3]) (by omega) (fst := []) (cap := [.pointer (some ⟨b1, 0, none⟩)]) (fun k x hx => by obtain ⟨y, hy, rfl⟩ := Option.map_eq_some_iff.1 ((List.getElem?_map ..).symm.trans hx); exact fun G' H' W' hl hs hp' => RetS.toD (chk2_ok hp' ((at_.le le34).le hl) (hs.sublist.subset (List.mem_cons_self)) hy))) (fun v40 G40 le40 ph40 => ?_))
  subst ph40
  refine nv v_pick_f (nv v_move ?_)
  refine nx_guard (t := 42) rfl (fun g42 => ?_) (fun g42 => ?_)
  refine nk (k := nk (k := nk (k := nk (k := nk (k := nv v_pick_t (nx_nil (nx_then (nx_cond_t rfl ?_))))))))
  have hc : planCheck p = 4 := by unfold planCheck namesTwice; simp_all
  refine nx_seq (nx_region (nv v_assign (nx_nil (nx_then (nx_ret (nx_then_ret ?_))))))
  exact nx_ret1 rfl (.tmp rfl) (rt ((Gh.le.trans le34 le40)) (by rw [hc]))
  refine nr v_fieldAddr (nr v_load1_o (nr v_len (nr v_makeFunc ?_)))
  refine nx_op_run rfl rfl rfl (op_callD rfl rfl rfl (fun W hp => twice_ok hp (p.lines.map Line.name) (by simp [l4]) (by omega) (fst := []) (cap := [.pointer (some ⟨b1, 0, none⟩)]) (fun k x hx => by obtain ⟨y, hy, rfl⟩ := Option.map_eq_some_iff.1 ((List.getElem?_map ..).symm.trans hx); exact fun G' H' W' hl hs hp' => RetS.toD (chk3_ok hp' ((at_.le (Gh.le.trans le34 le40)).le hl) (hs.sublist.subset (List.mem_cons_self)) hy))) (fun v47 G47 le47 ph47 => ?_))
  subst ph47
  refine nv v_pick_f (nx_nil (nx_then ?_))
  refine nx_cond rfl (fun c48 => ?_) (fun c48 => ?_)
  have hc : planCheck p = 4 := by unfold planCheck namesTwice; simp_all
  refine nx_seq (nx_region (nv v_assign (nx_nil (nx_then (nx_ret (nx_then_ret ?_))))))
  exact nx_ret1 rfl (.tmp rfl) (rt ((Gh.le.trans le34 (Gh.le.trans le40 le47))) (by rw [hc]))
  have h3 : namesTwice p = false := by unfold namesTwice; simp_all
  have hc0 : planCheck p = planRest p (joined p) := by unfold planCheck; rw [h1, h2, h3]; rfl
  refine nx_skip (nx_then (nx_seq (nx_region (nv v_load_o ?_))))
  refine nx_op rfl (op_callD rfl rfl rfl (fun W hp => joined_ok hp (at_.le (Gh.le.trans le34 (Gh.le.trans le40 le47)))) (fun v51 G51 le51 ph51 => ?_))
  rcases hj : joined p with _ | nx
  rw [hj] at ph51
  obtain rfl : v51 = _ := ph51
  have hc : planCheck p = 6 := by rw [hc0, hj]; rfl
  refine nv v_move (nv (v_extract rfl rfl rfl) (nv (v_extract rfl rfl rfl) (nv v_assign (nv v_assign (nx_nil (nx_then (nx_seq (nx_block (nx_seq (nx_region (nv v_move ?_)))))))))))
  refine nv v_not_f (nv v_assign (nx_nil (nx_then (nx_cond_t rfl (nx_seq (nx_region (nv v_assign (nx_nil (nx_then (nx_ret (nx_in_ret ?_)))))))))))
  refine nx_then_ret ?_
  exact nx_ret1 rfl (.tmp rfl) (rt ((Gh.le.trans le34 (Gh.le.trans le40 (Gh.le.trans le47 le51)))) (by rw [hc]))
  rw [hj] at ph51
  obtain ⟨mn, rfl, hmn⟩ := ph51
  have hmp := joined_mp hj
  refine nv v_move (nv (v_extract rfl rfl rfl) (nv (v_extract rfl rfl rfl) (nv v_assign (nv v_assign (nx_nil (nx_then (nx_seq (nx_block (nx_seq (nx_region (nv v_move ?_)))))))))))
  refine nv v_not_t (nv v_assign (nx_nil (nx_then (nx_cond_f rfl (nx_seq (nx_region (nv v_load_o (nv v_move ?_))))))))
  refine nx_op rfl (op_callS rfl rfl rfl (fun W hp => signalsOk_ok hp (at_.le (Gh.le.trans le34 (Gh.le.trans le40 (Gh.le.trans le47 le51)))) (hmn.le (Gh.le.refl _)) hmp) ?_)
  refine nv v_not (nv v_assign (nx_nil (nx_then ?_)))
  refine nx_cond rfl (fun c57 => ?_) (fun c57 => ?_)
  have hc : planCheck p = 7 := by rw [hc0, hj]; unfold planRest; simp_all
  refine nx_seq (nx_region (nv v_assign (nx_nil (nx_then (nx_ret (nx_in_ret (nx_then_ret ?_)))))))
  exact nx_ret1 rfl (.tmp rfl) (rt ((Gh.le.trans le34 (Gh.le.trans le40 (Gh.le.trans le47 le51)))) (by rw [hc]))
  have h4 : signalsOk p nx = true := by simpa using c57
  refine nx_seq (nx_region (nv v_load_o (nv v_move ?_)))
  refine nx_op rfl (op_callS rfl rfl rfl (fun W hp => linesOk_ok hp (at_.le (Gh.le.trans le34 (Gh.le.trans le40 (Gh.le.trans le47 le51)))) (hmn.le (Gh.le.refl _)) hmp) ?_)
  refine nv v_not (nv v_assign (nx_nil (nx_then ?_)))
  refine nx_cond rfl (fun c62 => ?_) (fun c62 => ?_)
  have hc : planCheck p = 8 := by rw [hc0, hj]; unfold planRest; simp_all
  refine nx_seq (nx_region (nv v_assign (nx_nil (nx_then (nx_ret (nx_in_ret (nx_then_ret ?_)))))))
  exact nx_ret1 rfl (.tmp rfl) (rt ((Gh.le.trans le34 (Gh.le.trans le40 (Gh.le.trans le47 le51)))) (by rw [hc]))
  have h5 : linesOk p nx = true := by simpa using c62
  refine nx_seq (nx_region (nv v_load_o ?_))
  refine nx_op rfl (op_callS rfl rfl rfl (fun W hp => longOk_ok hp (at_.le (Gh.le.trans le34 (Gh.le.trans le40 (Gh.le.trans le47 le51)))) (signals_port h4) (numbers_top h2)) ?_)
  refine nv v_not (nv v_assign (nx_nil (nx_then ?_)))
  refine nx_cond rfl (fun c67 => ?_) (fun c67 => ?_)
  have hc : planCheck p = 9 := by rw [hc0, hj]; unfold planRest; simp_all
  refine nx_seq (nx_region (nv v_assign (nx_nil (nx_then (nx_ret (nx_in_ret (nx_then_ret ?_)))))))
  exact nx_ret1 rfl (.tmp rfl) (rt ((Gh.le.trans le34 (Gh.le.trans le40 (Gh.le.trans le47 le51)))) (by rw [hc]))
  have hc : planCheck p = 0 := by rw [hc0, hj]; unfold planRest; simp_all
  refine nx_skip (nx_in _ (nx_then (nx_seq (nx_region (nv v_assign (nx_nil (nx_then (nx_ret ?_))))))))
  exact nx_ret1 rfl (.tmp rfl) (rt ((Gh.le.trans le34 (Gh.le.trans le40 (Gh.le.trans le47 le51)))) (by rw [hc]))
end Go.Proofs.YtjckojnlapchoaaGreat
