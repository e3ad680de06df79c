/- Part 13 of a proof of a law over the program: Same, Box1, World4, Check1, Check2, Check3. Conditions: none beyond what each statement says. -/
import Derived.Test.YtjckojnlapchoaaGreatQ12
set_option linter.unusedVariables false
set_option linter.unusedSimpArgs false
open Go Go.RowKit
namespace Go.Proofs.YtjckojnlapchoaaGreat
open Go.Proofs
theorem Road.eq_iff (a b : Road) : a = b ↔ a.from_ = b.from_ ∧ a.to = b.to ∧ a.fin = b.fin ∧ a.steps = b.steps ∧ a.needs = b.needs ∧ a.guards = b.guards ∧ a.zone = b.zone ∧ a.holds = b.holds ∧ a.bare = b.bare := by
  obtain ⟨a1, a2, a3, a4, a5, a6, a7, a8, a9⟩ := a; obtain ⟨b1, b2, b3, b4, b5, b6, b7, b8, b9⟩ := b; simp
theorem Plan.eq_iff (a b : Plan) : a = b ↔ a.elems = b.elems ∧ a.joins = b.joins ∧ a.signals = b.signals ∧ a.lines = b.lines ∧ a.top = b.top ∧ a.brake = b.brake ∧ a.margin = b.margin ∧ a.throw_ = b.throw_ ∧ a.hard = b.hard := by
  obtain ⟨a1, a2, a3, a4, a5, a6, a7, a8, a9⟩ := a; obtain ⟨b1, b2, b3, b4, b5, b6, b7, b8, b9⟩ := b; simp
theorem Line.eq_iff (a b : Line) : a = b ↔ a.name = b.name ∧ a.elems = b.elems := by
  obtain ⟨a1, a2⟩ := a; obtain ⟨b1, b2⟩ := b; simp
theorem Chart.eq_iff (a b : Chart) : a = b ↔ a.plan = b.plan ∧ a.roads = b.roads := by
  obtain ⟨a1, a2⟩ := a; obtain ⟨b1, b2⟩ := b; simp
set_option maxRecDepth 20000 in
set_option maxHeartbeats 1000000 in
theorem roadSame_ok {G : Gh} {H : List (Nat × Obj)} {W : World} (hp : Hp G H W) {A1 : Option Addr} {n1 c1 : Nat} {A2 : Option Addr} {n2 c2 : Nat} {A3 : Option Addr} {n3 c3 : Nat} {A4 : Option Addr} {n4 c4 : Nat} {A5 : Option Addr} {n5 c5 : Nat} {a : Road} (at_ : Road.At G A1 n1 c1 A2 n2 c2 A3 n3 c3 A4 n4 c4 A5 n5 c5 a) {xA1 : Option Addr} {xn1 xc1 : Nat} {xA2 : Option Addr} {xn2 xc2 : Nat} {xA3 : Option Addr} {xn3 xc3 : Nat} {xA4 : Option Addr} {xn4 xc4 : Nat} {xA5 : Option Addr} {xn5 xc5 : Nat} {b : Road} (bt : Road.At G xA1 xn1 xc1 xA2 xn2 xc2 xA3 xn3 xc3 xA4 xn4 xc4 xA5 xn5 xc5 b) : Calls Tryz.prog 160 ⟨[.agg ⟨[.int .i64 a.from_, .int .i64 a.to, .int .i64 a.fin, .slice A1 n1 c1, .slice A2 n2 c2, .slice A3 n3 c3, .slice A4 n4 c4, .slice A5 n5 c5, .bool a.bare]⟩, .agg ⟨[.int .i64 b.from_, .int .i64 b.to, .int .i64 b.fin, .slice xA1 xn1 xc1, .slice xA2 xn2 xc2, .slice xA3 xn3 xc3, .slice xA4 xn4 xc4, .slice xA5 xn5 xc5, .bool b.bare]⟩]⟩ W (RetS G H (.bool (decide (a = b)))) := by
  refine enter Tryz.func160 rfl Tryz.ntmps160 (Nat.le_of_ble_eq_true rfl) hp (nx_seq (nx_region ?_))
  refine nx_op rfl (op_box rfl rfl (fun b2 => ?_))
  refine nx_op rfl (op_box rfl rfl (fun b3 => ?_))
  refine nv v_assign (nx_nil (nx_then (nx_seq (nx_region (nv v_fieldAddr (nv v_load1_o (nv v_fieldAddr (nv v_load1_o (nv v_eql (nv v_move ?_))))))))))
  refine nx_guard_dec (t := 10) rfl (fun g10 => ?_) (fun g10 => ?_)
  refine nr v_fieldAddr (nr v_load1_o (nr v_fieldAddr (nr v_load1_o (nr v_eql (nv v_pick_t (nv v_move ?_))))))
  refine nx_guard_dec (t := 17) rfl (fun g17 => ?_) (fun g17 => ?_)
  refine nr v_fieldAddr (nr v_load1_o (nr v_fieldAddr (nr v_load1_o (nr v_eql (nv v_pick_t (nv v_move ?_))))))
  refine nx_guard_dec (t := 24) rfl (fun g24 => ?_) (fun g24 => ?_)
  refine nr v_fieldAddr (nr v_load1_o (nr v_fieldAddr (nr v_load1_o ?_)))
  refine nx_op_run rfl rfl rfl (op_callS rfl rfl rfl (fun W hp => equal_Step hp at_.h1 bt.h1) ?_)
  refine nv v_pick_t (nv v_move ?_)
  refine nx_guard_dec (t := 31) rfl (fun g31 => ?_) (fun g31 => ?_)
  refine nr v_fieldAddr (nr v_load1_o (nr v_fieldAddr (nr v_load1_o ?_)))
  refine nx_op_run rfl rfl rfl (op_callS rfl rfl rfl (fun W hp => equal_Need hp at_.h2 bt.h2) ?_)
  refine nv v_pick_t (nv v_move ?_)
  refine nx_guard_dec (t := 38) rfl (fun g38 => ?_) (fun g38 => ?_)
  refine nr v_fieldAddr (nr v_load1_o (nr v_fieldAddr (nr v_load1_o ?_)))
  refine nx_op_run rfl rfl rfl (op_callS rfl rfl rfl (fun W hp => equal_Need hp at_.h3 bt.h3) ?_)
  refine nv v_pick_t (nv v_move ?_)
  refine nx_guard_dec (t := 45) rfl (fun g45 => ?_) (fun g45 => ?_)
  refine nr v_fieldAddr (nr v_load1_o (nr v_fieldAddr (nr v_load1_o ?_)))
  refine nx_op_run rfl rfl rfl (op_callS rfl rfl rfl (fun W hp => equal_Int hp at_.h4 bt.h4) ?_)
  refine nv v_pick_t (nv v_move ?_)
  refine nx_guard_dec (t := 52) rfl (fun g52 => ?_) (fun g52 => ?_)
  refine nr v_fieldAddr (nr v_load1_o (nr v_fieldAddr (nr v_load1_o ?_)))
  refine nx_op_run rfl rfl rfl (op_callS rfl rfl rfl (fun W hp => equal_Int hp at_.h5 bt.h5) ?_)
  refine nv v_pick_t (nv v_move ?_)
  refine nx_guard_dec (t := 59) rfl (fun g59 => ?_) (fun g59 => ?_)
  refine nr v_fieldAddr (nr v_load1_o (nr v_fieldAddr (nr v_load1_o (nr v_eql_bool (nv v_pick_t (nv v_assign (nx_nil (nx_then (nx_ret ?_)))))))))
  exact nx_ret1 rfl (.tmp rfl) (rs (by congr 1; rw [Bool.eq_iff_iff]; simp only [decide_eq_true_eq, Road.eq_iff]; simp [*]))
  refine nk (k := nk (k := nk (k := nk (k := nk (k := nv v_pick_f (nv v_assign (nx_nil (nx_then (nx_ret ?_)))))))))
  exact nx_ret1 rfl (.tmp rfl) (rs (by congr 1; rw [Bool.eq_iff_iff]; simp only [decide_eq_true_eq, Road.eq_iff]; simp [*]))
  refine nk (k := nk (k := nk (k := nk (k := nk (k := nv v_pick_f (nv v_move (nk (k := nk (k := nk (k := nk (k := nk (k := ?_))))))))))))
  refine nv v_pick_f (nv v_assign (nx_nil (nx_then (nx_ret ?_))))
  exact nx_ret1 rfl (.tmp rfl) (rs (by congr 1; rw [Bool.eq_iff_iff]; simp only [decide_eq_true_eq, Road.eq_iff]; simp [*]))
  refine nk (k := nk (k := nk (k := nk (k := nk (k := nv v_pick_f (nv v_move (nk (k := nk (k := nk (k := nk (k := nk (k := ?_))))))))))))
  refine nv v_pick_f (nv v_move (nk (k := nk (k := nk (k := nk (k := nk (k := nv v_pick_f (nv v_assign (nx_nil (nx_then (nx_ret ?_)))))))))))
  exact nx_ret1 rfl (.tmp rfl) (rs (by congr 1; rw [Bool.eq_iff_iff]; simp only [decide_eq_true_eq, Road.eq_iff]; simp [*]))
  refine nk (k := nk (k := nk (k := nk (k := nk (k := nv v_pick_f (nv v_move (nk (k := nk (k := nk (k := nk (k := nk (k := ?_))))))))))))
  refine nv v_pick_f (nv v_move (nk (k := nk (k := nk (k := nk (k := nk (k := nv v_pick_f (nv v_move (nk (k := nk (k := nk (k := ?_))))))))))))
  refine nk (k := nk (k := nv v_pick_f (nv v_assign (nx_nil (nx_then (nx_ret ?_))))))
  exact nx_ret1 rfl (.tmp rfl) (rs (by congr 1; rw [Bool.eq_iff_iff]; simp only [decide_eq_true_eq, Road.eq_iff]; simp [*]))
  refine nk (k := nk (k := nk (k := nk (k := nk (k := nv v_pick_f (nv v_move (nk (k := nk (k := nk (k := nk (k := nk (k := ?_))))))))))))
  refine nv v_pick_f (nv v_move (nk (k := nk (k := nk (k := nk (k := nk (k := nv v_pick_f (nv v_move (nk (k := nk (k := nk (k := ?_))))))))))))
  refine nk (k := nk (k := nv v_pick_f (nv v_move (nk (k := nk (k := nk (k := nk (k := nk (k := nv v_pick_f (nv v_assign (nx_nil ?_)))))))))))
  refine nx_then (nx_ret ?_)
  exact nx_ret1 rfl (.tmp rfl) (rs (by congr 1; rw [Bool.eq_iff_iff]; simp only [decide_eq_true_eq, Road.eq_iff]; simp [*]))
  refine nk (k := nk (k := nk (k := nk (k := nk (k := nv v_pick_f (nv v_move (nk (k := nk (k := nk (k := nk (k := nk (k := ?_))))))))))))
  refine nv v_pick_f (nv v_move (nk (k := nk (k := nk (k := nk (k := nk (k := nv v_pick_f (nv v_move (nk (k := nk (k := nk (k := ?_))))))))))))
  refine nk (k := nk (k := nv v_pick_f (nv v_move (nk (k := nk (k := nk (k := nk (k := nk (k := nv v_pick_f (nv v_move (nk (k := ?_))))))))))))
  refine nk (k := nk (k := nk (k := nk (k := nv v_pick_f (nv v_assign (nx_nil (nx_then (nx_ret ?_))))))))
  exact nx_ret1 rfl (.tmp rfl) (rs (by congr 1; rw [Bool.eq_iff_iff]; simp only [decide_eq_true_eq, Road.eq_iff]; simp [*]))
  refine nk (k := nk (k := nk (k := nk (k := nk (k := nv v_pick_f (nv v_move (nk (k := nk (k := nk (k := nk (k := nk (k := ?_))))))))))))
  refine nv v_pick_f (nv v_move (nk (k := nk (k := nk (k := nk (k := nk (k := nv v_pick_f (nv v_move (nk (k := nk (k := nk (k := ?_))))))))))))
  refine nk (k := nk (k := nv v_pick_f (nv v_move (nk (k := nk (k := nk (k := nk (k := nk (k := nv v_pick_f (nv v_move (nk (k := ?_))))))))))))
  refine nk (k := nk (k := nk (k := nk (k := nv v_pick_f (nv v_move (nk (k := nk (k := nk (k := nk (k := nk (k := nv v_pick_f ?_)))))))))))
  refine nv v_assign (nx_nil (nx_then (nx_ret ?_)))
  exact nx_ret1 rfl (.tmp rfl) (rs (by congr 1; rw [Bool.eq_iff_iff]; simp only [decide_eq_true_eq, Road.eq_iff]; simp [*]))
  refine nk (k := nk (k := nk (k := nk (k := nk (k := nv v_pick_f (nv v_move (nk (k := nk (k := nk (k := nk (k := nk (k := ?_))))))))))))
  refine nv v_pick_f (nv v_move (nk (k := nk (k := nk (k := nk (k := nk (k := nv v_pick_f (nv v_move (nk (k := nk (k := nk (k := ?_))))))))))))
  refine nk (k := nk (k := nv v_pick_f (nv v_move (nk (k := nk (k := nk (k := nk (k := nk (k := nv v_pick_f (nv v_move (nk (k := ?_))))))))))))
  refine nk (k := nk (k := nk (k := nk (k := nv v_pick_f (nv v_move (nk (k := nk (k := nk (k := nk (k := nk (k := nv v_pick_f ?_)))))))))))
  refine nv v_move (nk (k := nk (k := nk (k := nk (k := nk (k := nv v_pick_f (nv v_assign (nx_nil (nx_then (nx_ret ?_))))))))))
  exact nx_ret1 rfl (.tmp rfl) (rs (by congr 1; rw [Bool.eq_iff_iff]; simp only [decide_eq_true_eq, Road.eq_iff]; simp [*]))
set_option maxRecDepth 20000 in
set_option maxHeartbeats 1000000 in
theorem lineSame_ok {G : Gh} {H : List (Nat × Obj)} {W : World} (hp : Hp G H W) {A1 : Option Addr} {n1 c1 : Nat} {a : Line} (at_ : Line.At G A1 n1 c1 a) {xA1 : Option Addr} {xn1 xc1 : Nat} {b : Line} (bt : Line.At G xA1 xn1 xc1 b) : Calls Tryz.prog 193 ⟨[.agg ⟨[.string a.name, .slice A1 n1 c1]⟩, .agg ⟨[.string b.name, .slice xA1 xn1 xc1]⟩]⟩ W (RetS G H (.bool (decide (a = b)))) := by
  refine enter Tryz.func193 rfl Tryz.ntmps193 (Nat.le_of_ble_eq_true rfl) hp (nx_seq (nx_region ?_))
  refine nx_op rfl (op_box rfl rfl (fun b2 => ?_))
  refine nx_op rfl (op_box rfl rfl (fun b3 => ?_))
  refine nv v_assign (nx_nil (nx_then (nx_seq (nx_region (nv v_fieldAddr (nv v_load1_o (nv v_fieldAddr (nv v_load1_o (nv v_eql_str (nv v_move ?_))))))))))
  refine nx_guard_dec (t := 10) rfl (fun g10 => ?_) (fun g10 => ?_)
  refine nr v_fieldAddr (nr v_load1_o (nr v_fieldAddr (nr v_load1_o ?_)))
  refine nx_op_run rfl rfl rfl (op_callS rfl rfl rfl (fun W hp => equal_Int hp at_.h1 bt.h1) ?_)
  refine nv v_pick_t (nv v_assign (nx_nil (nx_then (nx_ret ?_))))
  exact nx_ret1 rfl (.tmp rfl) (rs (by congr 1; rw [Bool.eq_iff_iff]; simp only [decide_eq_true_eq, Line.eq_iff]; simp [*]))
  refine nk (k := nk (k := nk (k := nk (k := nk (k := nv v_pick_f (nv v_assign (nx_nil (nx_then (nx_ret ?_)))))))))
  exact nx_ret1 rfl (.tmp rfl) (rs (by congr 1; rw [Bool.eq_iff_iff]; simp only [decide_eq_true_eq, Line.eq_iff]; simp [*]))
set_option maxRecDepth 20000 in
set_option maxHeartbeats 1000000 in
theorem equalF_Road {G : Gh} {H : List (Nat × Obj)} {W : World} (hp : Hp G H W) {A B : Option Addr} {n c n' c' : Nat} {l m : List Road} (hs : Sl tRoad G A n c l) (ht : Sl tRoad G B n' c' m) : Calls Tryz.prog 159 ⟨[.slice A n c, .slice B n' c', .func (.func 160) #[] #[]]⟩ W (RetS G H (.bool (decide (l = m)))) := by
  have hl := hs.length
  have hm := ht.length
  have hb := Nat.le_trans hs.cap hs.room
  refine enter Tryz.func159 rfl Tryz.ntmps159 (Nat.le_of_ble_eq_true rfl) hp (nx_seq (nx_region (nv v_assign (nx_nil (nx_then (nx_seq (nx_seq (nx_region (nv v_move (nv v_len (nv v_move ?_)))))))))))
  refine nv v_len (nv v_neq (nx_nil (nx_then ?_)))
  refine nx_cond_dec rfl (fun c14 => ?_) (fun c14 => ?_)
  have hne : ¬ l = m := by intro e; subst e; omega
  refine nx_seq (nx_region (nv v_assign (nx_nil (nx_then (nx_ret (nx_then_ret ?_))))))
  exact nx_ret1 rfl (.tmp rfl) (rs (by rw [decide_eq_false hne]))
  obtain rfl : n = n' := by omega
  refine nx_skip (nx_then (nx_seq (nx_seq (nx_region (nv v_move (nv v_len (nv v_move (nx_nil (nx_then (nx_block ?_))))))))))
  refine nx_loop_v (σ := Nat) [0, 1, 2, 10, 11, 12, 13, 14, 15, 16] (fun s => [(17, .int .i64 (s : Int))]) (fun s => G) (fun _ => _) (fun s => decide (l = m) = decide (l.drop s = m.drop s)) (fun s => n - s) 0 (.cons rfl (.cons rfl (.cons rfl (.cons rfl (.cons rfl (.cons rfl (.cons rfl (.cons rfl (.cons rfl (.cons rfl (.nil))))))))))) ⟨rfl, trivial⟩ rfl rfl rfl ?_
  intro k hI K next
  refine nx_seq (nx_region (nv v_lss (nx_nil (nx_then (nx_seq ?_)))))
  refine nx_cond_dec rfl (fun c18 => ?_) (fun c18 => ?_)
  obtain ⟨x, rest, hd, hx⟩ := drop_of_lt (xs := l) (k := k) (by omega)
  obtain ⟨y, rest', hd', hy⟩ := drop_of_lt (xs := m) (k := k) (by omega)
  obtain ⟨xb, xo, xA1, xn1, xc1, xA2, xn2, xc2, xA3, xn3, xc3, xA4, xn4, xc4, xA5, xn5, xc5, xe, xk, xr, xf0, xf1, xf2, xf3, xf4, xf5, xf6, xf7, xf8, xat⟩ := next_Road hs hd
  cases xe
  obtain ⟨yb, yo, yA1, yn1, yc1, yA2, yn2, yc2, yA3, yn3, yc3, yA4, yn4, yc4, yA5, yn5, yc5, ye, yk, yr, yf0, yf1, yf2, yf3, yf4, yf5, yf6, yf7, yf8, yat⟩ := next_Road ht hd'
  cases ye
  refine nx_skip (nx_then (nx_seq (nx_block (nx_seq (nx_region (nv v_move (nv (v_indexAddr_nat rfl rfl rfl (by omega)) (nv v_load_s ?_))))))))
  refine nx_op rfl (op_alloc rfl (fun b8 => ?_))
  refine nv v_assign (st (k := nx_nil (nx_then (nx_seq (nx_region (nv v_move (nv v_move (nv (v_indexAddr_nat (k := k) rfl rfl rfl (by omega)) (nv v_load_s ?_)))))))))
  refine nx_op rfl (op_alloc rfl (fun b9 => ?_))
  refine st (k := nx_nil (nx_then (nx_seq (nx_region (nv v_move (nv v_load_o (nv v_load_o ?_)))))))
  refine nx_op rfl (op_callS rfl rfl rfl (fun W hp => roadSame_ok hp xat yat) ?_)
  refine nv v_not_dec (nx_nil (nx_then ?_))
  refine nx_cond_dec rfl (fun c30 => ?_) (fun c30 => ?_)
  refine nx_seq (nx_region (nv v_assign (nx_nil (nx_then (nx_ret (nx_in_ret (nx_then_ret (nx_then_ret (nx_in_ret (nx_then_ret ?_))))))))))
  have hxy : ¬ x = y := by simpa using c30
  exact nx_ret1 rfl (.tmp rfl) (rs (by rw [hI, hd, hd', decide_eq_false (by simp only [List.cons.injEq, not_and]; intro h; exact absurd h hxy)]))
  refine nx_skip (nx_in _ (nx_then (nx_region (nv v_add (nv v_move (nx_nil (nx_then ?_)))))))
  have hxy : x = y := by simpa using c30
  exact nn (next (k + 1) (by rw [hI, hd, hd', xr, yr]; simp only [List.cons.injEq, hxy, true_and]) (by omega))
  refine nx_exit (nx_then_exit (nx_then_exit (nx_in_eq (nx_then (nx_seq (nx_region (nv v_assign (nx_nil (nx_then (nx_ret ?_))))))))))
  exact nx_ret1 rfl (.tmp rfl) (rs (by rw [hI, List.drop_eq_nil_of_le (by omega), List.drop_eq_nil_of_le (by omega)]; rfl))
set_option maxRecDepth 20000 in
set_option maxHeartbeats 1000000 in
theorem equalF_Line {G : Gh} {H : List (Nat × Obj)} {W : World} (hp : Hp G H W) {A B : Option Addr} {n c n' c' : Nat} {l m : List Line} (hs : Sl tLine G A n c l) (ht : Sl tLine G B n' c' m) : Calls Tryz.prog 192 ⟨[.slice A n c, .slice B n' c', .func (.func 193) #[] #[]]⟩ W (RetS G H (.bool (decide (l = m)))) := by
  have hl := hs.length
  have hm := ht.length
  have hb := Nat.le_trans hs.cap hs.room
  refine enter Tryz.func192 rfl Tryz.ntmps192 (Nat.le_of_ble_eq_true rfl) hp (nx_seq (nx_region (nv v_assign (nx_nil (nx_then (nx_seq (nx_seq (nx_region (nv v_move (nv v_len (nv v_move ?_)))))))))))
  refine nv v_len (nv v_neq (nx_nil (nx_then ?_)))
  refine nx_cond_dec rfl (fun c14 => ?_) (fun c14 => ?_)
  have hne : ¬ l = m := by intro e; subst e; omega
  refine nx_seq (nx_region (nv v_assign (nx_nil (nx_then (nx_ret (nx_then_ret ?_))))))
  exact nx_ret1 rfl (.tmp rfl) (rs (by rw [decide_eq_false hne]))
  obtain rfl : n = n' := by omega
  refine nx_skip (nx_then (nx_seq (nx_seq (nx_region (nv v_move (nv v_len (nv v_move (nx_nil (nx_then (nx_block ?_))))))))))
  refine nx_loop_v (σ := Nat) [0, 1, 2, 10, 11, 12, 13, 14, 15, 16] (fun s => [(17, .int .i64 (s : Int))]) (fun s => G) (fun _ => _) (fun s => decide (l = m) = decide (l.drop s = m.drop s)) (fun s => n - s) 0 (.cons rfl (.cons rfl (.cons rfl (.cons rfl (.cons rfl (.cons rfl (.cons rfl (.cons rfl (.cons rfl (.cons rfl (.nil))))))))))) ⟨rfl, trivial⟩ rfl rfl rfl ?_
  intro k hI K next
  refine nx_seq (nx_region (nv v_lss (nx_nil (nx_then (nx_seq ?_)))))
  refine nx_cond_dec rfl (fun c18 => ?_) (fun c18 => ?_)
  obtain ⟨x, rest, hd, hx⟩ := drop_of_lt (xs := l) (k := k) (by omega)
  obtain ⟨y, rest', hd', hy⟩ := drop_of_lt (xs := m) (k := k) (by omega)
  obtain ⟨xb, xo, xA1, xn1, xc1, xe, xk, xr, xf0, xf1, xat⟩ := next_Line hs hd
  cases xe
  obtain ⟨yb, yo, yA1, yn1, yc1, ye, yk, yr, yf0, yf1, yat⟩ := next_Line ht hd'
  cases ye
  refine nx_skip (nx_then (nx_seq (nx_block (nx_seq (nx_region (nv v_move (nv (v_indexAddr_nat rfl rfl rfl (by omega)) (nv v_load_s ?_))))))))
  refine nx_op rfl (op_alloc rfl (fun b8 => ?_))
  refine nv v_assign (st (k := nx_nil (nx_then (nx_seq (nx_region (nv v_move (nv v_move (nv (v_indexAddr_nat (k := k) rfl rfl rfl (by omega)) (nv v_load_s ?_)))))))))
  refine nx_op rfl (op_alloc rfl (fun b9 => ?_))
  refine st (k := nx_nil (nx_then (nx_seq (nx_region (nv v_move (nv v_load_o (nv v_load_o ?_)))))))
  refine nx_op rfl (op_callS rfl rfl rfl (fun W hp => lineSame_ok hp xat yat) ?_)
  refine nv v_not_dec (nx_nil (nx_then ?_))
  refine nx_cond_dec rfl (fun c30 => ?_) (fun c30 => ?_)
  refine nx_seq (nx_region (nv v_assign (nx_nil (nx_then (nx_ret (nx_in_ret (nx_then_ret (nx_then_ret (nx_in_ret (nx_then_ret ?_))))))))))
  have hxy : ¬ x = y := by simpa using c30
  exact nx_ret1 rfl (.tmp rfl) (rs (by rw [hI, hd, hd', decide_eq_false (by simp only [List.cons.injEq, not_and]; intro h; exact absurd h hxy)]))
  refine nx_skip (nx_in _ (nx_then (nx_region (nv v_add (nv v_move (nx_nil (nx_then ?_)))))))
  have hxy : x = y := by simpa using c30
  exact nn (next (k + 1) (by rw [hI, hd, hd', xr, yr]; simp only [List.cons.injEq, hxy, true_and]) (by omega))
  refine nx_exit (nx_then_exit (nx_then_exit (nx_in_eq (nx_then (nx_seq (nx_region (nv v_assign (nx_nil (nx_then (nx_ret ?_))))))))))
  exact nx_ret1 rfl (.tmp rfl) (rs (by rw [hI, List.drop_eq_nil_of_le (by omega), List.drop_eq_nil_of_le (by omega)]; rfl))
set_option maxRecDepth 20000 in
set_option maxHeartbeats 1000000 in
theorem planSame_ok {G : Gh} {H : List (Nat × Obj)} {W : World} (hp : Hp G H W) {A1 : Option Addr} {n1 c1 : Nat} {A2 : Option Addr} {n2 c2 : Nat} {A3 : Option Addr} {n3 c3 : Nat} {A4 : Option Addr} {n4 c4 : Nat} {a : Plan} (at_ : Plan.At G A1 n1 c1 A2 n2 c2 A3 n3 c3 A4 n4 c4 a) {xA1 : Option Addr} {xn1 xc1 : Nat} {xA2 : Option Addr} {xn2 xc2 : Nat} {xA3 : Option Addr} {xn3 xc3 : Nat} {xA4 : Option Addr} {xn4 xc4 : Nat} {b : Plan} (bt : Plan.At G xA1 xn1 xc1 xA2 xn2 xc2 xA3 xn3 xc3 xA4 xn4 xc4 b) : Calls Tryz.prog 158 ⟨[.agg ⟨[.slice A1 n1 c1, .slice A2 n2 c2, .slice A3 n3 c3, .slice A4 n4 c4, .int .i64 a.top, .int .i64 a.brake, .int .i64 a.margin, .int .i64 a.throw_, .bool a.hard]⟩, .agg ⟨[.slice xA1 xn1 xc1, .slice xA2 xn2 xc2, .slice xA3 xn3 xc3, .slice xA4 xn4 xc4, .int .i64 b.top, .int .i64 b.brake, .int .i64 b.margin, .int .i64 b.throw_, .bool b.hard]⟩]⟩ W (RetS G H (.bool (decide (a = b)))) := by
  refine enter Tryz.func158 rfl Tryz.ntmps158 (Nat.le_of_ble_eq_true rfl) hp (nx_seq (nx_region ?_))
  refine nx_op rfl (op_box rfl rfl (fun b2 => ?_))
  refine nx_op rfl (op_box rfl rfl (fun b3 => ?_))
  refine nv v_assign (nx_nil (nx_then (nx_seq (nx_region (nv v_fieldAddr (nv v_load1_o (nv v_fieldAddr (nv v_load1_o ?_))))))))
  refine nx_op rfl (op_callS rfl rfl rfl (fun W hp => equal_Elem hp at_.h1 bt.h1) ?_)
  refine nv v_move ?_
  refine nx_guard_dec (t := 10) rfl (fun g10 => ?_) (fun g10 => ?_)
  refine nr v_fieldAddr (nr v_load1_o (nr v_fieldAddr (nr v_load1_o ?_)))
  refine nx_op_run rfl rfl rfl (op_callS rfl rfl rfl (fun W hp => equal_Join hp at_.h2 bt.h2) ?_)
  refine nv v_pick_t (nv v_move ?_)
  refine nx_guard_dec (t := 17) rfl (fun g17 => ?_) (fun g17 => ?_)
  refine nr v_fieldAddr (nr v_load1_o (nr v_fieldAddr (nr v_load1_o ?_)))
  refine nx_op_run rfl rfl rfl (op_callS rfl rfl rfl (fun W hp => equal_Signal hp at_.h3 bt.h3) ?_)
  refine nv v_pick_t (nv v_move ?_)
  refine nx_guard_dec (t := 24) rfl (fun g24 => ?_) (fun g24 => ?_)
  refine nr v_fieldAddr (nr v_load1_o (nr v_fieldAddr (nr v_load1_o ?_)))
  refine nx_op_run rfl rfl rfl (op_callS rfl rfl rfl (fun W hp => equalF_Line hp at_.h4 bt.h4) ?_)
  refine nv v_pick_t (nv v_move ?_)
  refine nx_guard_dec (t := 31) rfl (fun g31 => ?_) (fun g31 => ?_)
  refine nr v_fieldAddr (nr v_load1_o (nr v_fieldAddr (nr v_load1_o (nr v_eql (nv v_pick_t (nv v_move ?_))))))
  refine nx_guard_dec (t := 38) rfl (fun g38 => ?_) (fun g38 => ?_)
  refine nr v_fieldAddr (nr v_load1_o (nr v_fieldAddr (nr v_load1_o (nr v_eql (nv v_pick_t (nv v_move ?_))))))
  refine nx_guard_dec (t := 45) rfl (fun g45 => ?_) (fun g45 => ?_)
  refine nr v_fieldAddr (nr v_load1_o (nr v_fieldAddr (nr v_load1_o (nr v_eql (nv v_pick_t (nv v_move ?_))))))
  refine nx_guard_dec (t := 52) rfl (fun g52 => ?_) (fun g52 => ?_)
  refine nr v_fieldAddr (nr v_load1_o (nr v_fieldAddr (nr v_load1_o (nr v_eql (nv v_pick_t (nv v_move ?_))))))
  refine nx_guard_dec (t := 59) rfl (fun g59 => ?_) (fun g59 => ?_)
  refine nr v_fieldAddr (nr v_load1_o (nr v_fieldAddr (nr v_load1_o (nr v_eql_bool (nv v_pick_t (nv v_assign (nx_nil (nx_then (nx_ret ?_)))))))))
  exact nx_ret1 rfl (.tmp rfl) (rs (by congr 1; rw [Bool.eq_iff_iff]; simp only [decide_eq_true_eq, Plan.eq_iff]; simp [*]))
  refine nk (k := nk (k := nk (k := nk (k := nk (k := nv v_pick_f (nv v_assign (nx_nil (nx_then (nx_ret ?_)))))))))
  exact nx_ret1 rfl (.tmp rfl) (rs (by congr 1; rw [Bool.eq_iff_iff]; simp only [decide_eq_true_eq, Plan.eq_iff]; simp [*]))
  refine nk (k := nk (k := nk (k := nk (k := nk (k := nv v_pick_f (nv v_move (nk (k := nk (k := nk (k := nk (k := nk (k := ?_))))))))))))
  refine nv v_pick_f (nv v_assign (nx_nil (nx_then (nx_ret ?_))))
  exact nx_ret1 rfl (.tmp rfl) (rs (by congr 1; rw [Bool.eq_iff_iff]; simp only [decide_eq_true_eq, Plan.eq_iff]; simp [*]))
  refine nk (k := nk (k := nk (k := nk (k := nk (k := nv v_pick_f (nv v_move (nk (k := nk (k := nk (k := nk (k := nk (k := ?_))))))))))))
  refine nv v_pick_f (nv v_move (nk (k := nk (k := nk (k := nk (k := nk (k := nv v_pick_f (nv v_assign (nx_nil (nx_then (nx_ret ?_)))))))))))
  exact nx_ret1 rfl (.tmp rfl) (rs (by congr 1; rw [Bool.eq_iff_iff]; simp only [decide_eq_true_eq, Plan.eq_iff]; simp [*]))
  refine nk (k := nk (k := nk (k := nk (k := nk (k := nv v_pick_f (nv v_move (nk (k := nk (k := nk (k := nk (k := nk (k := ?_))))))))))))
  refine nv v_pick_f (nv v_move (nk (k := nk (k := nk (k := nk (k := nk (k := nv v_pick_f (nv v_move (nk (k := nk (k := nk (k := ?_))))))))))))
  refine nk (k := nk (k := nv v_pick_f (nv v_assign (nx_nil (nx_then (nx_ret ?_))))))
  exact nx_ret1 rfl (.tmp rfl) (rs (by congr 1; rw [Bool.eq_iff_iff]; simp only [decide_eq_true_eq, Plan.eq_iff]; simp [*]))
  refine nk (k := nk (k := nk (k := nk (k := nk (k := nv v_pick_f (nv v_move (nk (k := nk (k := nk (k := nk (k := nk (k := ?_))))))))))))
  refine nv v_pick_f (nv v_move (nk (k := nk (k := nk (k := nk (k := nk (k := nv v_pick_f (nv v_move (nk (k := nk (k := nk (k := ?_))))))))))))
  refine nk (k := nk (k := nv v_pick_f (nv v_move (nk (k := nk (k := nk (k := nk (k := nk (k := nv v_pick_f (nv v_assign (nx_nil ?_)))))))))))
  refine nx_then (nx_ret ?_)
  exact nx_ret1 rfl (.tmp rfl) (rs (by congr 1; rw [Bool.eq_iff_iff]; simp only [decide_eq_true_eq, Plan.eq_iff]; simp [*]))
  refine nk (k := nk (k := nk (k := nk (k := nk (k := nv v_pick_f (nv v_move (nk (k := nk (k := nk (k := nk (k := nk (k := ?_))))))))))))
  refine nv v_pick_f (nv v_move (nk (k := nk (k := nk (k := nk (k := nk (k := nv v_pick_f (nv v_move (nk (k := nk (k := nk (k := ?_))))))))))))
  refine nk (k := nk (k := nv v_pick_f (nv v_move (nk (k := nk (k := nk (k := nk (k := nk (k := nv v_pick_f (nv v_move (nk (k := ?_))))))))))))
  refine nk (k := nk (k := nk (k := nk (k := nv v_pick_f (nv v_assign (nx_nil (nx_then (nx_ret ?_))))))))
  exact nx_ret1 rfl (.tmp rfl) (rs (by congr 1; rw [Bool.eq_iff_iff]; simp only [decide_eq_true_eq, Plan.eq_iff]; simp [*]))
  refine nk (k := nk (k := nk (k := nk (k := nk (k := nv v_pick_f (nv v_move (nk (k := nk (k := nk (k := nk (k := nk (k := ?_))))))))))))
  refine nv v_pick_f (nv v_move (nk (k := nk (k := nk (k := nk (k := nk (k := nv v_pick_f (nv v_move (nk (k := nk (k := nk (k := ?_))))))))))))
  refine nk (k := nk (k := nv v_pick_f (nv v_move (nk (k := nk (k := nk (k := nk (k := nk (k := nv v_pick_f (nv v_move (nk (k := ?_))))))))))))
  refine nk (k := nk (k := nk (k := nk (k := nv v_pick_f (nv v_move (nk (k := nk (k := nk (k := nk (k := nk (k := nv v_pick_f ?_)))))))))))
  refine nv v_assign (nx_nil (nx_then (nx_ret ?_)))
  exact nx_ret1 rfl (.tmp rfl) (rs (by congr 1; rw [Bool.eq_iff_iff]; simp only [decide_eq_true_eq, Plan.eq_iff]; simp [*]))
  refine nk (k := nk (k := nk (k := nk (k := nk (k := nv v_pick_f (nv v_move (nk (k := nk (k := nk (k := nk (k := nk (k := ?_))))))))))))
  refine nv v_pick_f (nv v_move (nk (k := nk (k := nk (k := nk (k := nk (k := nv v_pick_f (nv v_move (nk (k := nk (k := nk (k := ?_))))))))))))
  refine nk (k := nk (k := nv v_pick_f (nv v_move (nk (k := nk (k := nk (k := nk (k := nk (k := nv v_pick_f (nv v_move (nk (k := ?_))))))))))))
  refine nk (k := nk (k := nk (k := nk (k := nv v_pick_f (nv v_move (nk (k := nk (k := nk (k := nk (k := nk (k := nv v_pick_f ?_)))))))))))
  refine nv v_move (nk (k := nk (k := nk (k := nk (k := nk (k := nv v_pick_f (nv v_assign (nx_nil (nx_then (nx_ret ?_))))))))))
  exact nx_ret1 rfl (.tmp rfl) (rs (by congr 1; rw [Bool.eq_iff_iff]; simp only [decide_eq_true_eq, Plan.eq_iff]; simp [*]))
end Go.Proofs.YtjckojnlapchoaaGreat
open Go Go.RowKit
namespace Go.Proofs.YtjckojnlapchoaaGreat
open Go.Proofs
set_option maxRecDepth 20000 in
set_option maxHeartbeats 1000000 in
theorem chartSame_ok {G : Gh} {H : List (Nat × Obj)} {W : World} (hp : Hp G H W) {A1 : Option Addr} {n1 c1 : Nat} {A2 : Option Addr} {n2 c2 : Nat} {A3 : Option Addr} {n3 c3 : Nat} {A4 : Option Addr} {n4 c4 : Nat} {A5 : Option Addr} {n5 c5 : Nat} {a : Chart} (at_ : Chart.At G A1 n1 c1 A2 n2 c2 A3 n3 c3 A4 n4 c4 A5 n5 c5 a) {xA1 : Option Addr} {xn1 xc1 : Nat} {xA2 : Option Addr} {xn2 xc2 : Nat} {xA3 : Option Addr} {xn3 xc3 : Nat} {xA4 : Option Addr} {xn4 xc4 : Nat} {xA5 : Option Addr} {xn5 xc5 : Nat} {b : Chart} (bt : Chart.At G xA1 xn1 xc1 xA2 xn2 xc2 xA3 xn3 xc3 xA4 xn4 xc4 xA5 xn5 xc5 b) : Calls Tryz.prog 99 ⟨[.agg ⟨[.slice A1 n1 c1, .slice A2 n2 c2, .slice A3 n3 c3, .slice A4 n4 c4, .int .i64 a.plan.top, .int .i64 a.plan.brake, .int .i64 a.plan.margin, .int .i64 a.plan.throw_, .bool a.plan.hard, .slice A5 n5 c5]⟩, .agg ⟨[.slice xA1 xn1 xc1, .slice xA2 xn2 xc2, .slice xA3 xn3 xc3, .slice xA4 xn4 xc4, .int .i64 b.plan.top, .int .i64 b.plan.brake, .int .i64 b.plan.margin, .int .i64 b.plan.throw_, .bool b.plan.hard, .slice xA5 xn5 xc5]⟩]⟩ W (RetS G H (.bool (decide (a = b)))) := by
  refine enter Tryz.func99 rfl Tryz.ntmps99 (Nat.le_of_ble_eq_true rfl) hp (nx_seq (nx_region ?_))
  refine nx_op rfl (op_box rfl rfl (fun b2 => ?_))
  refine nx_op rfl (op_box rfl rfl (fun b3 => ?_))
  refine nv v_assign (nx_nil (nx_then (nx_seq (nx_region (nv v_fieldAddr (nv v_load_o (nv v_fieldAddr (nv v_load_o ?_))))))))
  refine nx_op rfl (op_callS rfl rfl rfl (fun W hp => planSame_ok hp (a := a.plan) ⟨at_.h1, at_.h2, at_.h3, at_.h4⟩ (b := b.plan) ⟨bt.h1, bt.h2, bt.h3, bt.h4⟩) ?_)
  refine nv v_move ?_
  refine nx_guard_dec (t := 10) rfl (fun g10 => ?_) (fun g10 => ?_)
  refine nr v_fieldAddr (nr v_load1_o (nr v_fieldAddr (nr v_load1_o ?_)))
  refine nx_op_run rfl rfl rfl (op_callS rfl rfl rfl (fun W hp => equalF_Road hp at_.h5 bt.h5) ?_)
  refine nv v_pick_t (nv v_assign (nx_nil (nx_then (nx_ret ?_))))
  exact nx_ret1 rfl (.tmp rfl) (rs (by congr 1; rw [Bool.eq_iff_iff]; simp only [decide_eq_true_eq, Chart.eq_iff]; simp [*]))
  refine nk (k := nk (k := nk (k := nk (k := nk (k := nv v_pick_f (nv v_assign (nx_nil (nx_then (nx_ret ?_)))))))))
  exact nx_ret1 rfl (.tmp rfl) (rs (by congr 1; rw [Bool.eq_iff_iff]; simp only [decide_eq_true_eq, Chart.eq_iff]; simp [*]))
def boxErr (c : Chart) : Int := if ¬ chartErr c.plan = 0 then chartErr c.plan else if c = chartOf c.plan then 0 else 1
def IsBox (e : Int) (_ : Gh) (v : Value) : Prop := ∃ pv, v = .tuple #[pv, .int .i64 e] ∧ (e = 0 → ∃ b, pv = .pointer (some ⟨b, 0, none⟩))
set_option maxRecDepth 20000 in
set_option maxHeartbeats 1000000 in
theorem boxNew_ok {G : Gh} {H : List (Nat × Obj)} {W : World} (hp : Hp G H W) {A1 : Option Addr} {n1 c1 : Nat} {A2 : Option Addr} {n2 c2 : Nat} {A3 : Option Addr} {n3 c3 : Nat} {A4 : Option Addr} {n4 c4 : Nat} {A5 : Option Addr} {n5 c5 : Nat} {c : Chart} (at_ : Chart.At G A1 n1 c1 A2 n2 c2 A3 n3 c3 A4 n4 c4 A5 n5 c5 c) : Calls Tryz.prog 47 ⟨[.agg ⟨[.slice A1 n1 c1, .slice A2 n2 c2, .slice A3 n3 c3, .slice A4 n4 c4, .int .i64 c.plan.top, .int .i64 c.plan.brake, .int .i64 c.plan.margin, .int .i64 c.plan.throw_, .bool c.plan.hard, .slice A5 n5 c5]⟩]⟩ W (RetD G H (IsBox (boxErr c))) := by
  refine enter Tryz.func47 rfl Tryz.ntmps47 (Nat.le_of_ble_eq_true rfl) hp (nx_seq (nx_region ?_))
  refine nx_op rfl (op_box rfl rfl (fun b1 => ?_))
  refine nv v_assign (nv v_assign (nx_nil (nx_then (nx_seq (nx_region (nv v_fieldAddr (nv v_load_o ?_)))))))
  refine nx_op rfl (op_callD rfl rfl rfl (fun W hp => build_ok hp (p := c.plan) ⟨at_.h1, at_.h2, at_.h3, at_.h4⟩) (fun v10 G10 le10 ph10 => ?_))
  obtain ⟨B1, u1, w1, B2, u2, w2, B3, u3, w3, B4, u4, w4, B5, u5, w5, rfl, bt⟩ := ph10
  refine nv v_move (nv (v_extract rfl rfl rfl) (nv (v_extract rfl rfl rfl) ?_))
  refine nx_op rfl (op_alloc rfl (fun b4 => ?_))
  refine st (k := nv v_assign (nx_nil (nx_then (nx_seq (nx_seq (nx_region (nv v_move (nv v_neq (nx_nil (nx_then ?_))))))))))
  refine nx_cond_dec rfl (fun c14 => ?_) (fun c14 => ?_)
  have hE : boxErr c = chartErr c.plan := if_pos c14
  refine nx_seq (nx_region (nv v_move (nv v_assign (nv v_assign (nx_nil (nx_then (nx_ret (nx_then_ret ?_))))))))
  exact nx_ret2 rfl (.tmp rfl) (.tmp rfl) (rt le10 ⟨_, (by rw [hE]; rfl), fun h0 => absurd (hE ▸ h0) c14⟩)
  have h0 : chartErr c.plan = 0 := by omega
  rw [if_pos h0] at bt ⊢
  obtain ⟨hok, hbig⟩ := chartErr_ok h0
  have hN := netOf_ok hok
  have hrl : (chartOf c.plan).roads.length ≤ 64 := by simp [chartOf]; omega
  have hb5 := bt.h5.length
  refine nx_skip (nx_then (nx_seq (nx_seq (nx_region (nv v_load_o (nv v_load_o ?_))))))
  refine nx_op rfl (op_callS rfl rfl rfl (fun W hp => chartSame_ok hp (at_.le le10) bt) ?_)
  refine nv v_not_dec (nx_nil (nx_then ?_))
  refine nx_cond_dec rfl (fun c19 => ?_) (fun c19 => ?_)
  have hne : ¬ c = chartOf c.plan := by simpa using c19
  have hE : boxErr c = 1 := by unfold boxErr; rw [if_neg (by omega), if_neg hne]
  refine nx_seq (nx_region (nv v_assign (nv v_assign (nx_nil (nx_then (nx_ret (nx_then_ret ?_)))))))
  exact nx_ret2 rfl (.tmp rfl) (.tmp rfl) (rt le10 ⟨_, (by rw [hE]), fun h0 => absurd (hE.symm.trans h0) (by decide)⟩)
  have heq : c = chartOf c.plan := by simpa using c19
  have hE : boxErr c = 0 := by unfold boxErr; rw [if_neg (by omega), if_pos heq]
  refine nx_skip (nx_then (nx_seq (nx_region (nv v_fieldAddr (nv v_load_o ?_)))))
  refine nx_op rfl (op_callD rfl rfl rfl (fun W hp => netNew_ok hp (p := (chartOf c.plan).plan) ⟨bt.h1, bt.h2, bt.h3, bt.h4⟩) (fun v23 G23 le23 ph23 => ?_))
  obtain ⟨pv, rfl, hpv⟩ := ph23.split
  obtain ⟨g, rfl, hnet⟩ := hpv hok
  have hpc : planCheck (chartOf c.plan).plan = 0 := hok
  rw [hpc]
  refine nv v_move (nv (v_extract rfl rfl rfl) (nv (v_extract rfl rfl rfl) (nv v_assign (nv v_assign (nx_nil (nx_then (nx_seq (nx_seq (nx_region (nv v_move (nv v_neq ?_)))))))))))
  refine nx_nil (nx_then ?_)
  refine nx_cond_dec rfl (fun c27 => ?_) (fun c27 => ?_)
  exfalso; omega
  refine nx_skip (nx_then (nx_seq (dr_begin 17 (.q 0 (.q 1 (.q 2 (.q 3 (.q 5 (.q 8 (.q 10 (.b 4 6 (.l 6 (.l 7 (.l 9 (.l 11 (.l 12 (.q 13 (.l 14 (.q 15 (.q 16 .done))))))))) (.b 4 7 (.l 7 (.l 9 (.l 11 (.l 12 (.q 13 (.l 14 (.q 15 (.q 16 .done)))))))) (.b 4 9 (.l 9 (.l 11 (.l 12 (.q 13 (.l 14 (.q 15 (.q 16 .done))))))) (.b 4 11 (.l 11 (.l 12 (.q 13 (.l 14 (.q 15 (.q 16 .done)))))) (.b 4 12 (.l 12 (.q 13 (.l 14 (.q 15 (.q 16 .done))))) (.l 4 (.q 13 (.l 14 (.q 15 (.q 16 .done))))))))))))))))) rfl (by kernel_rfl) (dr_q rfl rfl v_load_o ic (dr_q rfl rfl v_fieldAddr ic ?_)))))
  refine dr_q rfl rfl v_load1_o ic (dr_q rfl rfl v_len ic (dr_q rfl rfl v_move ic (dr_q rfl rfl v_move ic (dr_q rfl rfl v_move ic ?_))))
  refine dr_b rfl rfl rfl rfl ?_ ?_
  refine op_makeSliceU rfl rfl rfl (by omega) (by decide) (by decide) (fun b33 l33 hl33 => ?_)
  refine dr_k (ic.cons _) (dr_l rfl rfl ?_)
  refine op_callS rfl rfl rfl (fun W hp => len_ok hp hnet) ?_
  refine dr_k (ic.cons _) (dr_l rfl rfl ?_)
  refine op_callD rfl rfl rfl (fun W hp => lockNew_ok hp _) (fun v36 G36 le36 ph36 => ?_)
  obtain ⟨b36, rfl⟩ := ph36
  refine dr_k ((ic.cons _).le le36) (dr_l rfl rfl ?_)
  refine op_callD rfl rfl rfl (fun W hp => tokenNew_ok hp (hnet.le le36)) (fun v38 G38 le38 ph38 => ?_)
  obtain ⟨b38, rfl⟩ := ph38
  refine dr_k (((ic.cons _).le le36).le le38) (dr_l rfl rfl ?_)
  refine op_callS rfl rfl rfl (fun W hp => signals_ok hp (hnet.le (Gh.le.trans le36 le38))) ?_
  refine dr_k (((ic.cons _).le le36).le le38) (dr_l rfl rfl ?_)
  refine op_makeSlice rfl rfl rfl rfl (by have := hN.small.signals; show (netOf c.plan).p.signals.length ≤ _; omega) (by decide) (fun b41 => ?_)
  refine dr_k ((((ic.cons _).le le36).le le38).cons _) (dr_q rfl rfl (v_build rfl rfl rfl) ((((ic.cons _).le le36).le le38).cons _) (dr_l rfl rfl ?_))
  refine op_box rfl rfl (fun b43 => ?_)
  refine dr_k (((((ic.cons _).le le36).le le38).cons _).cons _) (dr_q rfl rfl v_assign (((((ic.cons _).le le36).le le38).cons _).cons _) (dr_q rfl rfl v_assign (((((ic.cons _).le le36).le le38).cons _).cons _) (dr_end rfl ?_)))
  refine nx_nil (nx_np ?_)
  refine nx_then (nx_ret ?_)
  exact nx_ret2 rfl (.tmp rfl) (.tmp rfl) (rt (Gh.le.trans le10 (Gh.le.trans le23 (Gh.le.trans le36 le38))) ⟨_, (by rw [hE]), fun _ => ⟨b43, rfl⟩⟩)
  refine op_callS rfl rfl rfl (fun W hp => len_ok hp hnet) ?_
  refine dr_k ic ?_
  refine dr_b rfl rfl rfl rfl ?_ ?_
  refine op_makeSliceU rfl rfl rfl (by omega) (by decide) (by decide) (fun b33 l33 hl33 => ?_)
  refine dr_k (ic.cons _) (dr_l rfl rfl ?_)
  refine op_callD rfl rfl rfl (fun W hp => lockNew_ok hp _) (fun v36 G36 le36 ph36 => ?_)
  obtain ⟨b36, rfl⟩ := ph36
  refine dr_k ((ic.cons _).le le36) (dr_l rfl rfl ?_)
  refine op_callD rfl rfl rfl (fun W hp => tokenNew_ok hp (hnet.le le36)) (fun v38 G38 le38 ph38 => ?_)
  obtain ⟨b38, rfl⟩ := ph38
  refine dr_k (((ic.cons _).le le36).le le38) (dr_l rfl rfl ?_)
  refine op_callS rfl rfl rfl (fun W hp => signals_ok hp (hnet.le (Gh.le.trans le36 le38))) ?_
  refine dr_k (((ic.cons _).le le36).le le38) (dr_l rfl rfl ?_)
  refine op_makeSlice rfl rfl rfl rfl (by have := hN.small.signals; show (netOf c.plan).p.signals.length ≤ _; omega) (by decide) (fun b41 => ?_)
  refine dr_k ((((ic.cons _).le le36).le le38).cons _) (dr_q rfl rfl (v_build rfl rfl rfl) ((((ic.cons _).le le36).le le38).cons _) (dr_l rfl rfl ?_))
  refine op_box rfl rfl (fun b43 => ?_)
  refine dr_k (((((ic.cons _).le le36).le le38).cons _).cons _) (dr_q rfl rfl v_assign (((((ic.cons _).le le36).le le38).cons _).cons _) (dr_q rfl rfl v_assign (((((ic.cons _).le le36).le le38).cons _).cons _) (dr_end rfl ?_)))
  refine nx_nil (nx_np ?_)
  refine nx_then (nx_ret ?_)
  exact nx_ret2 rfl (.tmp rfl) (.tmp rfl) (rt (Gh.le.trans le10 (Gh.le.trans le23 (Gh.le.trans le36 le38))) ⟨_, (by rw [hE]), fun _ => ⟨b43, rfl⟩⟩)
  refine op_callD rfl rfl rfl (fun W hp => lockNew_ok hp _) (fun v36 G36 le36 ph36 => ?_)
  obtain ⟨b36, rfl⟩ := ph36
  refine dr_k (ic.le le36) ?_
  refine dr_b rfl rfl rfl rfl ?_ ?_
  refine op_makeSliceU rfl rfl rfl (by omega) (by decide) (by decide) (fun b33 l33 hl33 => ?_)
  refine dr_k ((ic.le le36).cons _) (dr_l rfl rfl ?_)
  refine op_callD rfl rfl rfl (fun W hp => tokenNew_ok hp (hnet.le le36)) (fun v38 G38 le38 ph38 => ?_)
  obtain ⟨b38, rfl⟩ := ph38
  refine dr_k (((ic.le le36).cons _).le le38) (dr_l rfl rfl ?_)
  refine op_callS rfl rfl rfl (fun W hp => signals_ok hp (hnet.le (Gh.le.trans le36 le38))) ?_
  refine dr_k (((ic.le le36).cons _).le le38) (dr_l rfl rfl ?_)
  refine op_makeSlice rfl rfl rfl rfl (by have := hN.small.signals; show (netOf c.plan).p.signals.length ≤ _; omega) (by decide) (fun b41 => ?_)
  refine dr_k ((((ic.le le36).cons _).le le38).cons _) (dr_q rfl rfl (v_build rfl rfl rfl) ((((ic.le le36).cons _).le le38).cons _) (dr_l rfl rfl ?_))
  refine op_box rfl rfl (fun b43 => ?_)
  refine dr_k (((((ic.le le36).cons _).le le38).cons _).cons _) (dr_q rfl rfl v_assign (((((ic.le le36).cons _).le le38).cons _).cons _) (dr_q rfl rfl v_assign (((((ic.le le36).cons _).le le38).cons _).cons _) (dr_end rfl ?_)))
  refine nx_nil (nx_np ?_)
  refine nx_then (nx_ret ?_)
  exact nx_ret2 rfl (.tmp rfl) (.tmp rfl) (rt (Gh.le.trans le10 (Gh.le.trans le23 (Gh.le.trans le36 le38))) ⟨_, (by rw [hE]), fun _ => ⟨b43, rfl⟩⟩)
  refine op_callD rfl rfl rfl (fun W hp => tokenNew_ok hp (hnet.le le36)) (fun v38 G38 le38 ph38 => ?_)
  obtain ⟨b38, rfl⟩ := ph38
  refine dr_k ((ic.le le36).le le38) ?_
  refine dr_b rfl rfl rfl rfl ?_ ?_
  refine op_makeSliceU rfl rfl rfl (by omega) (by decide) (by decide) (fun b33 l33 hl33 => ?_)
  refine dr_k (((ic.le le36).le le38).cons _) (dr_l rfl rfl ?_)
  refine op_callS rfl rfl rfl (fun W hp => signals_ok hp (hnet.le (Gh.le.trans le36 le38))) ?_
  refine dr_k (((ic.le le36).le le38).cons _) (dr_l rfl rfl ?_)
  refine op_makeSlice rfl rfl rfl rfl (by have := hN.small.signals; show (netOf c.plan).p.signals.length ≤ _; omega) (by decide) (fun b41 => ?_)
  refine dr_k ((((ic.le le36).le le38).cons _).cons _) (dr_q rfl rfl (v_build rfl rfl rfl) ((((ic.le le36).le le38).cons _).cons _) (dr_l rfl rfl ?_))
  refine op_box rfl rfl (fun b43 => ?_)
  refine dr_k (((((ic.le le36).le le38).cons _).cons _).cons _) (dr_q rfl rfl v_assign (((((ic.le le36).le le38).cons _).cons _).cons _) (dr_q rfl rfl v_assign (((((ic.le le36).le le38).cons _).cons _).cons _) (dr_end rfl ?_)))
  refine nx_nil (nx_np ?_)
  refine nx_then (nx_ret ?_)
  exact nx_ret2 rfl (.tmp rfl) (.tmp rfl) (rt (Gh.le.trans le10 (Gh.le.trans le23 (Gh.le.trans le36 le38))) ⟨_, (by rw [hE]), fun _ => ⟨b43, rfl⟩⟩)
  refine op_callS rfl rfl rfl (fun W hp => signals_ok hp (hnet.le (Gh.le.trans le36 le38))) ?_
  refine dr_k ((ic.le le36).le le38) ?_
  refine dr_b rfl rfl rfl rfl ?_ ?_
  refine op_makeSliceU rfl rfl rfl (by omega) (by decide) (by decide) (fun b33 l33 hl33 => ?_)
  refine dr_k (((ic.le le36).le le38).cons _) (dr_l rfl rfl ?_)
  refine op_makeSlice rfl rfl rfl rfl (by have := hN.small.signals; show (netOf c.plan).p.signals.length ≤ _; omega) (by decide) (fun b41 => ?_)
  refine dr_k ((((ic.le le36).le le38).cons _).cons _) (dr_q rfl rfl (v_build rfl rfl rfl) ((((ic.le le36).le le38).cons _).cons _) (dr_l rfl rfl ?_))
  refine op_box rfl rfl (fun b43 => ?_)
  refine dr_k (((((ic.le le36).le le38).cons _).cons _).cons _) (dr_q rfl rfl v_assign (((((ic.le le36).le le38).cons _).cons _).cons _) (dr_q rfl rfl v_assign (((((ic.le le36).le le38).cons _).cons _).cons _) (dr_end rfl ?_)))
  refine nx_nil (nx_np ?_)
  refine nx_then (nx_ret ?_)
  exact nx_ret2 rfl (.tmp rfl) (.tmp rfl) (rt (Gh.le.trans le10 (Gh.le.trans le23 (Gh.le.trans le36 le38))) ⟨_, (by rw [hE]), fun _ => ⟨b43, rfl⟩⟩)
  refine op_makeSlice rfl rfl rfl rfl (by have := hN.small.signals; show (netOf c.plan).p.signals.length ≤ _; omega) (by decide) (fun b41 => ?_)
  refine dr_k (((ic.le le36).le le38).cons _) (dr_l rfl rfl ?_)
  refine op_makeSliceU rfl rfl rfl (by omega) (by decide) (by decide) (fun b33 l33 hl33 => ?_)
  refine dr_k ((((ic.le le36).le le38).cons _).cons _) (dr_q rfl rfl (v_build rfl rfl rfl) ((((ic.le le36).le le38).cons _).cons _) (dr_l rfl rfl ?_))
  refine op_box rfl rfl (fun b43 => ?_)
  refine dr_k (((((ic.le le36).le le38).cons _).cons _).cons _) (dr_q rfl rfl v_assign (((((ic.le le36).le le38).cons _).cons _).cons _) (dr_q rfl rfl v_assign (((((ic.le le36).le le38).cons _).cons _).cons _) (dr_end rfl ?_)))
  refine nx_nil (nx_np ?_)
  refine nx_then (nx_ret ?_)
  exact nx_ret2 rfl (.tmp rfl) (.tmp rfl) (rt (Gh.le.trans le10 (Gh.le.trans le23 (Gh.le.trans le36 le38))) ⟨_, (by rw [hE]), fun _ => ⟨b43, rfl⟩⟩)
end Go.Proofs.YtjckojnlapchoaaGreat
open Go Go.RowKit
namespace Go.Proofs.YtjckojnlapchoaaGreat
open Go.Proofs
def stockOf (kinds : List Stock) (trains : List Train) : List Stock := trains.map fun t => (kinds[t.stock.toNat]?).getD noStock
def worldErr (c : Chart) (kinds : List Stock) (trains : List Train) : Int :=
  if ¬ boxErr c = 0 then boxErr c
  else if ¬ stockCheck c.plan kinds = 0 then stockCheck c.plan kinds
  else if ¬ named kinds.length trains = 0 then named kinds.length trains
  else beginErr (netOf c.plan) (stockOf kinds trains) trains
def worldBodies (c : Chart) (kinds : List Stock) (trains : List Train) : List Body := (startsF (netOf c.plan) (stockOf kinds trains) trains []).2
def IsWorld (p : Plan) (e : Int) (bods : List Body) (G : Gh) (v : Value) : Prop := ∃ pv, v = .tuple #[pv, .int .i64 e] ∧ (e = 0 → ∃ w F fn fc, pv = .pointer (some ⟨w, 0, none⟩) ∧ G.cell w 4 = some (.slice F fn fc) ∧ Sl tBody G F fn fc bods ∧ ∀ b, b ∈ bods → BegOk p b)
theorem namedF_all {n : Int} : ∀ {l pre : List Train} {e : Int}, namedF n pre l e = 0 → ∀ t, t ∈ l → namedBad n t = false
  | [], _, _, _, t, ht => absurd ht List.not_mem_nil
  | x :: r, pre, e, h, t, ht => by
    unfold namedF at h
    split at h
    · cases h
    · rename_i hb
      rcases List.mem_cons.1 ht with rfl | ht
      · simpa using hb
      · exact namedF_all h t ht
theorem named_all {n : Int} {l : List Train} (h : named n l = 0) : l.length ≤ 8 ∧ ∀ t, t ∈ l → 0 ≤ t.stock ∧ t.stock < n := by
  unfold named at h
  split at h
  · cases h
  · refine ⟨by omega, fun t ht => ?_⟩
    have := namedF_all h t ht
    simp only [namedBad, Bool.or_eq_false_iff, decide_eq_false_iff_not] at this
    omega
theorem boxErr_ok {c : Chart} (h : boxErr c = 0) : chartErr c.plan = 0 ∧ c = chartOf c.plan := by
  unfold boxErr at h
  split at h
  · rename_i h1; exact absurd h h1
  split at h
  · rename_i h1 h2; exact ⟨Decidable.not_not.1 h1, h2⟩
  · cases h
set_option maxRecDepth 20000 in
set_option maxHeartbeats 1000000 in
theorem worldNew_ok {G : Gh} {H : List (Nat × Obj)} {W : World} (hp : Hp G H W) {A1 : Option Addr} {n1 c1 : Nat} {A2 : Option Addr} {n2 c2 : Nat} {A3 : Option Addr} {n3 c3 : Nat} {A4 : Option Addr} {n4 c4 : Nat} {A5 : Option Addr} {n5 c5 : Nat} {c : Chart} (at_ : Chart.At G A1 n1 c1 A2 n2 c2 A3 n3 c3 A4 n4 c4 A5 n5 c5 c) {S : Option Addr} {sn sc : Nat} {kinds : List Stock} (hk : Sl tStock G S sn sc kinds) {A : Option Addr} {n cc : Nat} {trains : List Train} (ht : Sl tTrain G A n cc trains) :
    Calls Tryz.prog 20 ⟨[.agg ⟨[.slice A1 n1 c1, .slice A2 n2 c2, .slice A3 n3 c3, .slice A4 n4 c4, .int .i64 c.plan.top, .int .i64 c.plan.brake, .int .i64 c.plan.margin, .int .i64 c.plan.throw_, .bool c.plan.hard, .slice A5 n5 c5]⟩, .slice S sn sc, .slice A n cc]⟩ W (RetD G H (IsWorld c.plan (worldErr c kinds trains) (worldBodies c kinds trains))) := by
  have hkl := hk.length
  have htl := ht.length
  refine enter Tryz.func20 rfl Tryz.ntmps20 (Nat.le_of_ble_eq_true rfl) hp (nx_seq (nx_region ?_))
  refine nx_op rfl (op_box rfl rfl (fun b3 => ?_))
  refine nv v_assign (nv v_assign (nx_nil (nx_then (nx_seq (nx_region (nv v_load_o ?_))))))
  refine nx_op rfl (op_callD rfl rfl rfl (fun W hp => boxNew_ok hp at_) (fun v16 G16 le16 ph16 => ?_))
  obtain ⟨bv, rfl, hbv⟩ := ph16
  refine nv v_move (nv (v_extract rfl rfl rfl) (nv (v_extract rfl rfl rfl) (nv v_assign (nv v_assign (nx_nil (nx_then (nx_seq (nx_seq (nx_region (nv v_move (nv v_neq ?_)))))))))))
  refine nx_nil (nx_then ?_)
  refine nx_cond_dec rfl (fun c20 => ?_) (fun c20 => ?_)
  have hE : worldErr c kinds trains = boxErr c := if_pos c20
  have hE0 : ¬ worldErr c kinds trains = 0 := by rw [hE]; exact c20
  refine nx_seq (nx_region (nv v_move (nv v_assign (nv v_assign (nx_nil (nx_then (nx_ret (nx_then_ret ?_))))))))
  exact nx_ret2 rfl (.tmp rfl) (.tmp rfl) (rt le16 ⟨_, (by rw [hE]; rfl), fun h => absurd h hE0⟩)
  have hb0 : boxErr c = 0 := by omega
  obtain ⟨bb, rfl⟩ := hbv hb0
  obtain ⟨hc0, hceq⟩ := boxErr_ok hb0
  obtain ⟨hok, _⟩ := chartErr_ok hc0
  have hN := netOf_ok hok
  refine nx_skip (nx_then (nx_seq (nx_seq (nx_region (nv v_fieldAddr (nv v_load_o (nv v_move ?_)))))))
  refine nx_op rfl (op_callD rfl rfl rfl (fun W hp => stockCheck_ok hp (p := c.plan) ⟨at_.h1.le le16, at_.h2.le le16, at_.h3.le le16, at_.h4.le le16⟩ (hk.le le16)) (fun v25 G25 le25 ph25 => ?_))
  subst ph25
  refine nv v_assign (nx_nil (nx_then (nx_seq (nx_region (nv v_move (nv v_neq (nx_nil (nx_then ?_))))))))
  refine nx_cond_dec rfl (fun c27 => ?_) (fun c27 => ?_)
  have hE : worldErr c kinds trains = stockCheck c.plan kinds := by unfold worldErr; rw [if_neg (by omega), if_pos c27]
  have hE0 : ¬ worldErr c kinds trains = 0 := by rw [hE]; exact c27
  refine nx_seq (nx_region (nv v_move (nv v_assign (nv v_assign (nx_nil (nx_then (nx_ret (nx_then_ret ?_))))))))
  exact nx_ret2 rfl (.tmp rfl) (.tmp rfl) (rt (Gh.le.trans le16 le25) ⟨_, (by rw [hE]), fun h => absurd h hE0⟩)
  refine nx_skip (nx_then (nx_seq (nx_seq (nx_region (nv v_move (nv v_move ?_))))))
  refine nx_op rfl (op_callD rfl rfl rfl (fun W hp => named_ok hp (hk.le (Gh.le.trans le16 le25)) (ht.le (Gh.le.trans le16 le25))) (fun v31 G31 le31 ph31 => ?_))
  subst ph31
  refine nv v_assign (nx_nil (nx_then (nx_seq (nx_region (nv v_move (nv v_neq (nx_nil (nx_then ?_))))))))
  refine nx_cond_dec rfl (fun c33 => ?_) (fun c33 => ?_)
  have hE : worldErr c kinds trains = named kinds.length trains := by unfold worldErr; rw [if_neg (by omega), if_neg (by omega), if_pos c33]
  have hE0 : ¬ worldErr c kinds trains = 0 := by rw [hE]; exact c33
  refine nx_seq (nx_region (nv v_move (nv v_assign (nv v_assign (nx_nil (nx_then (nx_ret (nx_then_ret ?_))))))))
  exact nx_ret2 rfl (.tmp rfl) (.tmp rfl) (rt (Gh.le.trans le16 (Gh.le.trans le25 le31)) ⟨_, (by rw [hE]), fun h => absurd h hE0⟩)
  obtain ⟨ht8, hts⟩ := named_all (Decidable.not_not.1 c33)
  have hE : worldErr c kinds trains = beginErr (netOf c.plan) (stockOf kinds trains) trains := by unfold worldErr; rw [if_neg (by omega), if_neg (by omega), if_neg (by omega)]
  refine nx_skip (nx_then (nx_seq (nx_region (nv v_fieldAddr (nv v_load_o ?_)))))
  refine nx_op rfl (op_callD rfl rfl rfl (fun W hp => netNew_ok hp (p := c.plan) ⟨at_.h1.le (Gh.le.trans le16 (Gh.le.trans le25 le31)), at_.h2.le (Gh.le.trans le16 (Gh.le.trans le25 le31)), at_.h3.le (Gh.le.trans le16 (Gh.le.trans le25 le31)), at_.h4.le (Gh.le.trans le16 (Gh.le.trans le25 le31))⟩) (fun v38 G38 le38 ph38 => ?_))
  obtain ⟨pv, rfl, hpv⟩ := ph38.split
  obtain ⟨g, rfl, hnet⟩ := hpv hok
  rw [hok]
  refine nv v_move (nv (v_extract rfl rfl rfl) (nv (v_extract rfl rfl rfl) (nv v_assign (nv v_assign (nx_nil (nx_then (nx_seq (nx_seq (nx_region (nv v_move (nv v_neq ?_)))))))))))
  refine nx_nil (nx_then ?_)
  refine nx_cond_dec rfl (fun c42 => ?_) (fun c42 => ?_)
  exfalso; omega
  refine nx_skip (nx_then (nx_seq (nx_region (nv v_move (nv v_move (nv v_move ?_))))))
  refine nx_op rfl (op_callD rfl rfl rfl (fun W hp => fieldNew_ok hp hnet hN) (fun v47 G47 le47 ph47 => ?_))
  obtain ⟨bf, rfl⟩ := ph47
  refine nv v_move ?_
  refine nx_op rfl (op_callS rfl rfl rfl (fun W hp => signals_ok hp (hnet.le le47)) ?_)
  refine nx_op rfl (op_makeSlice rfl rfl rfl rfl (by have := hN.small.signals; show (netOf c.plan).p.signals.length ≤ _; omega) (by decide) (fun b50 => ?_))
  refine nv (v_build rfl rfl rfl) ?_
  refine nx_op rfl (op_box rfl rfl (fun b52 => ?_))
  refine nv v_assign (nx_nil (nx_then (nx_seq (nx_seq (nx_region (nv v_move (nv v_len (nv v_move (nx_nil (nx_then (nx_block ?_)))))))))))
  refine nf (b := b52) (k := ?_)
  refine nx_loop_v (σ := Nat × Option Addr × Nat × List (Nat × Obj)) [0, 1, 2, 3, 6, 7, 8, 9, 10, 11, 14, 15, 16, 17, 18, 19, 20, 22, 23, 24, 25, 26, 27, 29, 30, 31, 32, 33, 35, 36, 37, 38, 39, 40, 41, 42, 44, 45, 46, 47, 48, 49, 50, 51, 52, 53, 54] (fun s => [(55, .int .i64 (s.1 : Int))]) (fun _ => G47) (fun s => (b52, row [.pointer (some ⟨g, 0, none⟩), .pointer (some ⟨bb, 0, none⟩), .pointer (some ⟨bf, 0, none⟩), .slice s.2.1 (stockOf kinds (trains.take s.1)).length s.2.2.1, .slice none 0 0, .slice (some ⟨b50, 0, none⟩) (netOf c.plan).p.signals.length (netOf c.plan).p.signals.length, .slice none 0 0, .slice none 0 0, .slice none 0 0, .slice none 0 0, .bool false, .int .i64 0, .bool false] 113) :: (s.2.2.2 ++ _)) (fun s => s.1 ≤ n ∧ OwnS tStock 30 G47 (stockOf kinds (trains.take s.1)) (.slice s.2.1 (stockOf kinds (trains.take s.1)).length s.2.2.1) s.2.2.2) (fun s => n - s.1) (0, none, 0, []) (.cons rfl (.cons rfl (.cons rfl (.cons rfl (.cons rfl (.cons rfl (.cons rfl (.cons rfl (.cons rfl (.cons rfl (.cons rfl (.cons rfl (.cons rfl (.cons rfl (.cons rfl (.cons rfl (.cons rfl (.cons rfl (.cons rfl (.cons rfl (.cons rfl (.cons rfl (.cons rfl (.cons rfl (.cons rfl (.cons rfl (.cons rfl (.cons rfl (.cons rfl (.cons rfl (.cons rfl (.cons rfl (.cons rfl (.cons rfl (.cons rfl (.cons rfl (.cons rfl (.cons rfl (.cons rfl (.cons rfl (.cons rfl (.cons rfl (.cons rfl (.cons rfl (.cons rfl (.cons rfl (.cons rfl (.nil)))))))))))))))))))))))))))))))))))))))))))))))) ⟨rfl, trivial⟩ ⟨Nat.zero_le _, .nil rfl⟩ rfl rfl ?_
  rintro ⟨k, Ak, ck, Nk⟩ ⟨hkn, ok⟩ K next
  dsimp only at hkn ok ⊢
  refine nx_seq (nx_region (nv v_lss (nx_nil (nx_then (nx_seq ?_)))))
  refine nx_cond_dec rfl (fun c56 => ?_) (fun c56 => ?_)
  obtain ⟨x, rest, hd, hx⟩ := drop_of_lt (xs := trains) (k := k) (by omega)
  obtain ⟨xb, xo, xe, xk, xr, xf0, xf1, xf2, xf3, xf4⟩ := next_Train (ht.le (Gh.le.trans le16 (Gh.le.trans le25 (Gh.le.trans le31 (Gh.le.trans le38 le47))))) hd
  cases xe
  have hxs := hts x (List.mem_of_getElem? hx)
  obtain ⟨q, hq⟩ : ∃ q : Nat, x.stock = q := ⟨x.stock.toNat, by omega⟩
  obtain ⟨s, hs⟩ : ∃ s, kinds[q]? = some s := ⟨_, List.getElem?_eq_getElem (by omega)⟩
  obtain ⟨sb, so, se, sk, sf0, sf1, sf2, sf3, sf4⟩ := get_Stock (hk.le (Gh.le.trans le16 (Gh.le.trans le25 (Gh.le.trans le31 (Gh.le.trans le38 le47))))) hs
  cases se
  have hsn : stockOf kinds (trains.take (k + 1)) = stockOf kinds (trains.take k) ++ [s] := by
    rw [take_snoc hx]; simp [stockOf, hq, hs]
  have hsl : (stockOf kinds (trains.take k)).length ≤ 8 := by simp [stockOf]; omega
  refine nx_skip (nx_then (nx_seq (nx_block (nx_seq (nx_region (nv (v_indexAddr_nat rfl rfl rfl (by omega)) (nv v_load_s ?_)))))))
  refine nx_op rfl (op_alloc rfl (fun b13 => ?_))
  refine st (k := nx_nil (nx_then (np (N := Nk) (k := dr_begin_app 14 (.q 0 (.q 1 (.q 2 (.q 3 (.q 4 (.q 5 (.q 6 (.q 7 (.q 8 (.q 9 (.l 10 (.l 11 (.q 12 (.q 13 .done)))))))))))))) rfl (by kernel_rfl) (dr_q rfl rfl v_move (ic.app _) (dr_q rfl rfl v_move (ic.app _) (dr_q rfl rfl v_nilCheck (ic.app _) (dr_q rfl rfl v_fieldAddr (ic.app _) (dr_q rfl rfl v_load1_o (ic.app _) (dr_q rfl rfl v_move (ic.app _) (dr_q rfl rfl v_fieldAddr (ic.app _) ?_)))))))))))
  refine dr_q rfl rfl v_load1_o (ic.app _) ?_
  refine dr_q rfl rfl (v_indexAddr_nat (k := q) rfl rfl (by rw [← hq]; rfl) (by omega)) (ic.app _) ?_
  refine dr_q rfl rfl v_load_s (ic.app _) (dr_l rfl rfl ?_)
  refine op_buildSlice rfl rfl rfl rfl rfl (fun b69 => ?_)
  refine dr_k ((ic.app _).cons _) (dr_l rfl rfl ?_)
  refine op_app (T := tStock) rfl rfl rfl ok (by repeat (first | exact Pull.here | apply Pull.cons | apply Pull.app)) (Src.row List.mem_cons_self (rows_Stock [s]) rfl) (by simp; omega) (by simp [maxLen]; omega) (fun A70 c70 N70 o70 hc70 => ?_)
  refine dr_k (Inc.suf (Gh.le.refl _) (by repeat (first | exact Suf.refl | apply Suf.keep | apply Suf.cons | apply Suf.keepN | apply Suf.app))) ?_
  refine dr_q rfl rfl v_nilCheck (Inc.suf (Gh.le.refl _) (by repeat (first | exact Suf.refl | apply Suf.keep | apply Suf.cons | apply Suf.keepN | apply Suf.app))) ?_
  refine dr_q rfl rfl v_fieldAddr (Inc.suf (Gh.le.refl _) (by repeat (first | exact Suf.refl | apply Suf.keep | apply Suf.cons | apply Suf.keepN | apply Suf.app))) ?_
  refine dr_end rfl (st (k := ?_))
  refine nx_nil (nx_np ?_)
  refine nx_in _ (nx_then (nx_region (nv v_add (nv v_move (nx_nil (nx_then ?_))))))
  rw [← hsn] at o70 ⊢
  refine nf (b := b52) (k := ?_)
  exact nn (next (k + 1, A70, c70, N70) ⟨(by dsimp only; omega), o70⟩ (by dsimp only; omega))
  obtain rfl : k = n := by omega
  rw [List.take_of_length_le (by omega)] at ok ⊢
  refine nx_still ok (by repeat (first | exact Pull.here | apply Pull.cons | apply Pull.app)) (fun G9 A9 d9 le9 hv9 hs9 => ?_)
  cases hv9
  refine nx_exit (nx_then_exit (nx_then_exit (nx_in_eq (nx_then (nx_seq (nx_seq (nx_region (nv v_move (nv v_move (nf (b := b52) (k := ?_)))))))))))
  refine nx_op rfl (op_callR rfl rfl rfl (fun W hp => begin_ok (bw := b52) hp (hnet.le (Gh.le.trans le47 le9)) hN hs9 (ht.le (Gh.le.trans le16 (Gh.le.trans le25 (Gh.le.trans le31 (Gh.le.trans le38 (Gh.le.trans le47 le9)))))) (by simp [stockOf]) (by omega)) (fun v76 G76 H76 le76 ph76 => ?_))
  obtain ⟨rfl, F, fn, fc, rfl, hbeg⟩ := ph76
  refine nv v_assign (nx_nil (nx_then (nx_seq (nx_region (nv v_move (nv v_neq (nx_nil (nx_then ?_))))))))
  refine nx_cond_dec rfl (fun c78 => ?_) (fun c78 => ?_)
  have hE0 : ¬ worldErr c kinds trains = 0 := by rw [hE]; exact c78
  refine nx_seq (nx_region (nv v_move (nv v_assign (nv v_assign (nx_nil (nx_then (nx_ret (nx_then_ret ?_))))))))
  exact nx_ret2 rfl (.tmp rfl) (.tmp rfl) (rt (Gh.le.trans le16 (Gh.le.trans le25 (Gh.le.trans le31 (Gh.le.trans le38 (Gh.le.trans le47 (Gh.le.trans le9 le76)))))) ⟨_, (by rw [hE]), fun h => absurd h hE0⟩)
  have h0 : beginErr (netOf c.plan) (stockOf kinds trains) trains = 0 := Decidable.not_not.1 c78
  obtain ⟨hsB, hokB⟩ := hbeg h0
  refine nx_skip (nx_then (nx_seq (nx_region (nv v_move (nv v_assign (nv v_assign (nx_nil (nx_then (nx_ret ?_)))))))))
  refine nx_keep (b := b52) ((by repeat (first | exact Take.here | apply Take.cons | apply Take.app))) (fun Ga lea ha => ?_)
  exact nx_ret2 rfl (.tmp rfl) (.tmp rfl) (rt (Gh.le.trans (Gh.le.trans le16 (Gh.le.trans le25 (Gh.le.trans le31 (Gh.le.trans le38 (Gh.le.trans le47 (Gh.le.trans le9 le76)))))) lea) ⟨_, (by rw [hE, h0]), fun _ => ⟨b52, F, fn, fc, rfl, cell_row ha rfl, hsB.le lea, hokB⟩⟩)
end Go.Proofs.YtjckojnlapchoaaGreat
open Go Go.RowKit
namespace Go.Proofs.YtjckojnlapchoaaGreat
open Go.Proofs
set_option maxRecDepth 20000 in
set_option maxHeartbeats 1000000 in
theorem bodies_ok {G : Gh} {H : List (Nat × Obj)} {W : World} (hp : Hp G H W) {w : Nat} {F : Option Addr} {fn fc : Nat} {l : List Body} (hw : G.cell w 4 = some (.slice F fn fc)) (hs : Sl tBody G F fn fc l) (hn : fn ≤ 100) (hfew : ∀ b, b ∈ l → b.trail.length ≤ 1000000) : Calls Tryz.prog 43 ⟨[.pointer (some ⟨w, 0, none⟩)]⟩ W (RetD G H (IsSl tBody l)) := by
  refine enter Tryz.func43 rfl Tryz.ntmps43 (Nat.le_of_ble_eq_true rfl) hp (nx_seq (nx_region (nv v_assign (nx_nil (nx_then (nx_seq (nx_region (nv v_move (nv v_nilCheck (nv v_fieldAddr (nv v_load1_s ?_)))))))))))
  refine nx_op rfl (op_callD rfl rfl rfl (fun W hp => twins_ok hp hs hn hfew) (fun v7 G7 le7 ph7 => ?_))
  obtain ⟨A7, c7, rfl, s7⟩ := ph7
  refine nv v_assign (nx_nil (nx_then (nx_ret ?_)))
  exact nx_ret1 rfl (.tmp rfl) (rt (le7) (IsSl.of s7))
def trainScan (f : Nat → Bool) : Nat → Nat → Option Nat
  | 0, _ => none
  | n + 1, t => if f t then some t else trainScan f n (t + 1)
def kindScan (f : Int → Nat → Bool) (m : Nat) : Nat → Int → Option (Int × Nat)
  | 0, _ => none
  | n + 1, k => match trainScan (f k) m 0 with
    | some t => some (k, t)
    | none => kindScan f m n (k + 1)
def prevBodies (l : List Note) (i : Nat) : List Body := ((l[i - 1]?).getD noNote).bodies
def noteBad (N : NetD) (stock : List Stock) (first : List Body) (l : List Note) (i : Nat) : Option (Int × Int) :=
  if shapedOk N stock ((l[i]?).getD noNote) then
    (kindScan (fun k t => wrongOk N stock first l (firstL (prevBodies l i)) k i t) stock.length 5 3).map fun q => (q.1, (q.2 : Int))
  else some (2, -1)
def notesScan (N : NetD) (stock : List Stock) (first : List Body) (l : List Note) : Nat → Nat → Int × Int × Int
  | 0, _ => (0, -1, -1)
  | n + 1, i => match noteBad N stock first l i with
    | some q => (q.1, (i : Int), q.2)
    | none => notesScan N stock first l n (i + 1)
def judge (c : Chart) (kinds : List Stock) (trains : List Train) (l : List Note) : Int × Int × Int :=
  if ¬ worldErr c kinds trains = 0 then (1, -1, -1)
  else notesScan (netOf c.plan) (stockOf kinds trains) (worldBodies c kinds trains) l l.length 0
end Go.Proofs.YtjckojnlapchoaaGreat
open Go Go.RowKit
namespace Go.Proofs.YtjckojnlapchoaaGreat
open Go.Proofs
theorem trailAll_ports {N : NetD} {l : List Port} : ∀ {r : List Port} {i : Nat}, N.trailAll l r i = true → ∀ x, x ∈ r → N.p.portOk x = true
  | [], _, _, x, hx => absurd hx List.not_mem_nil
  | y :: r, i, h, x, hx => by
    simp only [NetD.trailAll] at h
    split at h
    · cases h
    · rename_i hb
      rcases List.mem_cons.1 hx with rfl | hx
      · simp only [NetD.trailBad, Bool.or_eq_true, not_or] at hb
        simpa using hb.1.1
      · exact trailAll_ports h x hx
theorem portOk_in {p : Plan} {x : Port} (h : p.portOk x = true) : (0 ≤ x.fin ∧ x.fin < 4) ∧ 0 ≤ x.elem ∧ x.elem < (p.elems.length : Int) := by
  simp only [Plan.portOk, Bool.and_eq_true, decide_eq_true_eq] at h
  have h4 := ends_le (p.kind x.elem)
  refine ⟨by omega, kind_in ?_⟩
  intro h0
  rw [h0] at h
  simp [ends] at h
  omega
theorem mayB_fit {N : NetD} (hnum : numbersOk N.p = true) {len : Int} {b : Body} (h : N.mayB len b = true) (hf : b.trail.length ≤ 1000) : b.Fit ∧ ∀ e, e ∈ lies N.p b → 0 ≤ e ∧ e < (N.p.elems.length : Int) := by
  unfold NetD.mayB at h
  split at h
  · cases h
  rename_i hlen
  split at h
  · unfold waitsOk at h
    split at h
    · rename_i x hx
      simp only [Bool.and_eq_true, decide_eq_true_eq] at h
      obtain ⟨⟨h1, h2⟩, h3⟩ := h
      have hr := rests_zero h3
      refine ⟨⟨by omega, by omega, ?_, hf⟩, ?_⟩
      · intro y hy; rw [hx] at hy; rw [List.mem_singleton.1 hy]; omega
      · intro e he
        obtain ⟨y, hy, rfl, hk⟩ := lies_mem he
        rw [hx] at hy
        rw [List.mem_singleton.1 hy] at hk
        exact absurd h1 hk
    · cases h
  split at h
  · simp only [Bool.and_eq_true, decide_eq_true_eq] at h
    have hr := rests_zero h.2
    have ht : b.trail = [] := List.length_eq_zero_iff.1 (by omega)
    refine ⟨⟨by omega, by omega, ?_, hf⟩, ?_⟩
    · intro y hy; rw [ht] at hy; cases hy
    · intro e he
      obtain ⟨y, hy, _⟩ := lies_mem he
      rw [ht] at hy; cases hy
  have key : N.trailed b = true → (0 ≤ b.left ∧ b.left ≤ 4000) → (0 ≤ b.over ∧ b.over ≤ 4000) → b.Fit ∧ ∀ e, e ∈ lies N.p b → 0 ≤ e ∧ e < (N.p.elems.length : Int) := by
    intro ht hl ho
    simp only [NetD.trailed, Bool.and_eq_true] at ht
    have hp := trailAll_ports ht.1
    refine ⟨⟨hl, ho, fun x hx => (portOk_in (hp x hx)).1, hf⟩, ?_⟩
    intro e he
    obtain ⟨y, hy, rfl, hk⟩ := lies_mem he
    exact (portOk_in (hp y hy)).2
  split at h
  · simp only [Bool.and_eq_true] at h
    have := goes_range hnum h.1.2
    exact key h.1.1 (by omega) (by omega)
  split at h
  · simp only [Bool.and_eq_true] at h
    have := rests_zero h.1.2
    exact key h.1.1 (by omega) (by omega)
  · cases h
theorem bodAll_get {N : NetD} : ∀ {ss : List Stock} {bs : List Body}, bodAll N ss bs = true → ∀ (t : Nat) s b, ss[t]? = some s → bs[t]? = some b → N.mayB s.len b = true
  | [], _, _, t, s, b, hs, _ => by simp at hs
  | _ :: _, [], _, t, s, b, _, hb => by simp at hb
  | s0 :: ss, b0 :: bs, h, t, s, b, hs, hb => by
    simp only [bodAll] at h
    split at h
    · rename_i h0
      cases t with
      | zero => simp at hs hb; subst hs; subst hb; exact h0
      | succ t => simp at hs hb; exact bodAll_get h t s b hs hb
    · cases h
theorem shaped_get {N : NetD} {stock : List Stock} {x : Note} (h : shapedOk N stock x = true) : x.bodies.length = stock.length ∧ x.pos.length = N.p.elems.length ∧ ∀ (t : Nat) s b, stock[t]? = some s → x.bodies[t]? = some b → N.mayB s.len b = true := by
  simp only [shapedOk, inOk, Bool.and_eq_true, decide_eq_true_eq] at h
  exact ⟨h.1.1.2, by omega, bodAll_get h.2⟩
theorem worldErr_ok {c : Chart} {kinds : List Stock} {trains : List Train} (h : worldErr c kinds trains = 0) : boxErr c = 0 ∧ stockCheck c.plan kinds = 0 ∧ named kinds.length trains = 0 ∧ beginErr (netOf c.plan) (stockOf kinds trains) trains = 0 := by
  unfold worldErr at h
  split at h
  · rename_i h1; exact absurd h h1
  split at h
  · rename_i h1; exact absurd h h1
  split at h
  · rename_i h1; exact absurd h h1
  · rename_i h1 h2 h3; exact ⟨Decidable.not_not.1 h1, Decidable.not_not.1 h2, Decidable.not_not.1 h3, h⟩
theorem startsF_length {N : NetD} : ∀ {ss : List Stock} {ts : List Train} {acc : List Body}, ss.length = ts.length → (startsF N ss ts acc).1 = 0 → (startsF N ss ts acc).2.length = acc.length + ts.length
  | [], [], acc, _, _ => rfl
  | [], _ :: _, _, h, _ => by simp at h
  | _ :: _, [], _, h, _ => by simp at h
  | s :: ss, t :: ts, acc, h, h0 => by
    simp only [startsF] at h0 ⊢
    split at h0
    · rename_i h1; exact absurd h0 h1
    · rename_i h1
      rw [if_neg h1]
      rw [startsF_length (by simpa using h) h0]
      simp; omega
theorem beginErr_ok {N : NetD} {ss : List Stock} {ts : List Train} (h : beginErr N ss ts = 0) : (startsF N ss ts []).1 = 0 := by
  unfold beginErr at h
  simp only at h
  split at h
  · rename_i h1; exact absurd h h1
  · rename_i h1; exact Decidable.not_not.1 h1
theorem stockWF_all : ∀ {l pre : List Stock} {e : Int}, stockWF pre l e = 0 → ∀ s, s ∈ l → stockMay s = true
  | [], _, _, _, s, hs => absurd hs List.not_mem_nil
  | x :: r, pre, e, h, s, hs => by
    unfold stockWF at h
    split at h
    · cases h
    · rename_i hb
      rcases List.mem_cons.1 hs with rfl | hs
      · simpa using hb
      · exact stockWF_all h s hs
theorem stockCheck_all {p : Plan} {l : List Stock} (h : stockCheck p l = 0) : ∀ s, s ∈ l → stockMay s = true := by
  unfold stockCheck at h
  split at h
  · rename_i h1; exact absurd h h1
  · rename_i h1
    have h2 := Decidable.not_not.1 h1
    unfold stockW at h2
    split at h2
    · cases h2
    · exact stockWF_all h2
theorem stockOf_fit {kinds : List Stock} {trains : List Train} (hk : ∀ s, s ∈ kinds → stockMay s = true) (ht : ∀ t, t ∈ trains → 0 ≤ t.stock ∧ t.stock < (kinds.length : Int)) : ∀ s, s ∈ stockOf kinds trains → s.Fit := by
  intro s hs
  simp only [stockOf, List.mem_map] at hs
  obtain ⟨t, ht1, rfl⟩ := hs
  have := ht t ht1
  obtain ⟨q, hq⟩ : ∃ q, kinds[t.stock.toNat]? = some q := ⟨_, List.getElem?_eq_getElem (by omega)⟩
  rw [hq]
  exact stockMay_fit (hk q (List.mem_of_getElem? hq))
end Go.Proofs.YtjckojnlapchoaaGreat
open Go Go.RowKit
namespace Go.Proofs.YtjckojnlapchoaaGreat
open Go.Proofs
set_option maxRecDepth 20000 in
set_option maxHeartbeats 1000000 in
theorem judge_ok {G : Gh} {H : List (Nat × Obj)} {W : World} (hp : Hp G H W) {A1 : Option Addr} {n1 c1 : Nat} {A2 : Option Addr} {n2 c2 : Nat} {A3 : Option Addr} {n3 c3 : Nat} {A4 : Option Addr} {n4 c4 : Nat} {A5 : Option Addr} {n5 c5 : Nat} {c : Chart} (at_ : Chart.At G A1 n1 c1 A2 n2 c2 A3 n3 c3 A4 n4 c4 A5 n5 c5 c) {K1 : Option Addr} {kn kc : Nat} {kinds : List Stock} (hk : Sl tStock G K1 kn kc kinds) {T1 : Option Addr} {tn tc : Nat} {trains : List Train} (ht : Sl tTrain G T1 tn tc trains) {L1 : Option Addr} {ln lc : Nat} {l : List Note} (hs : Sl tNote G L1 ln lc l)
    (hfew : ∀ x, x ∈ l → x.Few) (hbl : ∀ x, x ∈ l → x.bodies.length ≤ 1000) :
    Calls Tryz.prog 19 ⟨[.agg ⟨[.slice A1 n1 c1, .slice A2 n2 c2, .slice A3 n3 c3, .slice A4 n4 c4, .int .i64 c.plan.top, .int .i64 c.plan.brake, .int .i64 c.plan.margin, .int .i64 c.plan.throw_, .bool c.plan.hard, .slice A5 n5 c5]⟩, .slice K1 kn kc, .slice T1 tn tc, .slice L1 ln lc]⟩ W (RetD G H (fun _ v => v = .tuple #[.int .i64 (judge c kinds trains l).1, .int .i64 (judge c kinds trains l).2.1, .int .i64 (judge c kinds trains l).2.2])) := by
  have hkl := hk.length
  have htl := ht.length
  have hsl := hs.length
  have hsr := Nat.le_trans hs.cap hs.room
  refine enter Tryz.func19 rfl Tryz.ntmps19 (Nat.le_of_ble_eq_true rfl) hp (nx_seq (nx_region ?_))
  refine nx_op rfl (op_box rfl rfl (fun b4 => ?_))
  refine nv v_assign (nv v_assign (nv v_assign (nx_nil (nx_then (nx_scope (nx_seq (nx_region (nv v_load_o (nv v_move (nv v_move ?_))))))))))
  refine nx_op rfl (op_callD rfl rfl rfl (fun W hp => worldNew_ok hp at_ hk ht) (fun v30 G30 le30 ph30 => ?_))
  obtain ⟨wv, rfl, hwv⟩ := ph30
  refine nv v_move (nv (v_extract rfl rfl rfl) (nv (v_extract rfl rfl rfl) (nv v_assign (nv v_assign (nx_nil (nx_then (nx_seq (nx_seq (nx_region (nv v_move (nv v_neq ?_)))))))))))
  refine nx_nil (nx_then ?_)
  refine nx_cond_dec rfl (fun c34 => ?_) (fun c34 => ?_)
  have hJ : judge c kinds trains l = (1, -1, -1) := if_pos c34
  refine nx_seq (nx_region (nv v_assign (nv v_assign (nv v_assign (nx_nil (nx_then (nx_ret (nx_then_ret (nx_ng_ret ?_)))))))))
  exact nx_ret3 rfl (.tmp rfl) (.tmp rfl) (.tmp rfl) (rt le30 (by rw [hJ]))
  have hw0 : worldErr c kinds trains = 0 := Decidable.not_not.1 c34
  obtain ⟨w, F, wn, wc, rfl, hcell, hsB, hokB⟩ := hwv hw0
  obtain ⟨hb0, hst0, hna0, hbe0⟩ := worldErr_ok hw0
  obtain ⟨hc0, _⟩ := boxErr_ok hb0
  obtain ⟨hok, _⟩ := chartErr_ok hc0
  have hN := netOf_ok hok
  obtain ⟨ht8, hts⟩ := named_all hna0
  have hbl2 : (worldBodies c kinds trains).length = trains.length := by have := startsF_length (N := netOf c.plan) (ss := stockOf kinds trains) (ts := trains) (acc := []) (by simp [stockOf]) (beginErr_ok hbe0); unfold worldBodies; simpa using this
  have hwn := hsB.length
  have hstk := stockOf_fit (stockCheck_all hst0) hts
  have hstl : (stockOf kinds trains).length = trains.length := by simp [stockOf]
  have hJ0 : judge c kinds trains l = notesScan (netOf c.plan) (stockOf kinds trains) (worldBodies c kinds trains) l l.length 0 := if_neg c34
  refine nx_skip (nx_then (nx_seq (nx_region (nv v_assign (nv v_assign (nv v_assign (nx_nil (nx_then (nx_seq (nx_region (nv v_fieldAddr ?_)))))))))))
  refine nv v_load_o ?_
  refine nx_op rfl (op_callD rfl rfl rfl (fun W hp => netNew_ok hp (p := c.plan) ⟨at_.h1.le le30, at_.h2.le le30, at_.h3.le le30, at_.h4.le le30⟩) (fun v38 G38 le38 ph38 => ?_))
  obtain ⟨pv, rfl, hpv⟩ := ph38.split
  obtain ⟨g, rfl, hnet⟩ := hpv hok
  refine nv v_move (nv (v_extract rfl rfl rfl) (nv (v_extract rfl rfl rfl) (nv v_assign (nv v_assign (nx_nil (nx_then (nx_seq (nx_region (nv v_move (nv v_move ?_))))))))))
  refine nx_op rfl (op_callD rfl rfl rfl (fun W hp => bodies_ok hp (le38.cell hcell) (hsB.le le38) (by omega) (fun b hb => by have := (hokB b hb).few; omega)) (fun v43 G43 le43 ph43 => ?_))
  obtain ⟨F1, fc, rfl, hs1⟩ := ph43
  refine nv (v_build rfl rfl rfl) ?_
  refine nx_op rfl (op_alloc rfl (fun b18 => ?_))
  refine st (k := nx_nil (nx_then (nx_seq (nx_seq (nx_region (nv v_move (nv v_len (nv v_move (nx_nil (nx_then (nx_block ?_)))))))))))
  refine nf (b := b18) (k := ?_)
  refine nx_loop_v (σ := Nat × Option Addr × Nat × List (Nat × Obj)) [0, 1, 2, 3, 4, 8, 9, 10, 11, 12, 13, 14, 15, 16, 18, 26, 27, 28, 29, 30, 31, 32, 33, 34, 35, 36, 37, 38, 39, 40, 41, 42, 43, 44, 45, 46] (fun s => [(47, .int .i64 (s.1 : Int))]) (fun _ => G43) (fun s => (b18, row [.pointer (some ⟨g, 0, none⟩), .slice s.2.1 (stockOf kinds (trains.take s.1)).length s.2.2.1, .slice F1 (worldBodies c kinds trains).length fc] 97) :: (s.2.2.2 ++ _)) (fun s => s.1 ≤ tn ∧ OwnS tStock 30 G43 (stockOf kinds (trains.take s.1)) (.slice s.2.1 (stockOf kinds (trains.take s.1)).length s.2.2.1) s.2.2.2) (fun s => tn - s.1) (0, none, 0, []) (.cons rfl (.cons rfl (.cons rfl (.cons rfl (.cons rfl (.cons rfl (.cons rfl (.cons rfl (.cons rfl (.cons rfl (.cons rfl (.cons rfl (.cons rfl (.cons rfl (.cons rfl (.cons rfl (.cons rfl (.cons rfl (.cons rfl (.cons rfl (.cons rfl (.cons rfl (.cons rfl (.cons rfl (.cons rfl (.cons rfl (.cons rfl (.cons rfl (.cons rfl (.cons rfl (.cons rfl (.cons rfl (.cons rfl (.cons rfl (.cons rfl (.cons rfl (.nil))))))))))))))))))))))))))))))))))))) ⟨rfl, trivial⟩ ⟨Nat.zero_le _, .nil rfl⟩ rfl rfl ?_
  rintro ⟨k, Ak, ck, Nk⟩ ⟨hkn, ok⟩ K next
  dsimp only at hkn ok ⊢
  refine nx_seq (nx_region (nv v_lss (nx_nil (nx_then (nx_seq ?_)))))
  refine nx_cond_dec rfl (fun c48 => ?_) (fun c48 => ?_)
  obtain ⟨x, rest, hd, hx⟩ := drop_of_lt (xs := trains) (k := k) (by omega)
  obtain ⟨xb, xo, xe, xk, xr, xf0, xf1, xf2, xf3, xf4⟩ := next_Train (ht.le (Gh.le.trans le30 (Gh.le.trans le38 le43))) hd
  cases xe
  have hxs := hts x (List.mem_of_getElem? hx)
  obtain ⟨q, hq⟩ : ∃ q : Nat, x.stock = q := ⟨x.stock.toNat, by omega⟩
  obtain ⟨s, hs2⟩ : ∃ s, kinds[q]? = some s := ⟨_, List.getElem?_eq_getElem (by omega)⟩
  obtain ⟨sb, so, se, sk, sf0, sf1, sf2, sf3, sf4⟩ := get_Stock (hk.le (Gh.le.trans le30 (Gh.le.trans le38 le43))) hs2
  cases se
  have hsn : stockOf kinds (trains.take (k + 1)) = stockOf kinds (trains.take k) ++ [s] := by
    rw [take_snoc hx]; simp [stockOf, hq, hs2]
  have hsl2 : (stockOf kinds (trains.take k)).length ≤ 8 := by simp [stockOf]; omega
  refine nx_skip (nx_then (nx_seq (nx_block (nx_seq (nx_region (nv (v_indexAddr_nat rfl rfl rfl (by omega)) (nv v_load_s ?_)))))))
  refine nx_op rfl (op_alloc rfl (fun b20 => ?_))
  refine st (k := nx_nil (nx_then (np (N := Nk) (k := dr_begin_app 8 (.q 0 (.q 1 (.q 2 (.q 3 (.q 4 (.q 5 (.q 6 (.l 7 .done)))))))) rfl (by kernel_rfl) (dr_q rfl rfl v_fieldAddr (ic.app _) (dr_q rfl rfl v_load1_o (ic.app _) (dr_q rfl rfl v_move (ic.app _) (dr_q rfl rfl v_fieldAddr (ic.app _) (dr_q rfl rfl v_load1_o (ic.app _) ?_)))))))))
  refine dr_q rfl rfl (v_indexAddr_nat (k := q) rfl rfl (by rw [← hq]; rfl) (by omega)) (ic.app _) ?_
  refine dr_q rfl rfl v_load_s (ic.app _) (dr_l rfl rfl ?_)
  refine op_buildSlice rfl rfl rfl rfl rfl (fun b58 => ?_)
  refine dr_k ((ic.app _).cons _) (dr_end rfl ?_)
  refine nx_op rfl (op_app (T := tStock) rfl rfl rfl ok (by repeat (first | exact Pull.here | apply Pull.cons | apply Pull.app)) (Src.row List.mem_cons_self (rows_Stock [s]) rfl) (by simp; omega) (by simp [maxLen]; omega) (fun A70 c70 N70 o70 hc70 => ?_))
  refine nv v_fieldAddr (st (k := ?_))
  refine nx_nil (nx_np ?_)
  refine nx_in _ (nx_then (nx_region (nv v_add (nv v_move (nx_nil (nx_then ?_))))))
  rw [← hsn] at o70 ⊢
  refine nf (b := b18) (k := ?_)
  exact nn (next (k + 1, A70, c70, N70) ⟨(by dsimp only; omega), o70⟩ (by dsimp only; omega))
  obtain rfl : k = tn := by omega
  rw [List.take_of_length_le (by omega)] at ok ⊢
  refine nx_still ok (by repeat (first | exact Pull.here | apply Pull.cons | apply Pull.app)) (fun G9 S1 sc le9 hv9 hs9 => ?_)
  cases hv9
  have hct : CourtAt G9 g Ak (stockOf kinds trains).length ck F1 (worldBodies c kinds trains).length fc (netOf c.plan) (stockOf kinds trains) (worldBodies c kinds trains) := ⟨(hnet.le le43).le le9, hs9, hs1.le le9⟩
  generalize hSN : (stockOf kinds trains).length = sn at hct hstl ⊢
  generalize hFN : (worldBodies c kinds trains).length = fn at hct hbl2 hwn ⊢
  refine nx_exit (nx_then_exit (nx_then_exit (nx_in_eq (nx_then (nx_seq (nx_label (nx_then (nx_seq (nx_seq (nx_region (nv v_move ?_)))))))))))
  refine nv v_len (nv v_move (nx_nil (nx_then (nx_block ?_))))
  refine nx_loop_v (σ := Nat × Gh) [0, 1, 2, 3, 4, 8, 9, 10, 11, 12, 16, 18, 26, 27, 28, 29, 30, 31, 32, 33, 34, 35, 36, 37, 38, 39, 40, 41, 42, 43, 44, 45, 46, 47, 48, 62, 63] (fun s => [(64, .int .i64 (s.1 : Int)), (13, .int .i64 0), (14, .int .i64 (-1)), (15, .int .i64 (-1))]) (fun s => s.2) (fun _ => _) (fun s => G.le s.2 ∧ CourtAt s.2 g Ak sn ck F1 fn fc (netOf c.plan) (stockOf kinds trains) (worldBodies c kinds trains) ∧ s.1 ≤ ln ∧ notesScan (netOf c.plan) (stockOf kinds trains) (worldBodies c kinds trains) l (ln - s.1) s.1 = judge c kinds trains l ∧ (0 < s.1 → shapedOk (netOf c.plan) (stockOf kinds trains) ((l[s.1 - 1]?).getD noNote) = true)) (fun s => ln - s.1) (0, G9) (.cons rfl (.cons rfl (.cons rfl (.cons rfl (.cons rfl (.cons rfl (.cons rfl (.cons rfl (.cons rfl (.cons rfl (.cons rfl (.cons rfl (.cons rfl (.cons rfl (.cons rfl (.cons rfl (.cons rfl (.cons rfl (.cons rfl (.cons rfl (.cons rfl (.cons rfl (.cons rfl (.cons rfl (.cons rfl (.cons rfl (.cons rfl (.cons rfl (.cons rfl (.cons rfl (.cons rfl (.cons rfl (.cons rfl (.cons rfl (.cons rfl (.cons rfl (.cons rfl (.nil)))))))))))))))))))))))))))))))))))))) ⟨rfl, rfl, rfl, rfl, trivial⟩ ⟨(Gh.le.trans le30 (Gh.le.trans le38 (Gh.le.trans le43 le9))), hct, Nat.zero_le _, (by rw [hJ0, hsl]; rfl), (fun h => absurd h (Nat.lt_irrefl 0))⟩ rfl rfl ?_
  rintro ⟨i, G1⟩ ⟨le1, hct, hil, hI, hpre⟩ K2 next2
  dsimp only at le1 hct hil hI hpre ⊢
  refine nx_seq (nx_region (nv v_lss (nx_nil (nx_then (nx_seq ?_)))))
  refine nx_cond_dec rfl (fun c65 => ?_) (fun c65 => ?_)
  obtain ⟨x, rest, hd, hx⟩ := drop_of_lt (xs := l) (k := i) (by omega)
  obtain ⟨xb, xo, xA1, xn1, xc1, xA2, xn2, xc2, xA3, xn3, xc3, xe, xk, xr, xf0, xf1, xf2, xat⟩ := next_Note (hs.le le1) hd
  cases xe
  have hgx : (l[i]?).getD noNote = x := by rw [hx]; rfl
  obtain ⟨y, hy⟩ : ∃ y, l[i - 1]? = some y := ⟨_, List.getElem?_eq_getElem (by omega)⟩
  have hgy : (l[i - 1]?).getD noNote = y := by rw [hy]; rfl
  have hli : ln - i = (ln - (i + 1)) + 1 := by omega
  rw [hli] at hI
  simp only [notesScan] at hI
  unfold noteBad at hI
  rw [hgx] at hI
  refine nx_skip (nx_then (nx_seq (nx_block (nx_seq (nx_region (nv v_move (nv (v_indexAddr_nat rfl rfl rfl (by omega)) (nv v_load_s ?_))))))))
  refine nx_op rfl (op_alloc rfl (fun b22 => ?_))
  refine nv v_assign (st (k := nx_nil (nx_then (nx_seq (nx_seq (nx_region (nv v_load_o (nv v_load_o ?_))))))))
  refine nx_op rfl (op_callD rfl rfl rfl (fun W hp => shaped_ok hp hct hN.num xat (hfew x (List.mem_of_getElem? hx))) (fun v71 G71 le71 ph71 => ?_))
  subst ph71
  have hct := hct.le le71
  refine nv v_not (nx_nil (nx_then ?_))
  refine nx_cond rfl (fun c72 => ?_) (fun c72 => ?_)
  have hsh : shapedOk (netOf c.plan) (stockOf kinds trains) x = false := by simpa using c72
  have hJ : judge c kinds trains l = (2, (i : Int), -1) := by rw [← hI, if_neg (by rw [hsh]; simp)]
  refine nx_seq (nx_region (nv v_move (nv v_assign (nv v_assign (nv v_assign (nx_nil (nx_then (nx_exit (nx_then_exit (nx_in_ne rfl (nx_then_exit ?_)))))))))))
  refine nx_then_exit (nx_in_eq (nx_then (nx_seq (nx_region (nv v_move (nv v_move (nv v_move (nv v_assign (nv v_assign (nv v_assign (nx_nil ?_)))))))))))
  refine nx_then (nx_ret (nx_ng_ret ?_))
  exact nx_ret3 rfl (.tmp rfl) (.tmp rfl) (.tmp rfl) (rt (Gh.le.trans le1 le71) (by rw [hJ]))
  have hsh : shapedOk (netOf c.plan) (stockOf kinds trains) x = true := by simpa using c72
  rw [if_pos hsh] at hI
  obtain ⟨g1, g2, g3⟩ := shaped_get hsh
  have hyshape : shapedOk (netOf c.plan) (stockOf kinds trains) y = true := by
    rcases Nat.eq_zero_or_pos i with h0 | h0
    · subst h0; rw [hx] at hy; cases hy; exact hsh
    · have := hpre h0; rwa [hgy] at this
  obtain ⟨y1, y2, y3⟩ := shaped_get hyshape
  obtain ⟨yb, yo, yA1, yn1, yc1, yA2, yn2, yc2, yA3, yn3, yc3, ye, yk, yf0, yf1, yf2, yat⟩ := get_Note (hs.le (Gh.le.trans le1 le71)) hy
  cases ye
  have hyb := yat.h3.length
  have hybl := hbl y (List.mem_of_getElem? hy)
  have hpb : prevBodies l i = y.bodies := by unfold prevBodies; rw [hgy]
  have hmx : ((i - 1 : Nat) : Int) = max ((i : Int) - 1) 0 := by omega
  refine nx_skip (nx_then (nx_seq (nx_region (nv v_move (nv v_move (nv v_sub (nv v_max ?_)))))))
  refine nv (v_indexAddr_nat (k := i - 1) rfl rfl (by rw [hmx]; rfl) (by omega)) ?_
  refine nv v_fieldAddr (nv v_load1_s ?_)
  refine nx_op rfl (op_callD rfl rfl rfl (fun W hp => first_ok hp yat.h3 (by omega)) (fun v81 G81 le81 ph81 => ?_))
  obtain ⟨B1, bc, rfl, sB⟩ := ph81
  have hct := hct.le le81
  have hflen : (firstL y.bodies).length = y.bodies.length := firstF_length _ _
  rw [hpb, hSN] at hI
  obtain ⟨KS, hKS⟩ : ∃ q, kindScan (fun k t => wrongOk (netOf c.plan) (stockOf kinds trains) (worldBodies c kinds trains) l (firstL y.bodies) k i t) sn 5 3 = q := ⟨_, rfl⟩
  rw [hKS] at hI
  refine nv v_assign (nx_nil (nx_then (nx_seq (nx_region (nv v_assign (nx_nil (nx_then (nx_block ?_))))))))
  refine nx_loop_v (σ := Int × Gh) [0, 1, 2, 3, 4, 8, 9, 10, 11, 12, 16, 18, 21, 22, 23, 26, 27, 28, 29, 30, 31, 32, 33, 34, 35, 36, 37, 38, 39, 40, 41, 42, 43, 44, 45, 46, 47, 48, 62, 63, 64, 65, 66, 67, 68, 69, 70, 71, 72, 74, 75, 76, 77, 78, 79, 80, 81] (fun s => [(24, .int .i64 s.1), (13, .int .i64 0), (14, .int .i64 (-1)), (15, .int .i64 (-1))]) (fun s => s.2) (fun _ => _) (fun s => G.le s.2 ∧ CourtAt s.2 g Ak sn ck F1 fn fc (netOf c.plan) (stockOf kinds trains) (worldBodies c kinds trains) ∧ Sl tBool s.2 B1 (firstL y.bodies).length bc (firstL y.bodies) ∧ 3 ≤ s.1 ∧ s.1 ≤ 8 ∧ kindScan (fun k t => wrongOk (netOf c.plan) (stockOf kinds trains) (worldBodies c kinds trains) l (firstL y.bodies) k i t) sn (8 - s.1).toNat s.1 = KS) (fun s => (8 - s.1).toNat) (3, G81) (.cons rfl (.cons rfl (.cons rfl (.cons rfl (.cons rfl (.cons rfl (.cons rfl (.cons rfl (.cons rfl (.cons rfl (.cons rfl (.cons rfl (.cons rfl (.cons rfl (.cons rfl (.cons rfl (.cons rfl (.cons rfl (.cons rfl (.cons rfl (.cons rfl (.cons rfl (.cons rfl (.cons rfl (.cons rfl (.cons rfl (.cons rfl (.cons rfl (.cons rfl (.cons rfl (.cons rfl (.cons rfl (.cons rfl (.cons rfl (.cons rfl (.cons rfl (.cons rfl (.cons rfl (.cons rfl (.cons rfl (.cons rfl (.cons rfl (.cons rfl (.cons rfl (.cons rfl (.cons rfl (.cons rfl (.cons rfl (.cons rfl (.cons rfl (.cons rfl (.cons rfl (.cons rfl (.cons rfl (.cons rfl (.cons rfl (.cons rfl (.nil)))))))))))))))))))))))))))))))))))))))))))))))))))))))))) ⟨rfl, rfl, rfl, rfl, trivial⟩ ⟨(Gh.le.trans le1 (Gh.le.trans le71 le81)), hct, sB, Int.le_refl _, (by dsimp only; omega), hKS⟩ rfl rfl ?_
  rintro ⟨kd, G3⟩ ⟨le3, hct3, sB3, hk3, hk8, hKI⟩ K3 next3
  dsimp only at le3 hct3 sB3 hk3 hk8 hKI ⊢
  refine nx_seq (nx_seq (nx_region (nv v_move (nv v_leq (nx_nil (nx_then ?_))))))
  refine nx_cond_dec rfl (fun c83 => ?_) (fun c83 => ?_)
  have hkk : (8 - kd).toNat = (8 - (kd + 1)).toNat + 1 := by omega
  rw [hkk] at hKI
  simp only [kindScan] at hKI
  refine nx_skip (nx_then (nx_seq (nx_block (nx_seq (nx_region (nv v_move (nv v_len (nv v_move (nx_nil (nx_then (nx_block ?_)))))))))))
  refine nx_loop_v (σ := Nat × Gh) [0, 1, 2, 3, 4, 8, 9, 10, 11, 12, 16, 18, 21, 22, 23, 24, 26, 27, 28, 29, 30, 31, 32, 33, 34, 35, 36, 37, 38, 39, 40, 41, 42, 43, 44, 45, 46, 47, 48, 62, 63, 64, 65, 66, 67, 68, 69, 70, 71, 72, 74, 75, 76, 77, 78, 79, 80, 81, 82, 83, 86, 87] (fun s => [(88, .int .i64 (s.1 : Int)), (13, .int .i64 0), (14, .int .i64 (-1)), (15, .int .i64 (-1))]) (fun s => s.2) (fun _ => _) (fun s => G.le s.2 ∧ CourtAt s.2 g Ak sn ck F1 fn fc (netOf c.plan) (stockOf kinds trains) (worldBodies c kinds trains) ∧ Sl tBool s.2 B1 (firstL y.bodies).length bc (firstL y.bodies) ∧ s.1 ≤ sn ∧ trainScan (fun t => wrongOk (netOf c.plan) (stockOf kinds trains) (worldBodies c kinds trains) l (firstL y.bodies) kd i t) (sn - s.1) s.1 = trainScan (fun t => wrongOk (netOf c.plan) (stockOf kinds trains) (worldBodies c kinds trains) l (firstL y.bodies) kd i t) sn 0) (fun s => sn - s.1) (0, G3) (.cons rfl (.cons rfl (.cons rfl (.cons rfl (.cons rfl (.cons rfl (.cons rfl (.cons rfl (.cons rfl (.cons rfl (.cons rfl (.cons rfl (.cons rfl (.cons rfl (.cons rfl (.cons rfl (.cons rfl (.cons rfl (.cons rfl (.cons rfl (.cons rfl (.cons rfl (.cons rfl (.cons rfl (.cons rfl (.cons rfl (.cons rfl (.cons rfl (.cons rfl (.cons rfl (.cons rfl (.cons rfl (.cons rfl (.cons rfl (.cons rfl (.cons rfl (.cons rfl (.cons rfl (.cons rfl (.cons rfl (.cons rfl (.cons rfl (.cons rfl (.cons rfl (.cons rfl (.cons rfl (.cons rfl (.cons rfl (.cons rfl (.cons rfl (.cons rfl (.cons rfl (.cons rfl (.cons rfl (.cons rfl (.cons rfl (.cons rfl (.cons rfl (.cons rfl (.cons rfl (.cons rfl (.cons rfl (.nil))))))))))))))))))))))))))))))))))))))))))))))))))))))))))))))) ⟨rfl, rfl, rfl, rfl, trivial⟩ ⟨le3, hct3, sB3, Nat.zero_le _, rfl⟩ rfl rfl ?_
  rintro ⟨t, G4⟩ ⟨le4, hct4, sB4, htsn, hTI⟩ K4 next4
  dsimp only at le4 hct4 sB4 htsn hTI ⊢
  refine nx_seq (nx_region (nv v_lss (nx_nil (nx_then (nx_seq ?_)))))
  refine nx_cond_dec rfl (fun c89 => ?_) (fun c89 => ?_)
  have htk : sn - t = (sn - (t + 1)) + 1 := by omega
  rw [htk] at hTI
  simp only [trainScan] at hTI
  obtain ⟨b, hb⟩ : ∃ b, x.bodies[t]? = some b := ⟨_, List.getElem?_eq_getElem (by omega)⟩
  obtain ⟨f, hf⟩ : ∃ f, (worldBodies c kinds trains)[t]? = some f := ⟨_, List.getElem?_eq_getElem (by omega)⟩
  obtain ⟨s, hs5⟩ : ∃ s, (stockOf kinds trains)[t]? = some s := ⟨_, List.getElem?_eq_getElem (by omega)⟩
  obtain ⟨hot, hhot⟩ : ∃ b, (firstL y.bodies)[t]? = some b := ⟨_, List.getElem?_eq_getElem (by omega)⟩
  obtain ⟨z, hz⟩ : ∃ b, y.bodies[t]? = some b := ⟨_, List.getElem?_eq_getElem (by omega)⟩
  have hzf := mayB_fit hN.num (y3 t s z hs5 hz) (hfew y (List.mem_of_getElem? hy) z (List.mem_of_getElem? hz))
  refine nx_skip (nx_then (nx_seq (nx_block (nx_seq (nx_region (nv v_move (nv v_assign (nx_nil (nx_then (nx_seq (nx_region ?_)))))))))))
  refine nv v_load_o (nv v_move (nv v_move (nv v_move (nv v_move (nv v_move ?_)))))
  refine nx_op rfl (op_callD rfl rfl rfl (fun W hp => wrong_ok hp hct4 hN (hs.le le4) sB4 kd (i := i) (t := t) (x := x) (b := b) (f := f) (s := s) (hot := hot) ⟨hx, hb, hfew x (List.mem_of_getElem? hx), hf, hs5, hstk s (List.mem_of_getElem? hs5), hhot, fun h0 => ⟨y, z, hy, hz, hzf.1, fun e he => (by have := hzf.2 e he; omega)⟩⟩) (fun v97 G97 le97 ph97 => ?_))
  subst ph97
  refine nx_nil (nx_then ?_)
  refine nx_cond rfl (fun c97 => ?_) (fun c97 => ?_)
  have htr : trainScan (fun t => wrongOk (netOf c.plan) (stockOf kinds trains) (worldBodies c kinds trains) l (firstL y.bodies) kd i t) sn 0 = some t := by rw [← hTI, if_pos c97]
  rw [htr] at hKI
  simp only at hKI
  rw [← hKI] at hI
  have hJ : judge c kinds trains l = (kd, (i : Int), (t : Int)) := by rw [← hI]; rfl
  refine nx_seq (nx_region (nv v_move (nv v_move (nv v_move (nv v_assign (nv v_assign (nv v_assign (nx_nil (nx_then (nx_exit (nx_in_ne rfl ?_)))))))))))
  refine nx_then_exit (nx_then_exit (nx_in_ne rfl (nx_in_ne rfl (nx_then_exit (nx_then_exit (nx_in_ne rfl (nx_in_ne rfl (nx_then_exit (nx_then_exit (nx_in_eq (nx_then ?_)))))))))))
  refine nx_seq (nx_region (nv v_move (nv v_move (nv v_move (nv v_assign (nv v_assign (nv v_assign (nx_nil (nx_then (nx_ret (nx_ng_ret ?_)))))))))))
  exact nx_ret3 rfl (.tmp rfl) (.tmp rfl) (.tmp rfl) (rt (Gh.le.trans le4 le97) (by rw [hJ]))
  rw [if_neg (by rw [c97]; simp)] at hTI
  refine nx_skip (nx_in _ (nx_then (nx_region (nv v_add (nv v_move (nx_nil (nx_then ?_)))))))
  exact nn (next4 (t + 1, _) ⟨(Gh.le.trans le4 le97), hct4.le le97, sB4.le le97, (by dsimp only; omega), hTI⟩ (by dsimp only; omega))
  obtain rfl : sn = t := by omega
  rw [Nat.sub_self] at hTI
  simp only [trainScan] at hTI
  have htn : trainScan (fun t => wrongOk (netOf c.plan) (stockOf kinds trains) (worldBodies c kinds trains) l (firstL y.bodies) kd i t) sn 0 = none := hTI.symm
  refine nx_exit (nx_then_exit (nx_then_exit (nx_in_eq (nx_in _ (nx_then (nx_region (nv v_move (nv v_add (nv v_assign (nx_nil (nx_then ?_)))))))))))
  rw [htn] at hKI
  simp only at hKI
  exact nn (next3 (kd + 1, _) ⟨le4, hct4, sB4, (by dsimp only; omega), (by dsimp only; omega), hKI⟩ (by dsimp only; omega))
  have hks : KS = none := by rw [← hKI, show (8 - kd).toNat = 0 by omega]; rfl
  refine nx_exit (nx_then_exit (nx_then_exit (nx_in_eq (nx_in _ (nx_then (nx_region (nv v_add (nv v_move (nx_nil (nx_then ?_))))))))))
  rw [hks] at hI
  simp only [Option.map_none] at hI
  exact nn (next2 (i + 1, _) ⟨le3, hct3, (by dsimp only; omega), hI, (fun _ => (by rw [Nat.add_sub_cancel, hgx]; exact hsh))⟩ (by dsimp only; omega))
  have hJ : judge c kinds trains l = (0, -1, -1) := by rw [← hI, show ln - i = 0 by omega]; rfl
  refine nx_exit (nx_then_exit (nx_then_exit (nx_in_eq (nx_then (nx_seq (nx_region (nv v_move (nv v_move (nv v_move (nv v_assign (nv v_assign ?_)))))))))))
  refine nv v_assign (nx_nil (nx_then (nx_ret (nx_ng_ret ?_))))
  exact nx_ret3 rfl (.tmp rfl) (.tmp rfl) (.tmp rfl) (rt le1 (by rw [hJ]))
end Go.Proofs.YtjckojnlapchoaaGreat
