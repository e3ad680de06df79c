/- Part 14 of a proof of a law over the program: Known, Law1, Front, Front2, Open, Open2. Conditions: none beyond what each statement says. -/
import Derived.Test.YtjckojnlapchoaaGreatQ08
import Derived.Test.YtjckojnlapchoaaGreatQ13
import Derived.Test.YtjckojnlapchoaaGreatQ02
import Derived.Carry
import Derived.ProofKit
import Derived.OpenShut
import Derived.ReadAgain
set_option linter.unusedVariables false
set_option linter.unusedSimpArgs false
open Go Go.RowKit
namespace Go.Proofs.YtjckojnlapchoaaGreat
open Go.Proofs
def small : Plan where
  elems := [⟨⟨#[87]⟩, 4, 0⟩, ⟨⟨#[65]⟩, 1, 20⟩, ⟨⟨#[80]⟩, 2, 10⟩, ⟨⟨#[66]⟩, 1, 20⟩, ⟨⟨#[67]⟩, 1, 30⟩, ⟨⟨#[69]⟩, 4, 0⟩]
  joins := [⟨⟨0, 0⟩, ⟨1, 0⟩⟩, ⟨⟨1, 1⟩, ⟨2, 0⟩⟩, ⟨⟨2, 1⟩, ⟨3, 0⟩⟩, ⟨⟨3, 1⟩, ⟨5, 0⟩⟩, ⟨⟨2, 2⟩, ⟨4, 0⟩⟩]
  signals := [⟨⟨#[119]⟩, ⟨0, 0⟩, false⟩, ⟨⟨#[97]⟩, ⟨1, 1⟩, false⟩, ⟨⟨#[101]⟩, ⟨5, 0⟩, false⟩, ⟨⟨#[98]⟩, ⟨3, 0⟩, false⟩, ⟨⟨#[99]⟩, ⟨4, 0⟩, false⟩]
  lines := []
  top := 10
  brake := 5
  margin := 15
  throw_ := 2
  hard := false
def kKinds : List Stock := [⟨⟨#[120]⟩, 5, 10, 10, 5⟩]
def kTrains : List Train := [⟨⟨#[116]⟩, 0, ⟨1, 1⟩, 12⟩]
def kA : Note := ⟨[0, 0, 1, 0, 0, 0], [0, 0, 0, 0, 0], [⟨2, [⟨1, 1⟩], 12, 0, 0⟩]⟩
def kB : Note := ⟨[0, 0, 1, 0, 0, 0], [0, 0, 0, 0, 0], [⟨2, [⟨1, 1⟩], 9, 0, 3⟩]⟩
theorem small_fine : rFine small = true := by decide +kernel
theorem small_chart : chartErr small = 0 := by decide +kernel
theorem known_a : judge (chartOf small) kKinds kTrains [kA, kA] = (0, -1, -1) := by decide +kernel
theorem known_b : judge (chartOf small) kKinds kTrains [kA, kB] = (7, 1, 0) := by decide +kernel
end Go.Proofs.YtjckojnlapchoaaGreat
open Go Go.RowKit
namespace Go.Proofs.YtjckojnlapchoaaGreat
open Go.Proofs
def IsPlanV (p : Plan) (G : Gh) (v : Value) : Prop := ∃ A1 n1 c1 A2 n2 c2 A3 n3 c3 A4 n4 c4, v = .agg ⟨[.slice A1 n1 c1, .slice A2 n2 c2, .slice A3 n3 c3, .slice A4 n4 c4, .int .i64 p.top, .int .i64 p.brake, .int .i64 p.margin, .int .i64 p.throw_, .bool p.hard]⟩ ∧ Plan.At G A1 n1 c1 A2 n2 c2 A3 n3 c3 A4 n4 c4 p
def IsBuilt (c : Chart) (k : Bool) (G : Gh) (v : Value) : Prop := ∃ A1 n1 c1 A2 n2 c2 A3 n3 c3 A4 n4 c4 A5 n5 c5, v = .tuple #[.agg ⟨[.slice A1 n1 c1, .slice A2 n2 c2, .slice A3 n3 c3, .slice A4 n4 c4, .int .i64 c.plan.top, .int .i64 c.plan.brake, .int .i64 c.plan.margin, .int .i64 c.plan.throw_, .bool c.plan.hard, .slice A5 n5 c5]⟩, .bool k] ∧ Chart.At G A1 n1 c1 A2 n2 c2 A3 n3 c3 A4 n4 c4 A5 n5 c5 c
set_option maxRecDepth 20000 in
set_option maxHeartbeats 1000000 in
theorem rJoin_ok {G : Gh} {H : List (Nat × Obj)} {W : World} (hp : Hp G H W) (a x b y : Int) : Calls Tryz.prog 67 ⟨[.int .i64 a, .int .i64 x, .int .i64 b, .int .i64 y]⟩ W (RetS G H (.agg ⟨(Join.cells ⟨⟨a, x⟩, ⟨b, y⟩⟩)⟩)) := by
  refine enter Tryz.func67 rfl Tryz.ntmps67 (Nat.le_of_ble_eq_true rfl) hp (nx_seq (nx_region ?_))
  refine nx_op rfl (op_alloc rfl (fun b8 => ?_))
  refine nx_nil (nx_then (nx_seq (nx_region (nv v_move (nv v_move (nv (v_build rfl rfl rfl) (nv v_move (nv v_move (nv (v_build rfl rfl rfl) (nv (v_build rfl rfl rfl) (st (k := ?_))))))))))))
  refine nx_nil (nx_then (nx_ret ?_))
  exact nx_ret1 rfl ro (rs rfl)
set_option maxRecDepth 20000 in
set_option maxHeartbeats 1000000 in
theorem rSmall_ok {G : Gh} {H : List (Nat × Obj)} {W : World} (hp : Hp G H W) : Calls Tryz.prog 25 ⟨[]⟩ W (RetD G H (IsPlanV small)) := by
  refine enter Tryz.func25 rfl Tryz.ntmps25 (Nat.le_of_ble_eq_true rfl) hp (nx_seq (nx_region ?_))
  refine nx_op rfl (op_alloc rfl (fun b0 => ?_))
  refine nx_nil (nx_then (nx_seq (nx_region (nv (v_build rfl rfl rfl) ?_))))
  refine nx_op rfl (op_alloc rfl (fun b1 => ?_))
  refine st (k := nx_nil (nx_then (nx_seq (nx_region (nv (v_build rfl rfl rfl) (nv (v_build rfl rfl rfl) (nv (v_build rfl rfl rfl) (nv (v_build rfl rfl rfl) (nv (v_build rfl rfl rfl) (nv (v_build rfl rfl rfl) ?_))))))))))
  refine nx_op rfl (op_buildSlice rfl rfl rfl rfl rfl (fun b9 => ?_))
  refine nv v_fieldAddr (st (k := nx_nil (nx_then (nx_seq (nx_region ?_)))))
  refine nx_op rfl (op_callS rfl rfl rfl (fun W hp => rJoin_ok hp _ _ _ _) ?_)
  refine nx_op rfl (op_callS rfl rfl rfl (fun W hp => rJoin_ok hp _ _ _ _) ?_)
  refine nx_op rfl (op_callS rfl rfl rfl (fun W hp => rJoin_ok hp _ _ _ _) ?_)
  refine nx_op rfl (op_callS rfl rfl rfl (fun W hp => rJoin_ok hp _ _ _ _) ?_)
  refine nx_op rfl (op_callS rfl rfl rfl (fun W hp => rJoin_ok hp _ _ _ _) ?_)
  refine nx_op rfl (op_buildSlice rfl rfl rfl rfl rfl (fun b16 => ?_))
  refine nv v_fieldAddr (st (k := nx_nil (nx_then (nx_seq (nx_region (nv (v_build rfl rfl rfl) (nv (v_build rfl rfl rfl) (nv (v_build rfl rfl rfl) (nv (v_build rfl rfl rfl) (nv (v_build rfl rfl rfl) (nv (v_build rfl rfl rfl) ?_)))))))))))
  refine nv (v_build rfl rfl rfl) (nv (v_build rfl rfl rfl) (nv (v_build rfl rfl rfl) (nv (v_build rfl rfl rfl) ?_)))
  refine nx_op rfl (op_buildSlice rfl rfl rfl rfl rfl (fun b28 => ?_))
  refine nv v_fieldAddr (st (k := nx_nil (nx_then (nx_seq (nx_region (nv v_load_o (st (k := nx_nil (nx_then (nx_ret ?_))))))))))
  refine nx_still (OwnS.row (T := tElem) (l := small.elems) (b := b9) (n := 6) (rows_Elem small.elems) rfl (by decide)) (by repeat (first | exact Pull.here | apply Pull.cons | apply Pull.app)) (fun Ga Aa ca lea hva hsa => ?_)
  refine nx_still (OwnS.row (T := tJoin) (l := small.joins) (b := b16) (n := 5) (rows_Join small.joins) rfl (by decide)) (by repeat (first | exact Pull.here | apply Pull.cons | apply Pull.app)) (fun Gb Ab cb leb hvb hsb => ?_)
  refine nx_still (OwnS.row (T := tSignal) (l := small.signals) (b := b28) (n := 5) (rows_Signal small.signals) rfl (by decide)) (by repeat (first | exact Pull.here | apply Pull.cons | apply Pull.app)) (fun Gc Ac cc lec hvc hsc => ?_)
  rw [show small.elems.length = 6 from rfl] at hva hsa
  rw [show small.joins.length = 5 from rfl] at hvb hsb
  rw [show small.signals.length = 5 from rfl] at hvc hsc
  cases hva
  cases hvb
  cases hvc
  exact nx_ret1 rfl ro (rt (lea.trans (leb.trans lec)) ⟨_, _, _, _, _, _, _, _, _, _, _, _, rfl, ⟨hsa.le (leb.trans lec), hsb.le lec, hsc, Sl.nil _ _⟩⟩)
def fewKT (kinds : List Stock) (trains : List Train) : Bool := trains.all (fun t => decide (t.name.size ≤ 100)) && (kinds.all (fun s => decide (s.name.size ≤ 100)) && (decide (kinds.length ≤ 10) && decide (trains.length ≤ 12)))
theorem two_le {a b : Nat} (h : (a : Int) ≤ 10) : decide ((b : Int) ≤ 12) = (true && (true && (decide (a ≤ 10) && decide (b ≤ 12)))) := by
  have h1 : a ≤ 10 := by omega
  have e1 : ((b : Int) ≤ 12) = (b ≤ 12) := propext ⟨fun h => by omega, fun h => by omega⟩
  simp [h1, e1]
theorem two_le2 {a b : Nat} (h : ¬ (a : Int) ≤ 10) : false = (true && (true && (decide (a ≤ 10) && decide (b ≤ 12)))) := by
  have h1 : ¬ a ≤ 10 := by omega
  simp [h1]
set_option maxRecDepth 20000 in
set_option maxHeartbeats 1000000 in
theorem fewKT_ok {G : Gh} {H : List (Nat × Obj)} {W : World} (hp : Hp G H W) {K1 : Option Addr} {kn kc : Nat} {kinds : List Stock} (hk : Sl tStock G K1 kn kc kinds) {T1 : Option Addr} {tn tc : Nat} {trains : List Train} (ht : Sl tTrain G T1 tn tc trains) : Calls Tryz.prog 16 ⟨[.slice K1 kn kc, .slice T1 tn tc]⟩ W (RetS G H (.bool (fewKT kinds trains))) := by
  have hkl := hk.length
  have htl := ht.length
  have hkr := Nat.le_trans hk.cap hk.room
  have htr := Nat.le_trans ht.cap ht.room
  refine enter Tryz.func16 rfl Tryz.ntmps16 (Nat.le_of_ble_eq_true rfl) hp (nx_seq (nx_region (nv v_assign (nx_nil (nx_then (nx_seq (nx_seq (nx_region (nv v_move (nv v_len (nv v_move ?_)))))))))))
  refine nx_nil (nx_then (nx_block ?_))
  refine nx_loop_v (σ := Nat) [0, 1, 9, 10] (fun k => [(11, .int .i64 (k : Int))]) (fun _ => G) (fun _ => _) (fun k => (trains.drop k).all (fun t => decide (t.name.size ≤ 100)) = trains.all (fun t => decide (t.name.size ≤ 100))) (fun k => tn - k) 0 (.cons rfl (.cons rfl (.cons rfl (.cons rfl (.nil))))) ⟨rfl, trivial⟩ rfl rfl rfl ?_
  intro k hI K next
  refine nx_seq (nx_region (nv v_lss (nx_nil (nx_then (nx_seq ?_)))))
  refine nx_cond_dec rfl (fun c12 => ?_) (fun c12 => ?_)
  obtain ⟨x, rest, hd, hx⟩ := drop_of_lt (xs := trains) (k := k) (by omega)
  obtain ⟨xb, xo, xe, xk, xr, xf0, xf1, xf2, xf3, xf4⟩ := next_Train ht hd
  cases xe
  refine nx_skip (nx_then (nx_seq (nx_block (nx_seq (nx_region (nv (v_indexAddr_nat rfl rfl rfl (by omega)) (nv v_load_s ?_)))))))
  refine nx_op rfl (op_alloc rfl (fun b6 => ?_))
  refine st (k := nx_nil (nx_then (nx_seq (nx_region (nv v_fieldAddr (nv v_load1_o (nv v_len_str (nv v_gtr (nx_nil (nx_then ?_))))))))))
  refine nx_cond_dec rfl (fun c18 => ?_) (fun c18 => ?_)
  have hno : fewKT kinds trains = false := by unfold fewKT; rw [all_no hI hd (by simp; omega)]; rfl
  refine nx_seq (nx_region (nv v_assign (nx_nil (nx_then (nx_ret (nx_in_ret (nx_then_ret (nx_then_ret (nx_in_ret (nx_then_ret ?_))))))))))
  exact nx_ret1 rfl (.tmp rfl) (rs (by (rw [hno]; done)))
  refine nx_skip (nx_in _ (nx_then (nx_region (nv v_add (nv v_move (nx_nil (nx_then ?_)))))))
  exact nn (next (k + 1) (all_yes hI hd xr (by simp; omega)) (by omega))
  refine nx_exit (nx_then_exit (nx_then_exit (nx_in_eq (nx_then (nx_seq (nx_seq (nx_region (nv v_move (nv v_len (nv v_move (nx_nil ?_)))))))))))
  refine nx_then (nx_block ?_)
  have h1 := all_end hI (by omega)
  refine nx_loop_v (σ := Nat) [0, 1, 9, 10, 11, 12, 20, 21] (fun k => [(22, .int .i64 (k : Int))]) (fun _ => G) (fun _ => _) (fun k => (kinds.drop k).all (fun t => decide (t.name.size ≤ 100)) = kinds.all (fun t => decide (t.name.size ≤ 100))) (fun k => kn - k) 0 (.cons rfl (.cons rfl (.cons rfl (.cons rfl (.cons rfl (.cons rfl (.cons rfl (.cons rfl (.nil))))))))) ⟨rfl, trivial⟩ rfl rfl rfl ?_
  intro k hI K next
  refine nx_seq (nx_region (nv v_lss (nx_nil (nx_then (nx_seq ?_)))))
  refine nx_cond_dec rfl (fun c23 => ?_) (fun c23 => ?_)
  obtain ⟨x, rest, hd, hx⟩ := drop_of_lt (xs := kinds) (k := k) (by omega)
  obtain ⟨xb, xo, xe, xk, xr, xf0, xf1, xf2, xf3, xf4⟩ := next_Stock hk hd
  cases xe
  refine nx_skip (nx_then (nx_seq (nx_block (nx_seq (nx_region (nv (v_indexAddr_nat rfl rfl rfl (by omega)) (nv v_load_s ?_)))))))
  refine nx_op rfl (op_alloc rfl (fun b8 => ?_))
  refine st (k := nx_nil (nx_then (nx_seq (nx_region (nv v_fieldAddr (nv v_load1_o (nv v_len_str (nv v_gtr (nx_nil (nx_then ?_))))))))))
  refine nx_cond_dec rfl (fun c29 => ?_) (fun c29 => ?_)
  have hno : fewKT kinds trains = false := by unfold fewKT; rw [h1, all_no hI hd (by simp; omega)]; rfl
  refine nx_seq (nx_region (nv v_assign (nx_nil (nx_then (nx_ret (nx_in_ret (nx_then_ret (nx_then_ret (nx_in_ret (nx_then_ret ?_))))))))))
  exact nx_ret1 rfl (.tmp rfl) (rs (by (rw [hno]; done)))
  refine nx_skip (nx_in _ (nx_then (nx_region (nv v_add (nv v_move (nx_nil (nx_then ?_)))))))
  exact nn (next (k + 1) (all_yes hI hd xr (by simp; omega)) (by omega))
  refine nx_exit (nx_then_exit (nx_then_exit (nx_in_eq (nx_then (nx_seq (nx_region (nv v_move (nv v_len (nv v_leq (nv v_move ?_))))))))))
  refine nx_guard_dec (t := 34) rfl (fun g34 => ?_) (fun g34 => ?_)
  refine nr v_move (nr v_len (nr v_leq (nv v_pick_t (nv v_assign (nx_nil (nx_then (nx_ret ?_)))))))
  exact nx_ret1 rfl (.tmp rfl) (rs (by (unfold fewKT; rw [h1, all_end hI (by omega), hkl, htl]; exact congrArg Value.bool (two_le g34))))
  refine nk (k := nk (k := nk (k := nv v_pick_f (nv v_assign (nx_nil (nx_then (nx_ret ?_)))))))
  exact nx_ret1 rfl (.tmp rfl) (rs (by (unfold fewKT; rw [h1, all_end hI (by omega), hkl, htl]; exact congrArg Value.bool (two_le2 g34))))
def fewNote (x : Note) : Bool := (decide (x.pos.length ≤ 100) && (decide (x.lamps.length ≤ 100) && decide (x.bodies.length ≤ 20))) && x.bodies.all (fun b => decide (b.trail.length ≤ 200))
def fewN (l : List Note) : Bool := decide (l.length ≤ 12) && l.all fewNote
set_option maxRecDepth 20000 in
set_option maxHeartbeats 1000000 in
theorem fewN_ok {G : Gh} {H : List (Nat × Obj)} {W : World} (hp : Hp G H W) {L1 : Option Addr} {ln lc : Nat} {l : List Note} (hs : Sl tNote G L1 ln lc l) : Calls Tryz.prog 17 ⟨[.slice L1 ln lc]⟩ W (RetS G H (.bool (fewN l))) := by
  have hl := hs.length
  have hr := Nat.le_trans hs.cap hs.room
  refine enter Tryz.func17 rfl Tryz.ntmps17 (Nat.le_of_ble_eq_true rfl) hp (nx_seq (nx_region (nv v_assign (nx_nil (nx_then (nx_seq (nx_seq (nx_region (nv v_move (nv v_len (nv v_gtr ?_)))))))))))
  refine nx_nil (nx_then ?_)
  refine nx_cond_dec rfl (fun c9 => ?_) (fun c9 => ?_)
  have hno : fewN l = false := by unfold fewN; rw [decide_eq_false (by omega)]; rfl
  refine nx_seq (nx_region (nv v_assign (nx_nil (nx_then (nx_ret (nx_then_ret ?_))))))
  exact nx_ret1 rfl (.tmp rfl) (rs (by (rw [hno]; done)))
  have h0 : decide (l.length ≤ 12) = true := decide_eq_true (by omega)
  refine nx_skip (nx_then (nx_seq (nx_seq (nx_region (nv v_move (nv v_len (nv v_move (nx_nil (nx_then (nx_block ?_))))))))))
  refine nx_loop_v (σ := Nat) [0, 7, 8, 9, 10, 11] (fun k => [(12, .int .i64 (k : Int))]) (fun _ => G) (fun _ => _) (fun k => (l.drop k).all fewNote = l.all fewNote) (fun k => ln - k) 0 (.cons rfl (.cons rfl (.cons rfl (.cons rfl (.cons rfl (.cons rfl (.nil))))))) ⟨rfl, trivial⟩ rfl rfl rfl ?_
  intro k hI K next
  refine nx_seq (nx_region (nv v_lss (nx_nil (nx_then (nx_seq ?_)))))
  refine nx_cond_dec rfl (fun c13 => ?_) (fun c13 => ?_)
  obtain ⟨x, rest, hd, hx⟩ := drop_of_lt (xs := l) (k := k) (by omega)
  obtain ⟨xb, xo, xA1, xn1, xc1, xA2, xn2, xc2, xA3, xn3, xc3, xe, xk, xr, xf0, xf1, xf2, xat⟩ := next_Note hs hd
  cases xe
  have x1 := xat.h1.length
  have x2 := xat.h2.length
  have x3 := xat.h3.length
  have xr3 := Nat.le_trans xat.h3.cap xat.h3.room
  refine nx_skip (nx_then (nx_seq (nx_block (nx_seq (nx_region (nv (v_indexAddr_nat rfl rfl rfl (by omega)) (nv v_load_s ?_)))))))
  refine nx_op rfl (op_alloc rfl (fun b4 => ?_))
  refine st (k := nx_nil (nx_then (nx_seq (nx_seq (nx_region (nv v_fieldAddr (nv v_load1_o (nv v_len (nv v_gtr (nv v_move ?_))))))))))
  refine nx_guard_dec (t := 20) rfl (fun g20 => ?_) (fun g20 => ?_)
  refine nk (k := nk (k := nk (k := nk (k := nv v_pick_t (nv v_move (nk (k := nk (k := nk (k := nk (k := nv v_pick_t (nx_nil ?_)))))))))))
  refine nx_then (nx_cond_t rfl ?_)
  have hno : fewN l = false := by unfold fewN; rw [h0, all_no hI hd (by simp [fewNote]; omega)]; rfl
  refine nx_seq (nx_region (nv v_assign (nx_nil (nx_then (nx_ret (nx_then_ret (nx_in_ret (nx_then_ret (nx_then_ret (nx_in_ret (nx_then_ret ?_)))))))))))
  exact nx_ret1 rfl (.tmp rfl) (rs (by (rw [hno]; done)))
  refine nr v_fieldAddr (nr v_load1_o (nr v_len (nr v_gtr (nv v_pick_f (nv v_move ?_)))))
  refine nx_guard_dec (t := 26) rfl (fun g26 => ?_) (fun g26 => ?_)
  refine nk (k := nk (k := nk (k := nk (k := nv v_pick_t (nx_nil (nx_then (nx_cond_t rfl ?_)))))))
  have hno : fewN l = false := by unfold fewN; rw [h0, all_no hI hd (by simp [fewNote]; omega)]; rfl
  refine nx_seq (nx_region (nv v_assign (nx_nil (nx_then (nx_ret (nx_then_ret (nx_in_ret (nx_then_ret (nx_then_ret (nx_in_ret (nx_then_ret ?_)))))))))))
  exact nx_ret1 rfl (.tmp rfl) (rs (by (rw [hno]; done)))
  refine nr v_fieldAddr (nr v_load1_o (nr v_len (nr v_gtr (nv v_pick_f (nx_nil (nx_then ?_))))))
  refine nx_cond_dec rfl (fun c31 => ?_) (fun c31 => ?_)
  have hno : fewN l = false := by unfold fewN; rw [h0, all_no hI hd (by simp [fewNote]; omega)]; rfl
  refine nx_seq (nx_region (nv v_assign (nx_nil (nx_then (nx_ret (nx_then_ret (nx_in_ret (nx_then_ret (nx_then_ret (nx_in_ret (nx_then_ret ?_)))))))))))
  exact nx_ret1 rfl (.tmp rfl) (rs (by (rw [hno]; done)))
  have hsh : (decide (x.pos.length ≤ 100) && (decide (x.lamps.length ≤ 100) && decide (x.bodies.length ≤ 20))) = true := by simp; omega
  refine nx_skip (nx_then (nx_seq (nx_region (nv v_fieldAddr (nv v_load1_o (nv v_len (nv v_move (nx_nil (nx_then (nx_block ?_))))))))))
  refine nx_loop_v (σ := Nat) [0, 4, 7, 8, 9, 10, 11, 12, 13, 14, 15, 16, 17, 18, 19, 20, 21, 22, 23, 24, 25, 26, 27, 28, 29, 30, 31, 32, 33, 34] (fun k => [(35, .int .i64 (k : Int))]) (fun _ => G) (fun _ => _) (fun k => (x.bodies.drop k).all (fun b => decide (b.trail.length ≤ 200)) = x.bodies.all (fun b => decide (b.trail.length ≤ 200))) (fun k => xn3 - k) 0 (.cons rfl (.cons rfl (.cons rfl (.cons rfl (.cons rfl (.cons rfl (.cons rfl (.cons rfl (.cons rfl (.cons rfl (.cons rfl (.cons rfl (.cons rfl (.cons rfl (.cons rfl (.cons rfl (.cons rfl (.cons rfl (.cons rfl (.cons rfl (.cons rfl (.cons rfl (.cons rfl (.cons rfl (.cons rfl (.cons rfl (.cons rfl (.cons rfl (.cons rfl (.cons rfl (.nil))))))))))))))))))))))))))))))) ⟨rfl, trivial⟩ rfl rfl rfl ?_
  intro j hJ K2 next2
  refine nx_seq (nx_region (nv v_lss (nx_nil (nx_then (nx_seq ?_)))))
  refine nx_cond_dec rfl (fun c36 => ?_) (fun c36 => ?_)
  obtain ⟨y, rest2, hd2, hy⟩ := drop_of_lt (xs := x.bodies) (k := j) (by omega)
  obtain ⟨yb, yo, yA1, yn1, yc1, ye, yk, yr, yf0, yf1, yf2, yf3, yf4, yat⟩ := next_Body xat.h3 hd2
  cases ye
  have y1 := yat.h1.length
  refine nx_skip (nx_then (nx_seq (nx_block (nx_seq (nx_region (nv (v_indexAddr_nat rfl rfl rfl (by omega)) (nv v_load_s ?_)))))))
  refine nx_op rfl (op_alloc rfl (fun b6 => ?_))
  refine st (k := nx_nil (nx_then (nx_seq (nx_region (nv v_fieldAddr (nv v_load1_o (nv v_len (nv v_gtr (nx_nil (nx_then ?_))))))))))
  refine nx_cond_dec rfl (fun c42 => ?_) (fun c42 => ?_)
  have hno : fewN l = false := by unfold fewN; rw [h0, all_no hI hd (by unfold fewNote; rw [all_no hJ hd2 (by simp; omega)]; simp)]; rfl
  refine nx_seq (nx_region (nv v_assign (nx_nil (nx_then (nx_ret (nx_in_ret (nx_then_ret (nx_then_ret (nx_in_ret (nx_in_ret (nx_then_ret ?_)))))))))))
  refine nx_then_ret (nx_in_ret (nx_then_ret ?_))
  exact nx_ret1 rfl (.tmp rfl) (rs (by (rw [hno]; done)))
  refine nx_skip (nx_in _ (nx_then (nx_region (nv v_add (nv v_move (nx_nil (nx_then ?_)))))))
  exact nn (next2 (j + 1) (all_yes hJ hd2 yr (by simp; omega)) (by omega))
  refine nx_exit (nx_then_exit (nx_then_exit (nx_in_eq (nx_in _ (nx_then (nx_region (nv v_add (nv v_move (nx_nil (nx_then ?_))))))))))
  exact nn (next (k + 1) (all_yes hI hd xr (by unfold fewNote; rw [hsh, all_end hJ (by omega)]; rfl)) (by omega))
  refine nx_exit (nx_then_exit (nx_then_exit (nx_in_eq (nx_then (nx_seq (nx_region (nv v_assign (nx_nil (nx_then (nx_ret ?_))))))))))
  exact nx_ret1 rfl (.tmp rfl) (rs (by (unfold fewN; rw [h0, all_end hI (by omega)]; rfl)))
def builtOk (p : Plan) : Bool := rFine p && decide (chartErr p = 0)
def builtC (p : Plan) : Chart := if builtOk p then chartOf p else noChart
set_option maxRecDepth 20000 in
set_option maxHeartbeats 1000000 in
theorem built_ok {G : Gh} {H : List (Nat × Obj)} {W : World} (hp : Hp G H W) {A1 : Option Addr} {n1 c1 : Nat} {A2 : Option Addr} {n2 c2 : Nat} {A3 : Option Addr} {n3 c3 : Nat} {A4 : Option Addr} {n4 c4 : Nat} {p : Plan} (at_ : Plan.At G A1 n1 c1 A2 n2 c2 A3 n3 c3 A4 n4 c4 p) : Calls Tryz.prog 18 ⟨[.agg ⟨[.slice A1 n1 c1, .slice A2 n2 c2, .slice A3 n3 c3, .slice A4 n4 c4, .int .i64 p.top, .int .i64 p.brake, .int .i64 p.margin, .int .i64 p.throw_, .bool p.hard]⟩]⟩ W (RetD G H (fun G' v => ∃ c, (builtOk p = true → c = chartOf p) ∧ IsBuilt c (builtOk p) G' v)) := by
  refine enter Tryz.func18 rfl Tryz.ntmps18 (Nat.le_of_ble_eq_true rfl) hp (nx_seq (nx_region ?_))
  refine nx_op rfl (op_box rfl rfl (fun b1 => ?_))
  refine nx_op rfl (op_alloc rfl (fun b2 => ?_))
  refine nv v_assign (nx_nil (nx_then (nx_seq (nx_seq (nx_region (nv v_load_o ?_))))))
  refine nx_op rfl (op_callD rfl rfl rfl (fun W hp => rFine_ok hp at_) (fun v7 G7 le7 ph7 => ?_))
  subst ph7
  refine nv v_not (nx_nil (nx_then ?_))
  refine nx_cond rfl (fun c8 => ?_) (fun c8 => ?_)
  have hE : builtOk p = false := by unfold builtOk; simp_all
  refine nx_seq (nx_region (nv (v_build rfl rfl rfl) (st (k := nv v_assign (nx_nil (nx_then (nx_ret (nx_then_ret ?_))))))))
  exact nx_ret2 rfl ro (.tmp rfl) (rt (le7) ⟨noChart, (by rw [hE]; intro h; cases h), (by rw [hE]; exact ⟨none, 0, 0, none, 0, 0, none, 0, 0, none, 0, 0, none, 0, 0, rfl, ⟨Sl.nil _ _, Sl.nil _ _, Sl.nil _ _, Sl.nil _ _, Sl.nil _ _⟩⟩)⟩)
  have hf : rFine p = true := by simpa using c8
  refine nx_skip (nx_then (nx_seq (nx_region (nv v_load_o ?_))))
  refine nx_op rfl (op_callD rfl rfl rfl (fun W hp => build_ok hp (at_.le le7)) (fun v12 G12 le12 ph12 => ?_))
  obtain ⟨B1, m1, d1, B2, m2, d2, B3, m3, d3, B4, m4, d4, B5, m5, d5, rfl, bat⟩ := ph12
  have hE : builtOk p = decide (chartErr p = 0) := by unfold builtOk; rw [hf]; rfl
  refine nv v_move (nv (v_extract rfl rfl rfl) (nv (v_extract rfl rfl rfl) ?_))
  refine nx_op rfl (op_alloc rfl (fun b4 => ?_))
  refine st (k := nv v_assign (nx_nil (nx_then (nx_seq (nx_region (nv v_load_o (nv v_move (nv v_eql (st (k := nv v_assign (nx_nil ?_)))))))))))
  refine nx_then (nx_ret ?_)
  exact nx_ret2 rfl ro (.tmp rfl) (rt ((Gh.le.trans le7 le12)) ⟨if chartErr p = 0 then chartOf p else noChart, (by rw [hE]; intro h; rw [if_pos (of_decide_eq_true h)]), (by rw [hE]; exact ⟨_, _, _, _, _, _, _, _, _, _, _, _, _, _, _, rfl, bat⟩)⟩)
end Go.Proofs.YtjckojnlapchoaaGreat
open Go Go.RowKit
namespace Go.Proofs.YtjckojnlapchoaaGreat
open Go.Proofs
theorem noteBad_congr {N : NetD} {stock : List Stock} {first : List Body} {l m : List Note} {i : Nat} (h1 : l[i]? = m[i]?) (h2 : l[i - 1]? = m[i - 1]?) : noteBad N stock first l i = noteBad N stock first m i := by
  have hw : ∀ fs k t, wrongOk N stock first l fs k i t = wrongOk N stock first m fs k i t := by
    intro fs k t; unfold wrongOk; rw [h1, h2]
  unfold noteBad prevBodies
  rw [h1, h2]
  simp only [hw]
theorem kindScan_range {f : Int → Nat → Bool} {m : Nat} : ∀ {n : Nat} {k : Int} {q : Int × Nat}, kindScan f m n k = some q → k ≤ q.1
  | 0, _, _, h => by cases h
  | n + 1, k, q, h => by
    unfold kindScan at h
    split at h
    · cases h; exact Int.le_refl _
    · have := kindScan_range h; omega
theorem noteBad_range {N : NetD} {stock : List Stock} {first : List Body} {l : List Note} {i : Nat} {q : Int × Int} (h : noteBad N stock first l i = some q) : 2 ≤ q.1 := by
  unfold noteBad at h
  split at h
  · obtain ⟨u, hu, rfl⟩ := Option.map_eq_some_iff.1 h
    have := kindScan_range hu
    show 2 ≤ u.1
    omega
  · cases h; exact Int.le_refl _
theorem scan_none {N : NetD} {stock : List Stock} {first : List Body} {l : List Note} : ∀ {n i : Nat}, (∀ j, i ≤ j → j < i + n → noteBad N stock first l j = none) → notesScan N stock first l n i = (0, -1, -1)
  | 0, _, _ => rfl
  | n + 1, i, h => by
    unfold notesScan
    rw [h i (Nat.le_refl _) (by omega)]
    exact scan_none (fun j h1 h2 => h j (by omega) (by omega))
theorem scan_at {N : NetD} {stock : List Stock} {first : List Body} {l : List Note} {t : Nat} {q : Int × Int} (hq : noteBad N stock first l t = some q) : ∀ {n i : Nat}, (∀ j, i ≤ j → j < t → noteBad N stock first l j = none) → i ≤ t → t < i + n → notesScan N stock first l n i = (q.1, (t : Int), q.2)
  | 0, i, _, h1, h2 => by omega
  | n + 1, i, h, h1, h2 => by
    unfold notesScan
    rcases Nat.eq_or_lt_of_le h1 with rfl | h3
    · rw [hq]
    · rw [h i (Nat.le_refl _) h3]
      exact scan_at hq (fun j h4 h5 => h j (by omega) h5) (by omega) (by omega)
theorem scan_cases {N : NetD} {stock : List Stock} {first : List Body} {l : List Note} : ∀ {n i : Nat}, (∀ j, i ≤ j → j < i + n → noteBad N stock first l j = none) ∨ ∃ t q, i ≤ t ∧ t < i + n ∧ (∀ j, i ≤ j → j < t → noteBad N stock first l j = none) ∧ noteBad N stock first l t = some q
  | 0, i => .inl (fun j h1 h2 => by omega)
  | n + 1, i => by
    cases hb : noteBad N stock first l i with
    | some q => exact .inr ⟨i, q, Nat.le_refl _, by omega, (fun j h1 h2 => by omega), hb⟩
    | none =>
      rcases scan_cases (N := N) (stock := stock) (first := first) (l := l) (n := n) (i := i + 1) with h | ⟨t, q, h1, h2, h3, h4⟩
      · left
        intro j h1 h2
        rcases Nat.eq_or_lt_of_le h1 with rfl | h3
        · exact hb
        · exact h j (by omega) (by omega)
      · right
        refine ⟨t, q, by omega, by omega, ?_, h4⟩
        intro j h5 h6
        rcases Nat.eq_or_lt_of_le h5 with rfl | h7
        · exact hb
        · exact h3 j (by omega) h6
structure FrontOk (r x a : Int × Int × Int) (n : Nat) : Prop where
  lo : 0 ≤ r.2.1
  hi : r.2.1 < n
  whole : x = r
  fine : a = (0, -1, -1)
theorem judge_case (c : Chart) (kinds : List Stock) (trains : List Train) (l : List Note) (h : (judge c kinds trains l).1 = 1 ∨ (judge c kinds trains l).1 = 0) : (judge c kinds trains l).2.1 = -1 ∧ (judge c kinds trains l).2.2 = -1 := by
  unfold judge at h ⊢
  split at h
  · rename_i hw
    rw [if_pos hw]; exact ⟨rfl, rfl⟩
  · rename_i hw
    rw [if_neg hw]
    rcases scan_cases (N := netOf c.plan) (stock := stockOf kinds trains) (first := worldBodies c kinds trains) (l := l) (n := l.length) (i := 0) with h1 | ⟨t, q, h1, h2, h3, h4⟩
    · rw [scan_none h1]; exact ⟨rfl, rfl⟩
    · rw [scan_at h4 h3 h1 h2] at h
      have := noteBad_range h4
      dsimp only at h
      omega
theorem judge_front (c : Chart) (kinds : List Stock) (trains : List Train) (l more : List Note) (h : ¬ ((judge c kinds trains l).1 = 1 ∨ (judge c kinds trains l).1 = 0)) : FrontOk (judge c kinds trains l) (judge c kinds trains (l ++ more)) (judge c kinds trains (l.take (judge c kinds trains l).2.1.toNat)) l.length := by
  by_cases hw : worldErr c kinds trains = 0
  · have hJ : ∀ m, judge c kinds trains m = notesScan (netOf c.plan) (stockOf kinds trains) (worldBodies c kinds trains) m m.length 0 := by
      intro m; unfold judge; rw [if_neg (fun k => k hw)]
    rcases scan_cases (N := netOf c.plan) (stock := stockOf kinds trains) (first := worldBodies c kinds trains) (l := l) (n := l.length) (i := 0) with h1 | ⟨t, q, h1, h2, h3, h4⟩
    · rw [hJ l, scan_none h1] at h
      exact absurd (.inr rfl) h
    · have hl : judge c kinds trains l = (q.1, (t : Int), q.2) := by rw [hJ l, scan_at h4 h3 h1 h2]
      have ht : t < l.length := by omega
      rw [hl]
      refine ⟨by show (0 : Int) ≤ (t : Int); omega, by show (t : Int) < _; omega, ?_, ?_⟩
      · have hc : ∀ j, j ≤ t → noteBad (netOf c.plan) (stockOf kinds trains) (worldBodies c kinds trains) (l ++ more) j = noteBad (netOf c.plan) (stockOf kinds trains) (worldBodies c kinds trains) l j := by
          intro j hj
          exact noteBad_congr (List.getElem?_append_left (by omega)) (List.getElem?_append_left (by omega))
        rw [hJ (l ++ more)]
        exact scan_at (by rw [hc t (Nat.le_refl _)]; exact h4) (fun j h5 h6 => by rw [hc j (by omega)]; exact h3 j h5 h6) h1 (by rw [List.length_append]; omega)
      · show judge c kinds trains (l.take ((t : Int)).toNat) = _
        rw [Int.toNat_natCast, hJ (l.take t)]
        apply scan_none
        intro j h5 h6
        rw [List.length_take] at h6
        rw [noteBad_congr (m := l) (by rw [List.getElem?_take]; rw [if_pos (by omega)]) (by rw [List.getElem?_take]; rw [if_pos (by omega)])]
        exact h3 j h5 (by omega)
  · have hl : judge c kinds trains l = (1, -1, -1) := by unfold judge; rw [if_pos hw]
    rw [hl] at h
    exact absurd (.inl rfl) h
theorem fewN_ok2 {l : List Note} (h : fewN l = true) : l.length ≤ 12 ∧ ∀ x, x ∈ l → x.bodies.length ≤ 20 ∧ ∀ b, b ∈ x.bodies → b.trail.length ≤ 200 := by
  unfold fewN at h
  simp only [Bool.and_eq_true, decide_eq_true_eq, List.all_eq_true, fewNote] at h
  exact ⟨h.1, fun x hx => ⟨(h.2 x hx).1.2.2, (h.2 x hx).2⟩⟩
theorem fewN_few {l : List Note} (h : fewN l = true) : ∀ x, x ∈ l → x.Few := fun x hx b hb => by have := ((fewN_ok2 h).2 x hx).2 b hb; omega
theorem fewN_bodies {l : List Note} (h : fewN l = true) : ∀ x, x ∈ l → x.bodies.length ≤ 1000 := fun x hx => by have := ((fewN_ok2 h).2 x hx).1; omega
theorem kA_few : fewN [kA, kA] = true := by decide +kernel
theorem kB_few : fewN [kA, kB] = true := by decide +kernel
set_option maxRecDepth 20000 in
set_option maxHeartbeats 1000000 in
theorem known_ok {G : Gh} {H : List (Nat × Obj)} {W : World} (hp : Hp G H W) : Calls Tryz.prog 7 ⟨[]⟩ W (RetD G H (fun _ v => v = .bool true)) := by
  have hb : builtOk small = true := by unfold builtOk; rw [small_fine, small_chart]; rfl
  refine enter Tryz.func7 rfl Tryz.ntmps7 (Nat.le_of_ble_eq_true rfl) hp (nx_seq (nx_region (nv v_assign (nx_nil (nx_then (nx_seq (nx_region ?_)))))))
  refine nx_op rfl (op_callD rfl rfl rfl (fun W hp => rSmall_ok hp) (fun v14 G14 le14 ph14 => ?_))
  obtain ⟨A1, n1, c1, A2, n2, c2, A3, n3, c3, A4, n4, c4, rfl, pat⟩ := ph14
  refine nx_op rfl (op_callD rfl rfl rfl (fun W hp => built_ok hp pat) (fun v15 G15 le15 ph15 => ?_))
  obtain ⟨c, hc, B1, m1, d1, B2, m2, d2, B3, m3, d3, B4, m4, d4, B5, m5, d5, rfl, cat⟩ := ph15
  have hc2 := hc hb
  subst hc2
  refine nv v_move (nv (v_extract rfl rfl rfl) (nv (v_extract rfl rfl rfl) ?_))
  refine nx_op rfl (op_alloc rfl (fun b1 => ?_))
  refine st (k := nv v_assign (nx_nil (nx_then (nx_seq (nx_seq (nx_region (nv v_move (nv v_not (nx_nil (nx_then ?_))))))))))
  refine nx_cond rfl (fun c19 => ?_) (fun c19 => ?_)
  refine nx_seq (nx_region (nv v_assign (nx_nil (nx_then (nx_ret (nx_then_ret ?_))))))
  exact nx_ret1 rfl (.tmp rfl) (rt ((Gh.le.trans le14 le15)) (by (exfalso; simp_all; done)))
  refine nx_skip (nx_then (nx_seq (nx_region (nv (v_build rfl rfl rfl) ?_))))
  refine nx_op rfl (op_buildSlice rfl rfl rfl rfl rfl (fun b21 => ?_))
  refine nv v_assign (nx_nil (nx_then (nx_seq (nx_region (nv (v_build rfl rfl rfl) (nv (v_build rfl rfl rfl) ?_))))))
  refine nx_op rfl (op_buildSlice rfl rfl rfl rfl rfl (fun b24 => ?_))
  refine nv v_assign (nx_nil (nx_then (nx_seq (nx_region ?_))))
  refine nx_op rfl (op_buildSlice rfl rfl rfl rfl rfl (fun b25 => ?_))
  refine nx_op rfl (op_buildSlice rfl rfl rfl rfl rfl (fun b26 => ?_))
  refine nv (v_build rfl rfl rfl) ?_
  refine nx_op rfl (op_buildSlice rfl rfl rfl rfl rfl (fun b28 => ?_))
  refine nv (v_build rfl rfl rfl) ?_
  refine nx_op rfl (op_buildSlice rfl rfl rfl rfl rfl (fun b30 => ?_))
  refine nv (v_build rfl rfl rfl) ?_
  refine nx_op rfl (op_alloc rfl (fun b5 => ?_))
  refine st (k := nx_nil (nx_then (nx_seq (nx_region (nv v_load_o ?_)))))
  refine nx_op rfl (op_alloc rfl (fun b6 => ?_))
  refine st (k := nx_nil (nx_then (nx_seq (nx_region (nv (v_build rfl rfl rfl) ?_)))))
  refine nx_op rfl (op_buildSlice rfl rfl rfl rfl rfl (fun b34 => ?_))
  refine nv (v_build rfl rfl rfl) ?_
  refine nx_op rfl (op_buildSlice rfl rfl rfl rfl rfl (fun b36 => ?_))
  refine nv v_fieldAddr (st (k := nx_nil (nx_then (nx_seq (nx_region ?_)))))
  refine nx_still (OwnS.row (T := tStock) (l := kKinds) (b := b21) (n := 1) (rows_Stock kKinds) rfl (by decide)) (by repeat (first | exact Pull.here | apply Pull.cons | apply Pull.app)) (fun Ga Aa ca lea hva hk => ?_)
  rw [show kKinds.length = 1 from rfl] at hva hk
  cases hva
  refine nx_still (OwnS.row (T := tTrain) (l := kTrains) (b := b24) (n := 1) (rows_Train kTrains) rfl (by decide)) (by repeat (first | exact Pull.here | apply Pull.cons | apply Pull.app)) (fun Gb Ab cb leb hvb ht => ?_)
  rw [show kTrains.length = 1 from rfl] at hvb ht
  cases hvb
  refine nx_still (OwnS.row (T := tInt) (l := kA.pos) (b := b25) (n := 6) (rows_Int kA.pos) rfl (by decide)) (by repeat (first | exact Pull.here | apply Pull.cons | apply Pull.app)) (fun Gc Ac cc lec hvc hs25 => ?_)
  rw [show kA.pos.length = 6 from rfl] at hvc hs25
  cases hvc
  refine nx_still (OwnS.row (T := tInt) (l := kA.lamps) (b := b26) (n := 5) (rows_Int kA.lamps) rfl (by decide)) (by repeat (first | exact Pull.here | apply Pull.cons | apply Pull.app)) (fun Gd Ad cd led hvd hs26 => ?_)
  rw [show kA.lamps.length = 5 from rfl] at hvd hs26
  cases hvd
  refine nx_still (OwnS.row (T := tPort) (l := [⟨1, 1⟩]) (b := b28) (n := 1) (rows_Port [⟨1, 1⟩]) rfl (by decide)) (by repeat (first | exact Pull.here | apply Pull.cons | apply Pull.app)) (fun Ge Ae ce lee hve hs28 => ?_)
  cases hve
  refine nx_still (OwnS.row (T := tBody) (l := kA.bodies) (b := b30) (n := 1) (Rows.one ⟨_, _, _, rfl, ⟨hs28⟩⟩) rfl (by decide)) (by repeat (first | exact Pull.here | apply Pull.cons | apply Pull.app)) (fun Gf Af cf lef hvf hs30 => ?_)
  rw [show kA.bodies.length = 1 from rfl] at hvf hs30
  cases hvf
  refine nx_still (OwnS.row (T := tPort) (l := [⟨1, 1⟩]) (b := b34) (n := 1) (rows_Port [⟨1, 1⟩]) rfl (by decide)) (by repeat (first | exact Pull.here | apply Pull.cons | apply Pull.app)) (fun Gg Ag cg leg hvg hs34 => ?_)
  cases hvg
  refine nx_still (OwnS.row (T := tBody) (l := kB.bodies) (b := b36) (n := 1) (Rows.one ⟨_, _, _, rfl, ⟨hs34⟩⟩) rfl (by decide)) (by repeat (first | exact Pull.here | apply Pull.cons | apply Pull.app)) (fun Gh8 Ah ch leh hvh hs36 => ?_)
  rw [show kB.bodies.length = 1 from rfl] at hvh hs36
  cases hvh
  have lch := lec.trans (led.trans (lee.trans (lef.trans (leg.trans leh))))
  have lbh := leb.trans (lec.trans (led.trans (lee.trans (lef.trans (leg.trans leh)))))
  have atA : Note.At Gh8 _ _ _ _ _ _ _ _ _ kA := ⟨hs25.le (led.trans (lee.trans (lef.trans (leg.trans leh)))), hs26.le (lee.trans (lef.trans (leg.trans leh))), hs30.le (leg.trans leh)⟩
  have atB : Note.At Gh8 _ _ _ _ _ _ _ _ _ kB := ⟨hs25.le (led.trans (lee.trans (lef.trans (leg.trans leh)))), hs26.le (lee.trans (lef.trans (leg.trans leh))), hs36⟩
  have lcA := lea.trans lbh
  refine nv v_load_o (nv v_move (nv v_move (nv v_load_o (nv v_load_o ?_))))
  refine nx_op rfl (op_buildSlice rfl rfl rfl rfl rfl (fun b44 => ?_))
  refine nx_op rfl (op_callOD (OwnS.row (T := tNote) (l := [kA, kA]) (b := b44) (n := 2) (.cons ⟨_, _, _, _, _, _, _, _, _, rfl, atA⟩ (.cons ⟨_, _, _, _, _, _, _, _, _, rfl, atA⟩ .nil)) rfl (by decide)) (by repeat (first | exact Pull.here | apply Pull.cons | apply Pull.app)) rfl rfl rfl (fun G1 W leo so hp => judge_ok hp (cat.le (lcA.trans leo)) (hk.le (lbh.trans leo)) (ht.le (lch.trans leo)) so (fewN_few kA_few) (fewN_bodies kA_few)) (fun v45 G45 le45 ph45 => ?_))
  rw [known_a] at ph45
  dsimp only at ph45
  subst ph45
  refine nv v_move (nv (v_extract rfl rfl rfl) (nv (v_extract rfl rfl rfl) (nv (v_extract rfl rfl rfl) (nv v_assign (nv v_assign (nv v_assign (nx_nil (nx_then (nx_seq (nx_region (nv v_load_o ?_)))))))))))
  refine nv v_move (nv v_move (nv v_load_o (nv v_load_o ?_)))
  refine nx_op rfl (op_buildSlice rfl rfl rfl rfl rfl (fun b55 => ?_))
  refine nx_op rfl (op_callOD (OwnS.row (T := tNote) (l := [kA, kB]) (b := b55) (n := 2) (.cons ⟨_, _, _, _, _, _, _, _, _, rfl, atA.le le45⟩ (.cons ⟨_, _, _, _, _, _, _, _, _, rfl, atB.le le45⟩ .nil)) rfl (by decide)) (by repeat (first | exact Pull.here | apply Pull.cons | apply Pull.app)) rfl rfl rfl (fun G1 W leo so hp => judge_ok hp (cat.le (lcA.trans (le45.trans leo))) (hk.le (lbh.trans (le45.trans leo))) (ht.le (lch.trans (le45.trans leo))) so (fewN_few kB_few) (fewN_bodies kB_few)) (fun v56 G56 le56 ph56 => ?_))
  rw [known_b] at ph56
  dsimp only at ph56
  subst ph56
  refine nv v_move (nv (v_extract rfl rfl rfl) (nv (v_extract rfl rfl rfl) (nv (v_extract rfl rfl rfl) (nv v_assign (nv v_assign (nv v_assign (nx_nil (nx_then (nx_seq (nx_region (nv v_move ?_)))))))))))
  refine nv v_eql (nv v_move ?_)
  refine nx_guard_dec (t := 62) rfl (fun g62 => ?_) (fun g62 => ?_)
  refine nr v_move (nr v_eql (nv v_pick_t (nv v_move ?_)))
  refine nx_guard_dec (t := 66) rfl (fun g66 => ?_) (fun g66 => ?_)
  refine nr v_move (nr v_eql (nv v_pick_t (nv v_move ?_)))
  refine nx_guard_dec (t := 70) rfl (fun g70 => ?_) (fun g70 => ?_)
  refine nr v_move (nr v_eql (nv v_pick_t (nv v_move ?_)))
  refine nx_guard_dec (t := 74) rfl (fun g74 => ?_) (fun g74 => ?_)
  refine nr v_move (nr v_eql (nv v_pick_t (nv v_move ?_)))
  refine nx_guard_dec (t := 78) rfl (fun g78 => ?_) (fun g78 => ?_)
  refine nr v_move (nr v_eql (nv v_pick_t (nv v_assign (nx_nil (nx_then (nx_ret ?_))))))
  exact nx_ret1 rfl (.tmp rfl) (rt ((Gh.le.trans le14 (Gh.le.trans le15 (Gh.le.trans lcA (Gh.le.trans le45 le56))))) (by rfl))
  refine nk (k := nk (k := nv v_pick_f (nv v_assign (nx_nil (nx_then (nx_ret ?_))))))
  exact nx_ret1 rfl (.tmp rfl) (rt ((Gh.le.trans le14 (Gh.le.trans le15 (Gh.le.trans lcA (Gh.le.trans le45 le56))))) (by (exfalso; simp_all; done)))
  refine nk (k := nk (k := nv v_pick_f (nv v_move (nk (k := nk (k := nv v_pick_f (nv v_assign (nx_nil (nx_then (nx_ret ?_))))))))))
  exact nx_ret1 rfl (.tmp rfl) (rt ((Gh.le.trans le14 (Gh.le.trans le15 (Gh.le.trans lcA (Gh.le.trans le45 le56))))) (by (exfalso; simp_all; done)))
  refine nk (k := nk (k := nv v_pick_f (nv v_move (nk (k := nk (k := nv v_pick_f (nv v_move (nk (k := nk (k := nv v_pick_f (nv v_assign ?_)))))))))))
  refine nx_nil (nx_then (nx_ret ?_))
  exact nx_ret1 rfl (.tmp rfl) (rt ((Gh.le.trans le14 (Gh.le.trans le15 (Gh.le.trans lcA (Gh.le.trans le45 le56))))) (by (exfalso; simp_all; done)))
  refine nk (k := nk (k := nv v_pick_f (nv v_move (nk (k := nk (k := nv v_pick_f (nv v_move (nk (k := nk (k := nv v_pick_f (nv v_move ?_)))))))))))
  refine nk (k := nk (k := nv v_pick_f (nv v_assign (nx_nil (nx_then (nx_ret ?_))))))
  exact nx_ret1 rfl (.tmp rfl) (rt ((Gh.le.trans le14 (Gh.le.trans le15 (Gh.le.trans lcA (Gh.le.trans le45 le56))))) (by (exfalso; simp_all; done)))
  refine nk (k := nk (k := nv v_pick_f (nv v_move (nk (k := nk (k := nv v_pick_f (nv v_move (nk (k := nk (k := nv v_pick_f (nv v_move ?_)))))))))))
  refine nk (k := nk (k := nv v_pick_f (nv v_move (nk (k := nk (k := nv v_pick_f (nv v_assign (nx_nil (nx_then (nx_ret ?_))))))))))
  exact nx_ret1 rfl (.tmp rfl) (rt ((Gh.le.trans le14 (Gh.le.trans le15 (Gh.le.trans lcA (Gh.le.trans le45 le56))))) (by (exfalso; simp_all; done)))
end Go.Proofs.YtjckojnlapchoaaGreat
open Go Go.RowKit
namespace Go.Proofs.YtjckojnlapchoaaGreat
open Go.Proofs
set_option maxRecDepth 20000 in
set_option maxHeartbeats 1000000 in
theorem front_ok {G : Gh} {H : List (Nat × Obj)} {W : World} (hp : Hp G H W) {A1 : Option Addr} {n1 c1 : Nat} {A2 : Option Addr} {n2 c2 : Nat} {A3 : Option Addr} {n3 c3 : Nat} {A4 : Option Addr} {n4 c4 : Nat} {p : Plan} (at_ : Plan.At G A1 n1 c1 A2 n2 c2 A3 n3 c3 A4 n4 c4 p) {K1 : Option Addr} {kn kc : Nat} {kinds : List Stock} (hk : Sl tStock G K1 kn kc kinds) {T1 : Option Addr} {tn tc : Nat} {trains : List Train} (ht : Sl tTrain G T1 tn tc trains) {L1 : Option Addr} {ln lc : Nat} {l : List Note} (hs : Sl tNote G L1 ln lc l) {M1 : Option Addr} {mn mc : Nat} {more : List Note} (hm : Sl tNote G M1 mn mc more) :
    Calls Tryz.prog 5 ⟨[.agg ⟨[.slice A1 n1 c1, .slice A2 n2 c2, .slice A3 n3 c3, .slice A4 n4 c4, .int .i64 p.top, .int .i64 p.brake, .int .i64 p.margin, .int .i64 p.throw_, .bool p.hard]⟩, .slice K1 kn kc, .slice T1 tn tc, .slice L1 ln lc, .slice M1 mn mc]⟩ W (RetD G H (fun _ v => v = .bool true)) := by
  have hl := hs.length
  have hlm := hm.length
  have hr := Nat.le_trans hs.cap hs.room
  refine enter Tryz.func5 rfl Tryz.ntmps5 (Nat.le_of_ble_eq_true rfl) hp (nx_seq (nx_region ?_))
  refine nx_op rfl (op_box rfl rfl (fun b5 => ?_))
  refine nv v_assign (nx_nil (nx_then (nx_seq (nx_seq (nx_region ?_)))))
  refine nx_op rfl (op_callD rfl rfl rfl (fun W hp => known_ok hp) (fun v22 G22 le22 ph22 => ?_))
  subst ph22
  refine nv v_not (nx_nil (nx_then ?_))
  refine nx_cond rfl (fun c23 => ?_) (fun c23 => ?_)
  refine nx_seq (nx_region (nv v_assign (nx_nil (nx_then (nx_ret (nx_then_ret ?_))))))
  exact nx_ret1 rfl (.tmp rfl) (rt (le22) (by (exfalso; simp_all; done)))
  refine nx_skip (nx_then (nx_seq (nx_seq (nx_region (nv v_move (nv v_move ?_))))))
  refine nx_op rfl (op_callS rfl rfl rfl (fun W hp => fewKT_ok hp (hk.le le22) (ht.le le22)) ?_)
  refine nv v_not (nv v_move ?_)
  refine nx_guard (t := 28) rfl (fun g28 => ?_) (fun g28 => ?_)
  refine nk (k := nk (k := nk (k := nv v_pick_t (nv v_move (nk (k := nk (k := nk (k := nv v_pick_t (nx_nil (nx_then (nx_cond_t rfl ?_)))))))))))
  refine nx_seq (nx_region (nv v_assign (nx_nil (nx_then (nx_ret (nx_then_ret ?_))))))
  exact nx_ret1 rfl (.tmp rfl) (rt (le22) (by rfl))
  refine nr v_move ?_
  refine nx_op_run rfl rfl rfl (op_callS rfl rfl rfl (fun W hp => fewN_ok hp (hs.le le22)) ?_)
  refine nr v_not (nv v_pick_f (nv v_move ?_))
  refine nx_guard (t := 33) rfl (fun g33 => ?_) (fun g33 => ?_)
  refine nk (k := nk (k := nk (k := nv v_pick_t (nx_nil (nx_then (nx_cond_t rfl (nx_seq (nx_region (nv v_assign (nx_nil (nx_then ?_)))))))))))
  refine nx_ret (nx_then_ret ?_)
  exact nx_ret1 rfl (.tmp rfl) (rt (le22) (by rfl))
  refine nr v_move ?_
  refine nx_op_run rfl rfl rfl (op_callS rfl rfl rfl (fun W hp => fewN_ok hp (hm.le le22)) ?_)
  refine nr v_not (nv v_pick_f (nx_nil (nx_then ?_)))
  refine nx_cond rfl (fun c37 => ?_) (fun c37 => ?_)
  refine nx_seq (nx_region (nv v_assign (nx_nil (nx_then (nx_ret (nx_then_ret ?_))))))
  exact nx_ret1 rfl (.tmp rfl) (rt (le22) (by rfl))
  have f1 : fewN l = true := by simp_all
  have f2 : fewN more = true := by simp_all
  have n1l := (fewN_ok2 f1).1
  have n2l := (fewN_ok2 f2).1
  refine nx_skip (nx_then (nx_seq (nx_region (nv v_load_o ?_))))
  refine nx_op rfl (op_callD rfl rfl rfl (fun W hp => built_ok hp (at_.le le22)) (fun v40 G40 le40 ph40 => ?_))
  obtain ⟨c, hc, B1, m1, d1, B2, m2, d2, B3, m3, d3, B4, m4, d4, B5, m5, d5, rfl, cat⟩ := ph40
  refine nv v_move (nv (v_extract rfl rfl rfl) (nv (v_extract rfl rfl rfl) ?_))
  refine nx_op rfl (op_alloc rfl (fun b11 => ?_))
  refine st (k := nv v_assign (nx_nil (nx_then (nx_seq (nx_seq (nx_region (nv v_move (nv v_not (nx_nil (nx_then ?_))))))))))
  refine nx_cond rfl (fun c44 => ?_) (fun c44 => ?_)
  refine nx_seq (nx_region (nv v_assign (nx_nil (nx_then (nx_ret (nx_then_ret ?_))))))
  exact nx_ret1 rfl (.tmp rfl) (rt ((Gh.le.trans le22 le40)) (by rfl))
  refine nx_skip (nx_then (nx_seq (nx_region (nv v_load_o (nv v_move (nv v_move (nv v_move ?_)))))))
  refine nx_op rfl (op_callD rfl rfl rfl (fun W hp => judge_ok hp cat (hk.le (le22.trans le40)) (ht.le (le22.trans le40)) (hs.le (le22.trans le40)) (fewN_few f1) (fewN_bodies f1)) (fun v50 G50 le50 ph50 => ?_))
  obtain ⟨r, hr0⟩ : ∃ r, judge c kinds trains l = r := ⟨_, rfl⟩
  rw [hr0] at ph50
  subst ph50
  refine nv v_move (nv (v_extract rfl rfl rfl) (nv (v_extract rfl rfl rfl) (nv (v_extract rfl rfl rfl) (nv v_assign (nv v_assign (nv v_assign (nx_nil (nx_then (nx_seq (nx_seq (nx_region ?_)))))))))))
  refine nv v_move (nv v_eql (nv v_move ?_))
  refine nx_guard_dec (t := 56) rfl (fun g56 => ?_) (fun g56 => ?_)
  refine nk (k := nk (k := nv v_pick_t (nx_nil (nx_then (nx_cond_t rfl ?_)))))
  have hJ := judge_case c kinds trains l (by rw [hr0]; omega)
  rw [hr0] at hJ
  refine nx_seq (nx_region (nv v_move (nv v_eql (nv v_move ?_))))
  refine nx_guard_dec (t := 62) rfl (fun g62 => ?_) (fun g62 => ?_)
  refine nr v_move (nr v_eql (nv v_pick_t (nv v_assign (nx_nil (nx_then (nx_ret (nx_then_ret ?_)))))))
  exact nx_ret1 rfl (.tmp rfl) (rt ((Gh.le.trans le22 (Gh.le.trans le40 le50))) (by (rw [hJ.2]; rfl)))
  refine nk (k := nk (k := nv v_pick_f (nv v_assign (nx_nil (nx_then (nx_ret (nx_then_ret ?_)))))))
  exact nx_ret1 rfl (.tmp rfl) (rt ((Gh.le.trans le22 (Gh.le.trans le40 le50))) (by (exfalso; omega)))
  refine nr v_move (nr v_eql (nv v_pick_f (nx_nil (nx_then ?_))))
  refine nx_cond_dec rfl (fun c59 => ?_) (fun c59 => ?_)
  have hJ := judge_case c kinds trains l (by rw [hr0]; omega)
  rw [hr0] at hJ
  refine nx_seq (nx_region (nv v_move (nv v_eql (nv v_move ?_))))
  refine nx_guard_dec (t := 62) rfl (fun g62 => ?_) (fun g62 => ?_)
  refine nr v_move (nr v_eql (nv v_pick_t (nv v_assign (nx_nil (nx_then (nx_ret (nx_then_ret ?_)))))))
  exact nx_ret1 rfl (.tmp rfl) (rt ((Gh.le.trans le22 (Gh.le.trans le40 le50))) (by (rw [hJ.2]; rfl)))
  refine nk (k := nk (k := nv v_pick_f (nv v_assign (nx_nil (nx_then (nx_ret (nx_then_ret ?_)))))))
  exact nx_ret1 rfl (.tmp rfl) (rt ((Gh.le.trans le22 (Gh.le.trans le40 le50))) (by (exfalso; omega)))
  have hF := judge_front c kinds trains l more (by rw [hr0]; omega)
  rw [hr0] at hF
  have f3 := hF.lo
  have f4 := hF.hi
  refine nx_skip (nx_then (nx_seq (nx_seq (nx_region (nv v_move (nv v_lss (nv v_move ?_)))))))
  refine nx_guard_dec (t := 68) rfl (fun g68 => ?_) (fun g68 => ?_)
  refine nk (k := nk (k := nk (k := nk (k := nv v_pick_t (nx_nil (nx_then (nx_cond_t rfl (nx_seq (nx_region (nv v_assign (nx_nil ?_)))))))))))
  refine nx_then (nx_ret (nx_then_ret ?_))
  exact nx_ret1 rfl (.tmp rfl) (rt ((Gh.le.trans le22 (Gh.le.trans le40 le50))) (by (exfalso; omega)))
  refine nr v_move (nr v_move (nr v_len (nr v_geq (nv v_pick_f (nx_nil (nx_then ?_))))))
  refine nx_cond_dec rfl (fun c73 => ?_) (fun c73 => ?_)
  refine nx_seq (nx_region (nv v_assign (nx_nil (nx_then (nx_ret (nx_then_ret ?_))))))
  exact nx_ret1 rfl (.tmp rfl) (rt ((Gh.le.trans le22 (Gh.le.trans le40 le50))) (by (exfalso; omega)))
  obtain ⟨t, ht0⟩ : ∃ t : Nat, r.2.1 = t := ⟨r.2.1.toNat, by omega⟩
  have htn : r.2.1.toNat = t := by rw [ht0]; rfl
  refine nx_skip (nx_then (nx_seq (dr_begin 16 (.q 0 (.q 1 (.q 2 (.q 4 (.q 6 (.l 3 (.l 5 (.l 7 (.l 8 (.q 9 (.q 10 (.q 11 (.q 12 (.q 13 (.q 14 (.q 15 .done)))))))))))))))) rfl (by kernel_rfl) (dr_q rfl rfl v_load_o ic (dr_q rfl rfl v_move ic (dr_q rfl rfl v_move ic (dr_q rfl rfl v_move ic (dr_q rfl rfl v_move ic (dr_l rfl rfl ?_)))))))))
  refine op_buildSlice0 rfl (fun b78 => ?_)
  refine dr_k (ic.cons _) (dr_l rfl rfl ?_)
  refine op_app (T := tNote) rfl rfl rfl (OwnS.row0 (b := b78)) (N := [(b78, row [] _)]) (by exact Pull.here) (Src.still (hs.le (le22.trans (le40.trans le50)))) (by simp; omega) (by simp [maxLen]; omega) (fun A80 c80 N80 o80 hc80 => ?_)
  refine dr_k (Inc.suf (Gh.le.refl _) (by repeat (first | exact Suf.refl | apply Suf.keep | apply Suf.cons | apply Suf.keepN | apply Suf.app))) ?_
  refine dr_l rfl rfl ?_
  refine op_app (T := tNote) rfl rfl rfl o80 (by repeat (first | exact Pull.here | apply Pull.cons | apply Pull.app)) (Src.still (hm.le (le22.trans (le40.trans le50)))) (by simp; omega) (by simp [maxLen]; omega) (fun A82 c82 N82 o82 hc82 => ?_)
  refine dr_k (Inc.suf (Gh.le.refl _) (by repeat (first | exact Suf.refl | apply Suf.keep | apply Suf.cons | apply Suf.keepN | apply Suf.app))) ?_
  refine dr_l rfl rfl ?_
  refine op_callOD o82 (by repeat (first | exact Pull.here | apply Pull.cons | apply Pull.app)) rfl rfl rfl (fun G1 W leo so hp => judge_ok hp (cat.le (le50.trans leo)) (hk.le (le22.trans (le40.trans (le50.trans leo)))) (ht.le (le22.trans (le40.trans (le50.trans leo)))) so (fun x hx => by rcases List.mem_append.1 hx with h | h; exact fewN_few f1 x (by simpa using h); exact fewN_few f2 x h) (fun x hx => by rcases List.mem_append.1 hx with h | h; exact fewN_bodies f1 x (by simpa using h); exact fewN_bodies f2 x h)) (fun v83 G83 le83 ph83 => ?_)
  rw [List.nil_append, hF.whole] at ph83
  subst ph83
  refine dr_k (Inc.suf le83 (by repeat (first | exact Suf.refl | apply Suf.keep | apply Suf.cons | apply Suf.keepN | apply Suf.app))) ?_
  refine dr_q rfl rfl v_move (Inc.suf le83 (by repeat (first | exact Suf.refl | apply Suf.keep | apply Suf.cons | apply Suf.keepN | apply Suf.app))) ?_
  refine dr_q rfl rfl (v_extract rfl rfl rfl) (Inc.suf le83 (by repeat (first | exact Suf.refl | apply Suf.keep | apply Suf.cons | apply Suf.keepN | apply Suf.app))) ?_
  refine dr_q rfl rfl (v_extract rfl rfl rfl) (Inc.suf le83 (by repeat (first | exact Suf.refl | apply Suf.keep | apply Suf.cons | apply Suf.keepN | apply Suf.app))) ?_
  refine dr_q rfl rfl (v_extract rfl rfl rfl) (Inc.suf le83 (by repeat (first | exact Suf.refl | apply Suf.keep | apply Suf.cons | apply Suf.keepN | apply Suf.app))) ?_
  refine dr_q rfl rfl v_assign (Inc.suf le83 (by repeat (first | exact Suf.refl | apply Suf.keep | apply Suf.cons | apply Suf.keepN | apply Suf.app))) ?_
  refine dr_q rfl rfl v_assign (Inc.suf le83 (by repeat (first | exact Suf.refl | apply Suf.keep | apply Suf.cons | apply Suf.keepN | apply Suf.app))) ?_
  refine dr_q rfl rfl v_assign (Inc.suf le83 (by repeat (first | exact Suf.refl | apply Suf.keep | apply Suf.cons | apply Suf.keepN | apply Suf.app))) ?_
  refine dr_end rfl ?_
  refine nx_nil (nx_np ?_)
  refine nx_then (nx_seq (dr_begin 14 (.q 0 (.q 1 (.q 2 (.q 3 (.q 4 (.q 5 (.l 6 (.q 7 (.q 8 (.q 9 (.q 10 (.q 11 (.q 12 (.q 13 .done)))))))))))))) rfl (by kernel_rfl) (dr_q rfl rfl v_load_o ic (dr_q rfl rfl v_move ic (dr_q rfl rfl v_move ic (dr_q rfl rfl v_move ic (dr_q rfl rfl v_move ic ?_)))))))
  refine dr_q rfl rfl (v_slice_hi (h := t) rfl rfl (by show some (Value.int .i64 r.2.1) = _; rw [ht0]) (by have := hs.cap; omega)) ic ?_
  refine dr_l rfl rfl ?_
  refine op_callD rfl rfl rfl (fun W hp => judge_ok hp (cat.le (le50.trans le83)) (hk.le (le22.trans (le40.trans (le50.trans le83)))) (ht.le (le22.trans (le40.trans (le50.trans le83)))) ((hs.le (le22.trans (le40.trans (le50.trans le83)))).take (by omega)) (fun x hx => fewN_few f1 x (List.mem_of_mem_take hx)) (fun x hx => fewN_bodies f1 x (List.mem_of_mem_take hx))) (fun v94 G94 le94 ph94 => ?_)
  rw [← htn, hF.fine] at ph94
  dsimp only at ph94
  subst ph94
  refine dr_k (ic.le le94) (dr_q rfl rfl v_move (ic.le le94) (dr_q rfl rfl (v_extract rfl rfl rfl) (ic.le le94) (dr_q rfl rfl (v_extract rfl rfl rfl) (ic.le le94) (dr_q rfl rfl (v_extract rfl rfl rfl) (ic.le le94) (dr_q rfl rfl v_assign (ic.le le94) (dr_q rfl rfl v_assign (ic.le le94) (dr_q rfl rfl v_assign (ic.le le94) (dr_end rfl ?_))))))))
  refine nx_nil (nx_np ?_)
  refine nx_then (nx_seq (nx_region (nv v_move (nv v_move (nv v_eql (nv v_move ?_))))))
  refine nx_guard_dec (t := 101) rfl (fun g101 => ?_) (fun g101 => ?_)
  refine nr v_move (nr v_move (nr v_eql (nv v_pick_t (nv v_move ?_))))
  refine nx_guard_dec (t := 106) rfl (fun g106 => ?_) (fun g106 => ?_)
  refine nr v_move (nr v_move (nr v_eql (nv v_pick_t (nv v_move ?_))))
  refine nx_guard_dec (t := 111) rfl (fun g111 => ?_) (fun g111 => ?_)
  refine nr v_move (nr v_eql (nv v_pick_t (nv v_move ?_)))
  refine nx_guard_dec (t := 115) rfl (fun g115 => ?_) (fun g115 => ?_)
  refine nr v_move (nr v_eql (nv v_pick_t (nv v_move ?_)))
  refine nx_guard_dec (t := 119) rfl (fun g119 => ?_) (fun g119 => ?_)
  refine nr v_move (nr v_eql (nv v_pick_t (nv v_assign (nx_nil (nx_then (nx_ret ?_))))))
  exact nx_ret1 rfl (.tmp rfl) (rt ((Gh.le.trans le22 (Gh.le.trans le40 (Gh.le.trans le50 (Gh.le.trans le83 le94))))) (by rfl))
  refine nk (k := nk (k := nv v_pick_f (nv v_assign (nx_nil (nx_then (nx_ret ?_))))))
  exact nx_ret1 rfl (.tmp rfl) (rt ((Gh.le.trans le22 (Gh.le.trans le40 (Gh.le.trans le50 (Gh.le.trans le83 le94))))) (by (exfalso; omega)))
  refine nk (k := nk (k := nv v_pick_f (nv v_move (nk (k := nk (k := nv v_pick_f (nv v_assign (nx_nil (nx_then (nx_ret ?_))))))))))
  exact nx_ret1 rfl (.tmp rfl) (rt ((Gh.le.trans le22 (Gh.le.trans le40 (Gh.le.trans le50 (Gh.le.trans le83 le94))))) (by (exfalso; omega)))
  refine nk (k := nk (k := nv v_pick_f (nv v_move (nk (k := nk (k := nv v_pick_f (nv v_move (nk (k := nk (k := nv v_pick_f (nv v_assign ?_)))))))))))
  refine nx_nil (nx_then (nx_ret ?_))
  exact nx_ret1 rfl (.tmp rfl) (rt ((Gh.le.trans le22 (Gh.le.trans le40 (Gh.le.trans le50 (Gh.le.trans le83 le94))))) (by (exfalso; omega)))
  refine nk (k := nk (k := nk (k := nv v_pick_f (nv v_move (nk (k := nk (k := nv v_pick_f (nv v_move (nk (k := nk (k := nv v_pick_f ?_)))))))))))
  refine nv v_move (nk (k := nk (k := nv v_pick_f (nv v_assign (nx_nil (nx_then (nx_ret ?_)))))))
  exact nx_ret1 rfl (.tmp rfl) (rt ((Gh.le.trans le22 (Gh.le.trans le40 (Gh.le.trans le50 (Gh.le.trans le83 le94))))) (by (exfalso; omega)))
  refine nk (k := nk (k := nk (k := nv v_pick_f (nv v_move (nk (k := nk (k := nk (k := nv v_pick_f (nv v_move (nk (k := nk (k := ?_))))))))))))
  refine nv v_pick_f (nv v_move (nk (k := nk (k := nv v_pick_f (nv v_move (nk (k := nk (k := nv v_pick_f (nv v_assign (nx_nil (nx_then ?_)))))))))))
  refine nx_ret ?_
  exact nx_ret1 rfl (.tmp rfl) (rt ((Gh.le.trans le22 (Gh.le.trans le40 (Gh.le.trans le50 (Gh.le.trans le83 le94))))) (by (exfalso; omega)))
end Go.Proofs.YtjckojnlapchoaaGreat
open Go Go.RowKit
namespace Go.Proofs.YtjckojnlapchoaaGreat
open Go.Proofs Go.ChangeShapes Go.WideShapes Go.ChangeAt
section
variable {H : Type} {enc : TypeId × Value → H} {P : Program} {w : World} {held : Bool}
def Opens (enc : TypeId × Value → H) (P : Program) (w : World) (held : Bool) (t : TypeId) {α : Type} (T : Tell α) : Prop :=
  ∀ fuel cs x, DataW.trod enc P w 0 (fun _ => true) held fuel t cs = some x → ∃ a, T.R (Gh.of w) cs a
theorem opens_int {t : TypeId} (ht : P.underlying t = some (.int .i64)) : Opens enc P w held t tInt := fun fuel cs x h => by
  obtain ⟨n, rfl, _⟩ := DataW.trod_int ht h; exact ⟨n, rfl⟩
theorem opens_bool {t : TypeId} (ht : P.underlying t = some .bool) : Opens enc P w held t tBool := fun fuel cs x h => by
  obtain ⟨n, rfl, _⟩ := DataW.trod_bool ht h; exact ⟨n, rfl⟩
theorem opens_str {t : TypeId} (ht : P.underlying t = some .string) : Opens enc P w held t tStr := fun fuel cs x h => by
  obtain ⟨n, rfl, _⟩ := DataW.trod_string ht h; exact ⟨n, rfl⟩
theorem list_of {α : Type} {Q : Nat → α → Prop} : ∀ n, (∀ i, i < n → ∃ x, Q i x) → ∃ l : List α, l.length = n ∧ ∀ i x, l[i]? = some x → Q i x
  | 0, _ => ⟨[], rfl, fun i x h => by simp at h⟩
  | n + 1, h => by
    obtain ⟨l, hl, hq⟩ := list_of n (fun i hi => h i (by omega))
    obtain ⟨x, hx⟩ := h n (by omega)
    refine ⟨l ++ [x], by simp [hl], fun i y hy => ?_⟩
    rcases Nat.lt_or_ge i n with hi | hi
    · rw [List.getElem?_append_left (by omega)] at hy; exact hq i y hy
    · have hin : i = n := by
        have := (List.getElem?_eq_some_iff.1 hy).1
        simp at this; omega
      subst hin
      rw [List.getElem?_append_right (by omega), hl, Nat.sub_self] at hy
      cases hy; exact hx
theorem of_cell {W : World} {b o : Nat} {v : Value} (h : W.cell? ⟨b, o, none⟩ = some v) : (Gh.of W).cell b o = some v := by
  unfold Gh.cell Gh.of
  unfold World.cell? at h
  dsimp only at h ⊢
  split at h <;> simp_all
theorem opens_slice {t e : TypeId} {α : Type} {T : Tell α} (ht : P.underlying t = some (.slice e)) (hc : P.cellsOf e = T.sz) (hpos : 0 < T.sz) (he : Opens enc P w held e T) : Opens enc P w held t (tSl T) := fun fuel cs x h => by
  rcases DataW.trod_slice ht h with ⟨rfl, _⟩ | ⟨a, len, cap, elems, rest, n, _, rfl, _, _, hl, hm, hlen, hel, hsp, _⟩
  · exact ⟨[], none, 0, 0, rfl, Sl.nil _ _⟩
  · have hrest := hsp rfl
    have each : ∀ i, i < cap → ∃ cs' y, w.cells? 0 (a.add (i * T.sz)) T.sz = some cs' ∧ DataW.trod enc P w 0 (fun _ => true) held n e cs' = some y := by
      intro i hi
      rw [hc] at hel hrest
      by_cases h1 : i < len
      · have h2 := hel i h1
        rw [List.getElem?_eq_getElem (by omega)] at h2
        obtain ⟨cs', h3, h4⟩ := Option.bind_eq_some_iff.1 h2
        exact ⟨cs', _, h3, h4⟩
      · have h2 := hrest.2 (i - len) (by omega)
        rw [show len + (i - len) = i by omega, List.getElem?_eq_getElem (by omega)] at h2
        obtain ⟨cs', h3, h4⟩ := Option.bind_eq_some_iff.1 h2
        exact ⟨cs', _, h3, h4⟩
    have hspot : 0 < cap → a.spot = none := by
      intro h0
      obtain ⟨cs', y, h1, h2⟩ := each 0 h0
      obtain ⟨_, h3, h4⟩ := World.cells?_some h1
      have h5 := h4 0 (by omega)
      rw [List.getElem?_eq_getElem (by omega)] at h5
      have h6 := World.cell?_spot h5
      simpa [Addr.add] using h6
    obtain ⟨l, hll, hq⟩ := list_of (Q := fun i (v : α) => ∃ cs', w.cells? 0 (a.add (i * T.sz)) T.sz = some cs' ∧ T.R (Gh.of w) cs' v) len (fun i hi => by
      obtain ⟨cs', y, h1, h2⟩ := each i (by omega)
      obtain ⟨v, hv⟩ := he _ _ _ h2
      exact ⟨v, cs', h1, hv⟩)
    refine ⟨l, some a, len, cap, rfl, hll, hl, by unfold maxLen at hm; omega, fun h0 => ?_⟩
    have hs := hspot h0
    obtain ⟨b, o, sp⟩ := a
    dsimp only at hs
    subst hs
    refine ⟨b, o, rfl, fun k v hk => ?_⟩
    obtain ⟨cs', h1, h2⟩ := hq k v hk
    obtain ⟨_, h3, h4⟩ := World.cells?_some h1
    refine ⟨cs', fun j u hj => ?_, h2⟩
    have hjl := (List.getElem?_eq_some_iff.1 hj).1
    have h5 := h4 j (by omega)
    rw [hj, Go.WideShapes.add_plain, Go.WideShapes.add_plain] at h5
    exact of_cell h5
theorem field_len {t : TypeId} {fs : Array Field} {fuel : Nat} {cs : List Value} {x : DataW H × List MemPlace} (ht : P.underlying t = some (.struct fs)) (h : DataW.trod enc P w 0 (fun _ => true) held fuel t cs = some x) : cs.length = P.cellsOf t := by
  obtain ⟨_, _, _, _, hl, _⟩ := DataW.trod_struct ht h; exact hl
theorem field_opens {t : TypeId} {fs : Array Field} {fuel : Nat} {cs : List Value} {x : DataW H × List MemPlace} (ht : P.underlying t = some (.struct fs)) (h : DataW.trod enc P w 0 (fun _ => true) held fuel t cs = some x) {i u o : Nat} {f : Field} (hf : fs[i]? = some f) (hu : f.type = u) (hoo : f.offset = o) {α : Type} {T : Tell α} (hc : P.cellsOf u = T.sz) (ho : Opens enc P w held u T) : ∃ a, T.R (Gh.of w) ((cs.drop o).take T.sz) a := by
  subst hu hoo
  obtain ⟨xs, n, _, _, _, hxs, hx⟩ := DataW.trod_struct ht h
  have h1 := hx i f hf
  rw [hc] at h1
  have hi : i < fs.size := (Array.getElem?_eq_some_iff.1 hf).1
  rw [List.getElem?_eq_getElem (by omega)] at h1
  exact ho _ _ _ h1
theorem list2 {cs : List Value} (h : cs.length = 2) : ∃ a b, cs = [a, b] := by
  match cs, h with
  | [a, b], _ => exact ⟨a, b, rfl⟩
theorem list3 {cs : List Value} (h : cs.length = 3) : ∃ a b c, cs = [a, b, c] := by
  match cs, h with
  | [a, b, c], _ => exact ⟨a, b, c, rfl⟩
theorem list4 {cs : List Value} (h : cs.length = 4) : ∃ a b c d, cs = [a, b, c, d] := by
  match cs, h with
  | [a, b, c, d], _ => exact ⟨a, b, c, d, rfl⟩
theorem list5 {cs : List Value} (h : cs.length = 5) : ∃ a b c d e, cs = [a, b, c, d, e] := by
  match cs, h with
  | [a, b, c, d, e], _ => exact ⟨a, b, c, d, e, rfl⟩
theorem list9 {cs : List Value} (h : cs.length = 9) : ∃ a b c d e f g i j, cs = [a, b, c, d, e, f, g, i, j] := by
  match cs, h with
  | [a, b, c, d, e, f, g, i, j], _ => exact ⟨a, b, c, d, e, f, g, i, j, rfl⟩
theorem trodAll_stays (hl : laidOutB P = true) {W W' : World} {sp : Nat → Bool} : ∀ {ts : List TypeId} {vs : List Value} {ds : List (DataW H)} {ps : List MemPlace}, (∀ t ∈ ts, P.readableRec t = true ∧ t < P.types.size) → DataW.TrodAll enc P W 0 (fun _ => true) true ts vs ds ps → (∀ p ∈ ps, W.sameAt W' p) → (∀ p ∈ ps, sp p.block = true) → DataW.TrodAll enc P W' 0 sp true ts vs ds ps
  | [], _, _, _, _, h, _, _ => by
    obtain ⟨rfl, rfl, rfl⟩ := trodAll_nil h; exact trodAll_mk0
  | t :: ts, _, _, _, hk, h, h1, h2 => by
    obtain ⟨v, vs, d, ds, p, q, rfl, rfl, rfl, h3, h4⟩ := trodAll_cons h
    have ht := hk t List.mem_cons_self
    exact trodAll_cons_mk (WideElems.Trod_stays hl ht.1 ht.2 h3 (fun x hx => h1 x (List.mem_append_left _ hx)) (fun x hx => h2 x (List.mem_append_left _ hx)))
      (trodAll_stays hl (fun t ht => hk t (List.mem_cons_of_mem _ ht)) h4 (fun x hx => h1 x (List.mem_append_right _ hx)) (fun x hx => h2 x (List.mem_append_right _ hx)))
theorem kept_post {f : Nat} {fn : Func} {s : ChangeSpec} {W : World} {args : Array Value} {ds gs : List (DataW H)} {before : List MemPlace}
    (hl : laidOutB P = true) (hk : ∀ t ∈ fn.params.toList, P.readableRec t = true ∧ t < P.types.size) (hb : P.underlying 4 = some .bool) (hr : fn.resultTypes = #[4]) (hv : s.vars = [])
    (hres : (s.fn H (ds ++ gs)).results = [.lit (.bool true)]) (hargs : (s.fn H (ds ++ gs)).args = ds) (hvars : (s.fn H (ds ++ gs)).vars = [])
    (hW : DataW.Whole enc P fn.params.toList s.vars false W args.toList ds gs before)
    (walk : Calls P f args W (RetD (Gh.of W) [] (fun _ v => v = .bool true))) :
    Calls P f args W fun e W' => ∃ v, e = .returned v ∧ s.post enc P fn false true false false W args v W' := by
  refine walk.mono fun e W' ⟨v, G', he, hle, hv1, hp⟩ => ?_
  subst hv1
  subst he
  have hbel := Hp.ends hle hp
  have hW' := hW
  obtain ⟨p, q, hA, hV, rfl, _, _⟩ := hW
  rw [hv] at hV
  obtain ⟨rfl, rfl⟩ := trodVars_none hV
  have hlt : ∀ x, x ∈ p → x.block < W.heap.size := fun x hx => hW'.lt x (List.mem_append_left _ hx)
  refine ⟨_, rfl, ds, [], p ++ [], [], p, [], hW', ?_, ?_, ?_, World.keptBut_mono (fun x hx => ⟨hx, .inr (.inl (by simpa using hx))⟩) (hbel.frame _), fun h => by cases h⟩
  · rw [hres, hr]; exact trodAll_mk1 (shut_bool hb _)
  · rw [hargs]
    exact trodAll_stays hl hk hA (fun x hx => hbel.same (hlt x hx)) (fun x hx => by simpa using hlt x hx)
  · rw [hvars, hv]; rfl
end
end Go.Proofs.YtjckojnlapchoaaGreat
open Go Go.RowKit
namespace Go.Proofs.YtjckojnlapchoaaGreat
open Go.Proofs Go.ChangeShapes Go.WideShapes
section
variable {H : Type} {enc : TypeId × Value → H} {w : World} {held : Bool}
theorem oc_0 : Tryz.prog.cellsOf 71 = 2 := by kernel_rfl
theorem oc_1 : Tryz.prog.cellsOf 3 = 1 := by kernel_rfl
theorem opens_Port : Opens enc Tryz.prog w held 71 tPort := fun fuel cs x h => by
  have hl : cs.length = 2 := (field_len Tryz.underlying71 h).trans oc_0
  obtain ⟨a0, e0⟩ := field_opens Tryz.underlying71 h (i := 0) (u := 3) (o := 0) (T := tInt) rfl rfl rfl oc_1 (opens_int Tryz.underlying3)
  obtain ⟨a1, e1⟩ := field_opens Tryz.underlying71 h (i := 1) (u := 3) (o := 1) (T := tInt) rfl rfl rfl oc_1 (opens_int Tryz.underlying3)
  obtain ⟨c0, c1, rfl⟩ := list2 hl
  have e0 : [c0] = [.int .i64 a0] := e0
  cases e0
  have e1 : [c1] = [.int .i64 a1] := e1
  cases e1
  exact ⟨⟨a0, a1⟩, rfl⟩
theorem oc_2 : Tryz.prog.cellsOf 130 = 3 := by kernel_rfl
theorem oc_3 : Tryz.prog.cellsOf 9 = 1 := by kernel_rfl
theorem opens_Elem : Opens enc Tryz.prog w held 130 tElem := fun fuel cs x h => by
  have hl : cs.length = 3 := (field_len Tryz.underlying130 h).trans oc_2
  obtain ⟨a0, e0⟩ := field_opens Tryz.underlying130 h (i := 0) (u := 9) (o := 0) (T := tStr) rfl rfl rfl oc_3 (opens_str Tryz.underlying9)
  obtain ⟨a1, e1⟩ := field_opens Tryz.underlying130 h (i := 1) (u := 3) (o := 1) (T := tInt) rfl rfl rfl oc_1 (opens_int Tryz.underlying3)
  obtain ⟨a2, e2⟩ := field_opens Tryz.underlying130 h (i := 2) (u := 3) (o := 2) (T := tInt) rfl rfl rfl oc_1 (opens_int Tryz.underlying3)
  obtain ⟨c0, c1, c2, rfl⟩ := list3 hl
  have e0 : [c0] = [.string a0] := e0
  cases e0
  have e1 : [c1] = [.int .i64 a1] := e1
  cases e1
  have e2 : [c2] = [.int .i64 a2] := e2
  cases e2
  exact ⟨⟨a0, a1, a2⟩, rfl⟩
theorem oc_4 : Tryz.prog.cellsOf 132 = 4 := by kernel_rfl
theorem opens_Join : Opens enc Tryz.prog w held 132 tJoin := fun fuel cs x h => by
  have hl : cs.length = 4 := (field_len Tryz.underlying132 h).trans oc_4
  obtain ⟨a0, e0⟩ := field_opens Tryz.underlying132 h (i := 0) (u := 71) (o := 0) (T := tPort) rfl rfl rfl oc_0 opens_Port
  obtain ⟨a1, e1⟩ := field_opens Tryz.underlying132 h (i := 1) (u := 71) (o := 2) (T := tPort) rfl rfl rfl oc_0 opens_Port
  obtain ⟨c0, c1, c2, c3, rfl⟩ := list4 hl
  have e0 : [c0, c1] = [.int .i64 a0.elem, .int .i64 a0.fin] := e0
  cases e0
  have e1 : [c2, c3] = [.int .i64 a1.elem, .int .i64 a1.fin] := e1
  cases e1
  exact ⟨⟨a0, a1⟩, rfl⟩
theorem oc_5 : Tryz.prog.cellsOf 135 = 4 := by kernel_rfl
theorem oc_6 : Tryz.prog.cellsOf 4 = 1 := by kernel_rfl
theorem opens_Signal : Opens enc Tryz.prog w held 135 tSignal := fun fuel cs x h => by
  have hl : cs.length = 4 := (field_len Tryz.underlying135 h).trans oc_5
  obtain ⟨a0, e0⟩ := field_opens Tryz.underlying135 h (i := 0) (u := 9) (o := 0) (T := tStr) rfl rfl rfl oc_3 (opens_str Tryz.underlying9)
  obtain ⟨a1, e1⟩ := field_opens Tryz.underlying135 h (i := 1) (u := 71) (o := 1) (T := tPort) rfl rfl rfl oc_0 opens_Port
  obtain ⟨a2, e2⟩ := field_opens Tryz.underlying135 h (i := 2) (u := 4) (o := 3) (T := tBool) rfl rfl rfl oc_6 (opens_bool Tryz.underlying4)
  obtain ⟨c0, c1, c2, c3, rfl⟩ := list4 hl
  have e0 : [c0] = [.string a0] := e0
  cases e0
  have e1 : [c1, c2] = [.int .i64 a1.elem, .int .i64 a1.fin] := e1
  cases e1
  have e2 : [c3] = [.bool a2] := e2
  cases e2
  exact ⟨⟨a0, a1, a2⟩, rfl⟩
theorem opens_Lint : Opens enc Tryz.prog w held 28 (tSl tInt) := opens_slice Tryz.underlying28 oc_1 (by decide) (opens_int Tryz.underlying3)
theorem oc_7 : Tryz.prog.cellsOf 137 = 2 := by kernel_rfl
theorem oc_8 : Tryz.prog.cellsOf 28 = 1 := by kernel_rfl
theorem opens_Line : Opens enc Tryz.prog w held 137 tLine := fun fuel cs x h => by
  have hl : cs.length = 2 := (field_len Tryz.underlying137 h).trans oc_7
  obtain ⟨a0, e0⟩ := field_opens Tryz.underlying137 h (i := 0) (u := 9) (o := 0) (T := tStr) rfl rfl rfl oc_3 (opens_str Tryz.underlying9)
  obtain ⟨a1, e1⟩ := field_opens Tryz.underlying137 h (i := 1) (u := 28) (o := 1) (T := (tSl tInt)) rfl rfl rfl oc_8 opens_Lint
  obtain ⟨c0, c1, rfl⟩ := list2 hl
  have e0 : [c0] = [.string a0] := e0
  cases e0
  obtain ⟨A1, n1, d1, e1, s1⟩ := e1
  have e1 : [c1] = [.slice A1 n1 d1] := e1
  cases e1
  exact ⟨⟨a0, a1⟩, A1, n1, d1, rfl, ⟨s1⟩⟩
theorem opens_LElem : Opens enc Tryz.prog w held 22 (tSl tElem) := opens_slice Tryz.underlying22 oc_2 (by decide) opens_Elem
theorem opens_LJoin : Opens enc Tryz.prog w held 23 (tSl tJoin) := opens_slice Tryz.underlying23 oc_4 (by decide) opens_Join
theorem opens_LSignal : Opens enc Tryz.prog w held 24 (tSl tSignal) := opens_slice Tryz.underlying24 oc_5 (by decide) opens_Signal
theorem opens_LLine : Opens enc Tryz.prog w held 25 (tSl tLine) := opens_slice Tryz.underlying25 oc_7 (by decide) opens_Line
theorem oc_9 : Tryz.prog.cellsOf 27 = 9 := by kernel_rfl
theorem oc_10 : Tryz.prog.cellsOf 22 = 1 := by kernel_rfl
theorem oc_11 : Tryz.prog.cellsOf 23 = 1 := by kernel_rfl
theorem oc_12 : Tryz.prog.cellsOf 24 = 1 := by kernel_rfl
theorem oc_13 : Tryz.prog.cellsOf 25 = 1 := by kernel_rfl
theorem opens_Plan : Opens enc Tryz.prog w held 27 tPlan := fun fuel cs x h => by
  have hl : cs.length = 9 := (field_len Tryz.underlying27 h).trans oc_9
  obtain ⟨a0, e0⟩ := field_opens Tryz.underlying27 h (i := 0) (u := 22) (o := 0) (T := (tSl tElem)) rfl rfl rfl oc_10 opens_LElem
  obtain ⟨a1, e1⟩ := field_opens Tryz.underlying27 h (i := 1) (u := 23) (o := 1) (T := (tSl tJoin)) rfl rfl rfl oc_11 opens_LJoin
  obtain ⟨a2, e2⟩ := field_opens Tryz.underlying27 h (i := 2) (u := 24) (o := 2) (T := (tSl tSignal)) rfl rfl rfl oc_12 opens_LSignal
  obtain ⟨a3, e3⟩ := field_opens Tryz.underlying27 h (i := 3) (u := 25) (o := 3) (T := (tSl tLine)) rfl rfl rfl oc_13 opens_LLine
  obtain ⟨a4, e4⟩ := field_opens Tryz.underlying27 h (i := 4) (u := 3) (o := 4) (T := tInt) rfl rfl rfl oc_1 (opens_int Tryz.underlying3)
  obtain ⟨a5, e5⟩ := field_opens Tryz.underlying27 h (i := 5) (u := 3) (o := 5) (T := tInt) rfl rfl rfl oc_1 (opens_int Tryz.underlying3)
  obtain ⟨a6, e6⟩ := field_opens Tryz.underlying27 h (i := 6) (u := 3) (o := 6) (T := tInt) rfl rfl rfl oc_1 (opens_int Tryz.underlying3)
  obtain ⟨a7, e7⟩ := field_opens Tryz.underlying27 h (i := 7) (u := 3) (o := 7) (T := tInt) rfl rfl rfl oc_1 (opens_int Tryz.underlying3)
  obtain ⟨a8, e8⟩ := field_opens Tryz.underlying27 h (i := 8) (u := 4) (o := 8) (T := tBool) rfl rfl rfl oc_6 (opens_bool Tryz.underlying4)
  obtain ⟨c0, c1, c2, c3, c4, c5, c6, c7, c8, rfl⟩ := list9 hl
  obtain ⟨A0, n0, d0, e0, s0⟩ := e0
  have e0 : [c0] = [.slice A0 n0 d0] := e0
  cases e0
  obtain ⟨A1, n1, d1, e1, s1⟩ := e1
  have e1 : [c1] = [.slice A1 n1 d1] := e1
  cases e1
  obtain ⟨A2, n2, d2, e2, s2⟩ := e2
  have e2 : [c2] = [.slice A2 n2 d2] := e2
  cases e2
  obtain ⟨A3, n3, d3, e3, s3⟩ := e3
  have e3 : [c3] = [.slice A3 n3 d3] := e3
  cases e3
  have e4 : [c4] = [.int .i64 a4] := e4
  cases e4
  have e5 : [c5] = [.int .i64 a5] := e5
  cases e5
  have e6 : [c6] = [.int .i64 a6] := e6
  cases e6
  have e7 : [c7] = [.int .i64 a7] := e7
  cases e7
  have e8 : [c8] = [.bool a8] := e8
  cases e8
  exact ⟨⟨a0, a1, a2, a3, a4, a5, a6, a7, a8⟩, A0, n0, d0, A1, n1, d1, A2, n2, d2, A3, n3, d3, rfl, ⟨s0, s1, s2, s3⟩⟩
theorem oc_14 : Tryz.prog.cellsOf 30 = 5 := by kernel_rfl
theorem opens_Stock : Opens enc Tryz.prog w held 30 tStock := fun fuel cs x h => by
  have hl : cs.length = 5 := (field_len Tryz.underlying30 h).trans oc_14
  obtain ⟨a0, e0⟩ := field_opens Tryz.underlying30 h (i := 0) (u := 9) (o := 0) (T := tStr) rfl rfl rfl oc_3 (opens_str Tryz.underlying9)
  obtain ⟨a1, e1⟩ := field_opens Tryz.underlying30 h (i := 1) (u := 3) (o := 1) (T := tInt) rfl rfl rfl oc_1 (opens_int Tryz.underlying3)
  obtain ⟨a2, e2⟩ := field_opens Tryz.underlying30 h (i := 2) (u := 3) (o := 2) (T := tInt) rfl rfl rfl oc_1 (opens_int Tryz.underlying3)
  obtain ⟨a3, e3⟩ := field_opens Tryz.underlying30 h (i := 3) (u := 3) (o := 3) (T := tInt) rfl rfl rfl oc_1 (opens_int Tryz.underlying3)
  obtain ⟨a4, e4⟩ := field_opens Tryz.underlying30 h (i := 4) (u := 3) (o := 4) (T := tInt) rfl rfl rfl oc_1 (opens_int Tryz.underlying3)
  obtain ⟨c0, c1, c2, c3, c4, rfl⟩ := list5 hl
  have e0 : [c0] = [.string a0] := e0
  cases e0
  have e1 : [c1] = [.int .i64 a1] := e1
  cases e1
  have e2 : [c2] = [.int .i64 a2] := e2
  cases e2
  have e3 : [c3] = [.int .i64 a3] := e3
  cases e3
  have e4 : [c4] = [.int .i64 a4] := e4
  cases e4
  exact ⟨⟨a0, a1, a2, a3, a4⟩, rfl⟩
theorem oc_15 : Tryz.prog.cellsOf 73 = 5 := by kernel_rfl
theorem opens_Train : Opens enc Tryz.prog w held 73 tTrain := fun fuel cs x h => by
  have hl : cs.length = 5 := (field_len Tryz.underlying73 h).trans oc_15
  obtain ⟨a0, e0⟩ := field_opens Tryz.underlying73 h (i := 0) (u := 9) (o := 0) (T := tStr) rfl rfl rfl oc_3 (opens_str Tryz.underlying9)
  obtain ⟨a1, e1⟩ := field_opens Tryz.underlying73 h (i := 1) (u := 3) (o := 1) (T := tInt) rfl rfl rfl oc_1 (opens_int Tryz.underlying3)
  obtain ⟨a2, e2⟩ := field_opens Tryz.underlying73 h (i := 2) (u := 71) (o := 2) (T := tPort) rfl rfl rfl oc_0 opens_Port
  obtain ⟨a3, e3⟩ := field_opens Tryz.underlying73 h (i := 3) (u := 3) (o := 4) (T := tInt) rfl rfl rfl oc_1 (opens_int Tryz.underlying3)
  obtain ⟨c0, c1, c2, c3, c4, rfl⟩ := list5 hl
  have e0 : [c0] = [.string a0] := e0
  cases e0
  have e1 : [c1] = [.int .i64 a1] := e1
  cases e1
  have e2 : [c2, c3] = [.int .i64 a2.elem, .int .i64 a2.fin] := e2
  cases e2
  have e3 : [c4] = [.int .i64 a3] := e3
  cases e3
  exact ⟨⟨a0, a1, a2, a3⟩, rfl⟩
theorem opens_LPort : Opens enc Tryz.prog w held 31 (tSl tPort) := opens_slice Tryz.underlying31 oc_0 (by decide) opens_Port
theorem oc_16 : Tryz.prog.cellsOf 33 = 5 := by kernel_rfl
theorem oc_17 : Tryz.prog.cellsOf 31 = 1 := by kernel_rfl
theorem opens_Body : Opens enc Tryz.prog w held 33 tBody := fun fuel cs x h => by
  have hl : cs.length = 5 := (field_len Tryz.underlying33 h).trans oc_16
  obtain ⟨a0, e0⟩ := field_opens Tryz.underlying33 h (i := 0) (u := 3) (o := 0) (T := tInt) rfl rfl rfl oc_1 (opens_int Tryz.underlying3)
  obtain ⟨a1, e1⟩ := field_opens Tryz.underlying33 h (i := 1) (u := 31) (o := 1) (T := (tSl tPort)) rfl rfl rfl oc_17 opens_LPort
  obtain ⟨a2, e2⟩ := field_opens Tryz.underlying33 h (i := 2) (u := 3) (o := 2) (T := tInt) rfl rfl rfl oc_1 (opens_int Tryz.underlying3)
  obtain ⟨a3, e3⟩ := field_opens Tryz.underlying33 h (i := 3) (u := 3) (o := 3) (T := tInt) rfl rfl rfl oc_1 (opens_int Tryz.underlying3)
  obtain ⟨a4, e4⟩ := field_opens Tryz.underlying33 h (i := 4) (u := 3) (o := 4) (T := tInt) rfl rfl rfl oc_1 (opens_int Tryz.underlying3)
  obtain ⟨c0, c1, c2, c3, c4, rfl⟩ := list5 hl
  have e0 : [c0] = [.int .i64 a0] := e0
  cases e0
  obtain ⟨A1, n1, d1, e1, s1⟩ := e1
  have e1 : [c1] = [.slice A1 n1 d1] := e1
  cases e1
  have e2 : [c2] = [.int .i64 a2] := e2
  cases e2
  have e3 : [c3] = [.int .i64 a3] := e3
  cases e3
  have e4 : [c4] = [.int .i64 a4] := e4
  cases e4
  exact ⟨⟨a0, a1, a2, a3, a4⟩, A1, n1, d1, rfl, ⟨s1⟩⟩
theorem opens_LBody : Opens enc Tryz.prog w held 74 (tSl tBody) := opens_slice Tryz.underlying74 oc_16 (by decide) opens_Body
theorem oc_18 : Tryz.prog.cellsOf 76 = 3 := by kernel_rfl
theorem oc_19 : Tryz.prog.cellsOf 74 = 1 := by kernel_rfl
theorem opens_Note : Opens enc Tryz.prog w held 76 tNote := fun fuel cs x h => by
  have hl : cs.length = 3 := (field_len Tryz.underlying76 h).trans oc_18
  obtain ⟨a0, e0⟩ := field_opens Tryz.underlying76 h (i := 0) (u := 28) (o := 0) (T := (tSl tInt)) rfl rfl rfl oc_8 opens_Lint
  obtain ⟨a1, e1⟩ := field_opens Tryz.underlying76 h (i := 1) (u := 28) (o := 1) (T := (tSl tInt)) rfl rfl rfl oc_8 opens_Lint
  obtain ⟨a2, e2⟩ := field_opens Tryz.underlying76 h (i := 2) (u := 74) (o := 2) (T := (tSl tBody)) rfl rfl rfl oc_19 opens_LBody
  obtain ⟨c0, c1, c2, rfl⟩ := list3 hl
  obtain ⟨A0, n0, d0, e0, s0⟩ := e0
  have e0 : [c0] = [.slice A0 n0 d0] := e0
  cases e0
  obtain ⟨A1, n1, d1, e1, s1⟩ := e1
  have e1 : [c1] = [.slice A1 n1 d1] := e1
  cases e1
  obtain ⟨A2, n2, d2, e2, s2⟩ := e2
  have e2 : [c2] = [.slice A2 n2 d2] := e2
  cases e2
  exact ⟨⟨a0, a1, a2⟩, A0, n0, d0, A1, n1, d1, A2, n2, d2, rfl, ⟨s0, s1, s2⟩⟩
theorem opens_LStock : Opens enc Tryz.prog w held 46 (tSl tStock) := opens_slice Tryz.underlying46 oc_14 (by decide) opens_Stock
theorem opens_LTrain : Opens enc Tryz.prog w held 47 (tSl tTrain) := opens_slice Tryz.underlying47 oc_15 (by decide) opens_Train
theorem opens_LNote : Opens enc Tryz.prog w held 48 (tSl tNote) := opens_slice Tryz.underlying48 oc_18 (by decide) opens_Note
end
end Go.Proofs.YtjckojnlapchoaaGreat
