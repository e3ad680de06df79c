/- Part 8 of a proof of a law over the program: Ref1, Ref2, Ref3, Ref4, Ref5. Conditions: none beyond what each statement says. -/
import Derived.Test.YtjckojnlapchoaaGreatQ04
import Derived.Test.YtjckojnlapchoaaGreatQ07
import Derived.Test.YtjckojnlapchoaaGreatQ01
set_option linter.unusedVariables false
set_option linter.unusedSimpArgs false
open Go Go.RowKit
namespace Go.Proofs.YtjckojnlapchoaaGreat
open Go.Proofs
set_option maxRecDepth 20000 in
set_option maxHeartbeats 1000000 in
theorem rEnds_ok {G : Gh} {H : List (Nat × Obj)} {W : World} (hp : Hp G H W) (k : Int) : Calls Tryz.prog 76 ⟨[.int .i64 k]⟩ W (RetS G H (.int .i64 (ends k))) := by
  refine enter Tryz.func76 rfl Tryz.ntmps76 (Nat.le_of_ble_eq_true rfl) hp (nx_seq (nx_region (nv v_assign (nx_nil (nx_then (nx_seq (nx_seq (nx_region (nv v_move (nx_nil (nx_then ?_)))))))))))
  refine nx_block (nx_seq (nx_region (nv v_eql (nv v_assign (nx_nil (nx_then ?_))))))
  refine nx_cond_dec rfl (fun c4 => ?_) (fun c4 => ?_)
  refine nx_seq (nx_region (nv v_assign (nx_nil (nx_then (nx_ret (nx_in_ret (nx_then_ret ?_)))))))
  exact nx_ret1 rfl (.tmp rfl) (rs (by simp [ends, *]))
  refine nx_seq (nx_region (nv v_eql (nv v_assign (nx_nil (nx_then ?_)))))
  refine nx_cond_dec rfl (fun c6 => ?_) (fun c6 => ?_)
  refine nx_seq (nx_region (nv v_assign (nx_nil (nx_then (nx_ret (nx_in_ret (nx_then_ret ?_)))))))
  exact nx_ret1 rfl (.tmp rfl) (rs (by simp [ends, *]))
  refine nx_seq (nx_region (nv v_eql (nv v_assign (nx_nil (nx_then ?_)))))
  refine nx_cond_dec rfl (fun c8 => ?_) (fun c8 => ?_)
  refine nx_seq (nx_region (nv v_assign (nx_nil (nx_then (nx_ret (nx_in_ret (nx_then_ret ?_)))))))
  exact nx_ret1 rfl (.tmp rfl) (rs (by simp [ends, *]))
  refine nx_seq (nx_region (nv v_eql (nv v_assign (nx_nil (nx_then ?_)))))
  refine nx_cond_dec rfl (fun c10 => ?_) (fun c10 => ?_)
  refine nx_seq (nx_region (nv v_assign (nx_nil (nx_then (nx_ret (nx_in_ret (nx_then_ret ?_)))))))
  exact nx_ret1 rfl (.tmp rfl) (rs (by simp [ends, *]))
  refine nx_skip (nx_in _ (nx_then (nx_seq (nx_region (nv v_assign (nx_nil (nx_then (nx_ret ?_))))))))
  exact nx_ret1 rfl (.tmp rfl) (rs (by simp [ends, *]))
set_option maxRecDepth 20000 in
set_option maxHeartbeats 1000000 in
theorem rWithin_ok {G : Gh} {H : List (Nat × Obj)} {W : World} (hp : Hp G H W) (n lo hi : Int) : Calls Tryz.prog 119 ⟨[.int .i64 n, .int .i64 lo, .int .i64 hi]⟩ W (RetS G H (.bool (decide (lo ≤ n) && decide (n ≤ hi)))) := by
  refine enter Tryz.func119 rfl Tryz.ntmps119 (Nat.le_of_ble_eq_true rfl) hp (nx_seq (nx_region (nv v_assign (nx_nil (nx_then (nx_seq (nx_region (nv v_move (nv v_move (nv v_geq (nv v_move ?_)))))))))))
  refine nx_guard_dec (t := 10) rfl (fun g10 => ?_) (fun g10 => ?_)
  refine nr v_move (nr v_move (nr v_leq (nv v_pick_t (nv v_assign (nx_nil (nx_then (nx_ret ?_)))))))
  exact nx_ret1 rfl (.tmp rfl) (rs (by simp [*]))
  refine nk (k := nk (k := nk (k := nv v_pick_f (nv v_assign (nx_nil (nx_then (nx_ret ?_)))))))
  exact nx_ret1 rfl (.tmp rfl) (rs (by simp [*]))
set_option maxRecDepth 20000 in
set_option maxHeartbeats 1000000 in
theorem rStop_ok {G : Gh} {H : List (Nat × Obj)} {W : World} (hp : Hp G H W) (v b : Int) : Calls Tryz.prog 122 ⟨[.int .i64 v, .int .i64 b]⟩ W (RetS G H (.int .i64 (stop v b))) := by
  refine enter Tryz.func122 rfl Tryz.ntmps122 (Nat.le_of_ble_eq_true rfl) hp (nx_seq (nx_region (nv v_assign (nx_nil (nx_then (nx_seq (nx_seq (nx_region (nv v_move (nv v_lss (nv v_move ?_)))))))))))
  refine nx_guard_dec (t := 8) rfl (fun g8 => ?_) (fun g8 => ?_)
  refine nk (k := nk (k := nv v_pick_t (nv v_move (nk (k := nk (k := nv v_pick_t (nv v_move (nk (k := nk (k := nv v_pick_t (nx_nil ?_)))))))))))
  refine nx_then (nx_cond_t rfl (nx_seq (nx_region (nv v_assign (nx_nil (nx_then (nx_ret (nx_then_ret ?_))))))))
  exact nx_ret1 rfl (.tmp rfl) (rs (by unfold stop; rw [if_pos (by omega)]))
  refine nr v_move (nr v_gtr (nv v_pick_f (nv v_move ?_)))
  refine nx_guard_dec (t := 12) rfl (fun g12 => ?_) (fun g12 => ?_)
  refine nk (k := nk (k := nv v_pick_t (nv v_move (nk (k := nk (k := nv v_pick_t (nx_nil (nx_then (nx_cond_t rfl (nx_seq (nx_region ?_)))))))))))
  refine nv v_assign (nx_nil (nx_then (nx_ret (nx_then_ret ?_))))
  exact nx_ret1 rfl (.tmp rfl) (rs (by unfold stop; rw [if_pos (by omega)]))
  refine nr v_move (nr v_lss (nv v_pick_f (nv v_move ?_)))
  refine nx_guard_dec (t := 16) rfl (fun g16 => ?_) (fun g16 => ?_)
  refine nk (k := nk (k := nv v_pick_t (nx_nil (nx_then (nx_cond_t rfl (nx_seq (nx_region (nv v_assign (nx_nil (nx_then (nx_ret ?_)))))))))))
  refine nx_then_ret ?_
  exact nx_ret1 rfl (.tmp rfl) (rs (by unfold stop; rw [if_pos (by omega)]))
  refine nr v_move (nr v_gtr (nv v_pick_f (nx_nil (nx_then ?_))))
  refine nx_cond_dec rfl (fun c19 => ?_) (fun c19 => ?_)
  refine nx_seq (nx_region (nv v_assign (nx_nil (nx_then (nx_ret (nx_then_ret ?_))))))
  exact nx_ret1 rfl (.tmp rfl) (rs (by unfold stop; rw [if_pos (by omega)]))
  have hs : stop v b = stopF 60 (v - b) b 0 := by unfold stop; rw [if_neg (by omega)]
  refine nx_skip (nx_then (nx_seq (nx_region (nv v_assign (nx_nil (nx_then (nx_seq (nx_seq (nx_region (nv v_move (nv v_move ?_)))))))))))
  refine nv v_sub (nv v_assign (nx_nil (nx_then (nx_block ?_))))
  refine nx_loop_v (σ := Nat × Int × Int) [1, 4, 6, 7, 8, 9, 10, 11, 12, 13, 14, 15, 16, 17, 18, 19, 20, 21, 22] (fun s => [(5, .int .i64 s.2.2), (0, .int .i64 s.2.1)]) (fun _ => G) (fun _ => _) (fun s => stopF s.1 s.2.1 b s.2.2 = stop v b ∧ s.2.1 ≤ s.1 ∧ s.2.1 < 60 ∧ -10 ≤ s.2.1 ∧ 0 ≤ s.2.2 ∧ s.2.2 ≤ 60 * (60 - s.1)) (fun s => s.1) (60, v - b, 0) (.cons rfl (.cons rfl (.cons rfl (.cons rfl (.cons rfl (.cons rfl (.cons rfl (.cons rfl (.cons rfl (.cons rfl (.cons rfl (.cons rfl (.cons rfl (.cons rfl (.cons rfl (.cons rfl (.cons rfl (.cons rfl (.cons rfl (.nil)))))))))))))))))))) ⟨rfl, rfl, trivial⟩ ⟨hs.symm, by simp; omega⟩ rfl rfl ?_
  rintro ⟨k, u, m⟩ ⟨hI, h1, h2, h3, h4, h5⟩ K next
  dsimp only at hI h1 h2 h3 h4 h5 ⊢
  refine nx_seq (nx_seq (nx_region (nv v_move (nv v_gtr (nx_nil (nx_then ?_))))))
  refine nx_cond_dec rfl (fun c24 => ?_) (fun c24 => ?_)
  obtain ⟨k, rfl⟩ : ∃ j, k = j + 1 := ⟨k - 1, by omega⟩
  refine nx_skip (nx_then (nx_seq (nx_block (nx_region (nv v_move (nv v_move (nv v_add (nv v_assign (nx_nil (nx_in _ (nx_then ?_)))))))))))
  refine nx_region (nv v_move (nv v_move (nv v_sub (nv v_assign (nx_nil (nx_then ?_))))))
  exact nn (next (k, u - b, m + u) ⟨(by rw [← hI]; simp [stopF, c24]), (by simp at *; omega)⟩ (by simp))
  refine nx_exit (nx_then_exit (nx_then_exit (nx_in_eq (nx_then (nx_seq (nx_region (nv v_move (nv v_assign (nx_nil (nx_then (nx_ret ?_)))))))))))
  exact nx_ret1 rfl (.tmp rfl) (rs ((by rw [← hI]; cases k <;> simp [stopF, c24])))
set_option maxRecDepth 20000 in
set_option maxHeartbeats 1000000 in
theorem rKind_ok {G : Gh} {H : List (Nat × Obj)} {W : World} (hp : Hp G H W) {A1 : Option Addr} {n1 c1 : Nat} {A2 : Option Addr} {n2 c2 : Nat} {A3 : Option Addr} {n3 c3 : Nat} {A4 : Option Addr} {n4 c4 : Nat} {p : Plan} (at_ : Plan.At G A1 n1 c1 A2 n2 c2 A3 n3 c3 A4 n4 c4 p) (i : Int) : Calls Tryz.prog 75 ⟨[.agg ⟨[.slice A1 n1 c1, .slice A2 n2 c2, .slice A3 n3 c3, .slice A4 n4 c4, .int .i64 p.top, .int .i64 p.brake, .int .i64 p.margin, .int .i64 p.throw_, .bool p.hard]⟩, .int .i64 i]⟩ W (RetS G H (.int .i64 (p.kind i))) := by
  have l1 := at_.h1.length
  have l2 := at_.h2.length
  have l3 := at_.h3.length
  have l4 := at_.h4.length
  have r1 := Nat.le_trans at_.h1.cap at_.h1.room
  have r2 := Nat.le_trans at_.h2.cap at_.h2.room
  have r3 := Nat.le_trans at_.h3.cap at_.h3.room
  have r4 := Nat.le_trans at_.h4.cap at_.h4.room
  refine enter Tryz.func75 rfl Tryz.ntmps75 (Nat.le_of_ble_eq_true rfl) hp (nx_seq (nx_region ?_))
  refine nx_op rfl (op_box rfl rfl (fun b2 => ?_))
  refine nv v_assign (nx_nil (nx_then (nx_seq (nx_seq (nx_region (nv v_move (nv v_lss (nv v_move ?_))))))))
  refine nx_guard_dec (t := 7) rfl (fun g7 => ?_) (fun g7 => ?_)
  refine nk (k := nk (k := nk (k := nk (k := nk (k := nv v_pick_t (nx_nil (nx_then (nx_cond_t rfl ?_))))))))
  have hno : p.kind i = 0 := by
    unfold Plan.kind Plan.elem
    by_cases h : i < 0
    · rw [if_pos h]; rfl
    · rw [if_neg h, List.getElem?_eq_none (by omega)]; rfl
  refine nx_seq (nx_region (nv v_assign (nx_nil (nx_then (nx_ret (nx_then_ret ?_))))))
  exact nx_ret1 rfl (.tmp rfl) (rs (by (rw [hno]; done)))
  refine nr v_move (nr v_fieldAddr (nr v_load1_o (nr v_len (nr v_geq (nv v_pick_f (nx_nil (nx_then ?_)))))))
  refine nx_cond_dec rfl (fun c13 => ?_) (fun c13 => ?_)
  have hno : p.kind i = 0 := by
    unfold Plan.kind Plan.elem
    by_cases h : i < 0
    · rw [if_pos h]; rfl
    · rw [if_neg h, List.getElem?_eq_none (by omega)]; rfl
  refine nx_seq (nx_region (nv v_assign (nx_nil (nx_then (nx_ret (nx_then_ret ?_))))))
  exact nx_ret1 rfl (.tmp rfl) (rs (by (rw [hno]; done)))
  obtain ⟨zq, zhq⟩ : ∃ q : Nat, i = q := ⟨(i).toNat, by omega⟩
  obtain ⟨z, zh⟩ : ∃ x, p.elems[zq]? = some x := ⟨_, List.getElem?_eq_getElem (by omega)⟩
  obtain ⟨zb, zo, ze, zk, zf0, zf1, zf2⟩ := get_Elem at_.h1 zh
  cases ze
  have zkind : p.kind (i) = z.kind := by rw [zhq]; exact Plan.kind_of zh
  have zlen : p.length (i) = z.length := by rw [zhq]; exact Plan.length_of zh
  refine nx_skip (nx_then (nx_seq (nx_region (nv v_fieldAddr (nv v_load1_o (nv v_move ?_))))))
  refine nv (v_indexAddr_nat (k := zq) rfl rfl (by rw [← zhq]; rfl) (by omega)) ?_
  refine nv v_fieldAddr (nv v_load1_s (nv v_assign (nx_nil (nx_then (nx_ret ?_)))))
  exact nx_ret1 rfl (.tmp rfl) (rs (by (rw [zkind])))
set_option maxRecDepth 20000 in
set_option maxHeartbeats 1000000 in
theorem rLength_ok {G : Gh} {H : List (Nat × Obj)} {W : World} (hp : Hp G H W) {A1 : Option Addr} {n1 c1 : Nat} {A2 : Option Addr} {n2 c2 : Nat} {A3 : Option Addr} {n3 c3 : Nat} {A4 : Option Addr} {n4 c4 : Nat} {p : Plan} (at_ : Plan.At G A1 n1 c1 A2 n2 c2 A3 n3 c3 A4 n4 c4 p) (i : Int) : Calls Tryz.prog 32 ⟨[.agg ⟨[.slice A1 n1 c1, .slice A2 n2 c2, .slice A3 n3 c3, .slice A4 n4 c4, .int .i64 p.top, .int .i64 p.brake, .int .i64 p.margin, .int .i64 p.throw_, .bool p.hard]⟩, .int .i64 i]⟩ W (RetS G H (.int .i64 (p.length i))) := by
  have l1 := at_.h1.length
  have l2 := at_.h2.length
  have l3 := at_.h3.length
  have l4 := at_.h4.length
  have r1 := Nat.le_trans at_.h1.cap at_.h1.room
  have r2 := Nat.le_trans at_.h2.cap at_.h2.room
  have r3 := Nat.le_trans at_.h3.cap at_.h3.room
  have r4 := Nat.le_trans at_.h4.cap at_.h4.room
  refine enter Tryz.func32 rfl Tryz.ntmps32 (Nat.le_of_ble_eq_true rfl) hp (nx_seq (nx_region ?_))
  refine nx_op rfl (op_box rfl rfl (fun b2 => ?_))
  refine nv v_assign (nx_nil (nx_then (nx_seq (nx_seq (nx_region (nv v_move (nv v_lss (nv v_move ?_))))))))
  refine nx_guard_dec (t := 7) rfl (fun g7 => ?_) (fun g7 => ?_)
  refine nk (k := nk (k := nk (k := nk (k := nk (k := nv v_pick_t (nx_nil (nx_then (nx_cond_t rfl ?_))))))))
  have hno : p.length i = 0 := by
    unfold Plan.length Plan.elem
    by_cases h : i < 0
    · rw [if_pos h]; rfl
    · rw [if_neg h, List.getElem?_eq_none (by omega)]; rfl
  refine nx_seq (nx_region (nv v_assign (nx_nil (nx_then (nx_ret (nx_then_ret ?_))))))
  exact nx_ret1 rfl (.tmp rfl) (rs (by (rw [hno]; done)))
  refine nr v_move (nr v_fieldAddr (nr v_load1_o (nr v_len (nr v_geq (nv v_pick_f (nx_nil (nx_then ?_)))))))
  refine nx_cond_dec rfl (fun c13 => ?_) (fun c13 => ?_)
  have hno : p.length i = 0 := by
    unfold Plan.length Plan.elem
    by_cases h : i < 0
    · rw [if_pos h]; rfl
    · rw [if_neg h, List.getElem?_eq_none (by omega)]; rfl
  refine nx_seq (nx_region (nv v_assign (nx_nil (nx_then (nx_ret (nx_then_ret ?_))))))
  exact nx_ret1 rfl (.tmp rfl) (rs (by (rw [hno]; done)))
  obtain ⟨zq, zhq⟩ : ∃ q : Nat, i = q := ⟨(i).toNat, by omega⟩
  obtain ⟨z, zh⟩ : ∃ x, p.elems[zq]? = some x := ⟨_, List.getElem?_eq_getElem (by omega)⟩
  obtain ⟨zb, zo, ze, zk, zf0, zf1, zf2⟩ := get_Elem at_.h1 zh
  cases ze
  have zkind : p.kind (i) = z.kind := by rw [zhq]; exact Plan.kind_of zh
  have zlen : p.length (i) = z.length := by rw [zhq]; exact Plan.length_of zh
  refine nx_skip (nx_then (nx_seq (nx_region (nv v_fieldAddr (nv v_load1_o (nv v_move ?_))))))
  refine nv (v_indexAddr_nat (k := zq) rfl rfl (by rw [← zhq]; rfl) (by omega)) ?_
  refine nv v_fieldAddr (nv v_load1_s (nv v_assign (nx_nil (nx_then (nx_ret ?_)))))
  exact nx_ret1 rfl (.tmp rfl) (rs (by (rw [zlen])))
set_option maxRecDepth 20000 in
set_option maxHeartbeats 1000000 in
theorem rHas_ok {G : Gh} {H : List (Nat × Obj)} {W : World} (hp : Hp G H W) {A1 : Option Addr} {n1 c1 : Nat} {A2 : Option Addr} {n2 c2 : Nat} {A3 : Option Addr} {n3 c3 : Nat} {A4 : Option Addr} {n4 c4 : Nat} {p : Plan} (at_ : Plan.At G A1 n1 c1 A2 n2 c2 A3 n3 c3 A4 n4 c4 p) (x : Port) : Calls Tryz.prog 120 ⟨[.agg ⟨[.slice A1 n1 c1, .slice A2 n2 c2, .slice A3 n3 c3, .slice A4 n4 c4, .int .i64 p.top, .int .i64 p.brake, .int .i64 p.margin, .int .i64 p.throw_, .bool p.hard]⟩, .agg ⟨x.cells⟩]⟩ W (RetS G H (.bool (p.isPort x))) := by
  have l1 := at_.h1.length
  have l2 := at_.h2.length
  have l3 := at_.h3.length
  have l4 := at_.h4.length
  have r1 := Nat.le_trans at_.h1.cap at_.h1.room
  have r2 := Nat.le_trans at_.h2.cap at_.h2.room
  have r3 := Nat.le_trans at_.h3.cap at_.h3.room
  have r4 := Nat.le_trans at_.h4.cap at_.h4.room
  refine enter Tryz.func120 rfl Tryz.ntmps120 (Nat.le_of_ble_eq_true rfl) hp (nx_seq (nx_region ?_))
  refine nx_op rfl (op_box rfl rfl (fun b2 => ?_))
  refine nx_op rfl (op_box rfl rfl (fun b3 => ?_))
  refine nv v_assign (nx_nil (nx_then (nx_seq (dr_begin 30 (.q 0 (.q 1 (.q 2 (.q 3 (.q 4 (.q 5 (.q 6 (.q 7 (.q 8 (.q 9 (.q 10 (.q 11 (.q 12 (.q 13 (.q 14 (.q 15 (.q 16 (.q 17 (.q 18 (.q 19 (.q 20 (.q 21 (.q 22 (.q 23 (.q 24 (.q 25 (.l 26 (.q 27 (.q 28 (.q 29 .done)))))))))))))))))))))))))))))) rfl (by kernel_rfl) (dr_q rfl rfl v_fieldAddr ic (dr_q rfl rfl v_load1_o ic (dr_q rfl rfl v_geq ic (dr_q rfl rfl v_move ic ?_))))))))
  refine nx_guard_dec (t := 8) rfl (fun g8 => ?_) (fun g8 => ?_)
  refine dr_q_run rfl rfl rfl rfl v_fieldAddr ic (dr_q_run rfl rfl rfl rfl v_load1_o ic (dr_q_run rfl rfl rfl rfl v_fieldAddr ic (dr_q_run rfl rfl rfl rfl v_load1_o ic (dr_q_run rfl rfl rfl rfl v_len ic (dr_q_run rfl rfl rfl rfl v_lss ic (dr_q rfl rfl v_pick_t ic (dr_q rfl rfl v_move ic ?_)))))))
  refine nx_guard_dec (t := 16) rfl (fun g16 => ?_) (fun g16 => ?_)
  refine dr_q_run rfl rfl rfl rfl v_fieldAddr ic (dr_q_run rfl rfl rfl rfl v_load1_o ic (dr_q_run rfl rfl rfl rfl v_geq ic (dr_q rfl rfl v_pick_t ic (dr_q rfl rfl v_move ic ?_))))
  refine nx_guard_dec (t := 21) rfl (fun g21 => ?_) (fun g21 => ?_)
  obtain ⟨k, hk⟩ : ∃ k : Nat, x.elem = k := ⟨x.elem.toNat, by omega⟩
  obtain ⟨eb, eo, ee, ek, ef0, ef1, ef2⟩ := get_Elem (at_.h1) (List.getElem?_eq_getElem (i := k) (by omega))
  cases ee
  refine dr_q_run rfl rfl rfl rfl v_fieldAddr ic (dr_q_run rfl rfl rfl rfl v_load1_o ic (dr_q_run rfl rfl rfl rfl v_fieldAddr ic (dr_q_run rfl rfl rfl rfl v_load1_o ic (dr_q_run rfl rfl rfl rfl v_fieldAddr ic (dr_q_run rfl rfl rfl rfl v_load1_o ic ?_)))))
  refine dr_q_run rfl rfl rfl rfl (v_indexAddr_nat (k := k) rfl rfl (by rw [← hk]; rfl) (by omega)) ic ?_
  refine dr_q_run rfl rfl rfl rfl v_fieldAddr ic (dr_q_run rfl rfl rfl rfl v_load1_s ic (dr_l_run rfl rfl rfl rfl ?_))
  refine op_callS rfl rfl rfl (fun W hp => rEnds_ok hp _) ?_
  refine dr_k ic (dr_q_run rfl rfl rfl rfl v_lss ic (dr_q rfl rfl v_pick_t ic (dr_q rfl rfl v_assign ic (dr_end rfl ?_))))
  refine nx_nil (nx_np ?_)
  refine nx_then (nx_ret ?_)
  exact nx_ret1 rfl (.tmp rfl) (rs (by simp only [Plan.isPort]; rw [hk, Plan.kind_nat (by omega), ← hk]; simp [*]))
  refine dk (k := dk (k := dk (k := dk (k := dk (k := dk (k := dk (k := dk (k := dk (k := dr_l_skip rfl rfl rfl rfl rfl rfl ic (dk (k := dr_q rfl rfl v_pick_f ic ?_)))))))))))
  refine dr_q rfl rfl v_assign ic (dr_end rfl ?_)
  refine nx_nil (nx_np ?_)
  refine nx_then (nx_ret ?_)
  exact nx_ret1 rfl (.tmp rfl) (rs (by simp [Plan.isPort, *]))
  refine dk (k := dk (k := dk (k := dr_q rfl rfl v_pick_f ic (dr_q rfl rfl v_move ic (dk (k := dk (k := dk (k := dk (k := dk (k := dk (k := dk (k := ?_))))))))))))
  refine dk (k := dk (k := dr_l_skip rfl rfl rfl rfl rfl rfl ic (dk (k := dr_q rfl rfl v_pick_f ic (dr_q rfl rfl v_assign ic (dr_end rfl ?_))))))
  refine nx_nil (nx_np ?_)
  refine nx_then (nx_ret ?_)
  exact nx_ret1 rfl (.tmp rfl) (rs (by simp [Plan.isPort, *]))
  refine dk (k := dk (k := dk (k := dk (k := dk (k := dk (k := dr_q rfl rfl v_pick_f ic (dr_q rfl rfl v_move ic (dk (k := dk (k := dk (k := dr_q rfl rfl v_pick_f ic ?_)))))))))))
  refine dr_q rfl rfl v_move ic (dk (k := dk (k := dk (k := dk (k := dk (k := dk (k := dk (k := dk (k := dk (k := dr_l_skip rfl rfl rfl rfl rfl rfl ic (dk (k := ?_))))))))))))
  refine dr_q rfl rfl v_pick_f ic (dr_q rfl rfl v_assign ic (dr_end rfl ?_))
  refine nx_nil (nx_np ?_)
  refine nx_then (nx_ret ?_)
  exact nx_ret1 rfl (.tmp rfl) (rs (by simp [Plan.isPort, *]))
set_option maxRecDepth 20000 in
set_option maxHeartbeats 1000000 in
theorem rIn_ok {G : Gh} {H : List (Nat × Obj)} {W : World} (hp : Hp G H W) {A : Option Addr} {n c : Nat} {l : List Int} (hs : Sl tInt G A n c l) (x : Int) : Calls Tryz.prog 56 ⟨[.slice A n c, .int .i64 x]⟩ W (RetS G H (.bool (l.any (fun y => decide (y = x))))) := by
  have hl := hs.length
  have hb := Nat.le_trans hs.cap hs.room
  refine enter Tryz.func56 rfl Tryz.ntmps56 (Nat.le_of_ble_eq_true rfl) hp (nx_seq (nx_region (nv v_assign (nx_nil (nx_then (nx_seq (nx_seq (nx_region (nv v_assign (nx_nil (nx_then ?_)))))))))))
  refine nx_block ?_
  refine nx_loop_v (σ := Nat) [0, 1] (fun s => [(5, .int .i64 (s : Int))]) (fun s => G) (fun _ => _) (fun s => (l.drop s).any (fun y => decide (y = x)) = l.any (fun y => decide (y = x))) (fun s => n - s) 0 (.cons rfl (.cons rfl (.nil))) ⟨rfl, trivial⟩ rfl rfl rfl ?_
  intro k hI K next
  refine nx_seq (nx_seq (nx_region (nv v_move (nv v_move (nv v_len (nv v_lss (nx_nil (nx_then ?_))))))))
  refine nx_cond_dec rfl (fun c9 => ?_) (fun c9 => ?_)
  obtain ⟨y, rest, hd, hx⟩ := drop_of_lt (xs := l) (k := k) (by omega)
  obtain ⟨yb, yo, ye, yk, yr, yf0⟩ := next_Int hs hd
  cases ye
  rw [hd] at hI
  refine nx_skip (nx_then (nx_seq (nx_block (nx_seq (nx_region (nv v_move (nv v_move (nv (v_indexAddr_nat rfl rfl rfl (by omega)) (nv v_load1_s (nv v_move (nv v_eql ?_)))))))))))
  refine nx_nil (nx_then ?_)
  refine nx_cond_dec rfl (fun c17 => ?_) (fun c17 => ?_)
  refine nx_seq (nx_region (nv v_assign (nx_nil (nx_then (nx_ret (nx_in_ret (nx_then_ret (nx_then_ret (nx_in_ret (nx_then_ret ?_))))))))))
  exact nx_ret1 rfl (.tmp rfl) (rs (by (rw [← hI]; simp [c17])))
  refine nx_skip (nx_in _ (nx_then (nx_region (nv v_move (nv v_add (nv v_assign (nx_nil (nx_then ?_))))))))
  exact nn (next (k + 1) (by rw [yr, ← hI]; simp [c17]) (by omega))
  refine nx_exit (nx_then_exit (nx_then_exit (nx_in_eq (nx_then (nx_seq (nx_region (nv v_assign (nx_nil (nx_then (nx_ret ?_))))))))))
  exact nx_ret1 rfl (.tmp rfl) (rs (by (rw [← hI, List.drop_eq_nil_of_le (by omega)]; rfl)))
def nextJ (x : Port) : List Join → Option Port
  | [] => none
  | j :: r => if j.a = x then some j.b else if j.b = x then some j.a else nextJ x r
set_option maxRecDepth 20000 in
set_option maxHeartbeats 1000000 in
theorem rNext_ok {G : Gh} {H : List (Nat × Obj)} {W : World} (hp : Hp G H W) {A1 : Option Addr} {n1 c1 : Nat} {A2 : Option Addr} {n2 c2 : Nat} {A3 : Option Addr} {n3 c3 : Nat} {A4 : Option Addr} {n4 c4 : Nat} {p : Plan} (at_ : Plan.At G A1 n1 c1 A2 n2 c2 A3 n3 c3 A4 n4 c4 p) (x : Port) : Calls Tryz.prog 33 ⟨[.agg ⟨[.slice A1 n1 c1, .slice A2 n2 c2, .slice A3 n3 c3, .slice A4 n4 c4, .int .i64 p.top, .int .i64 p.brake, .int .i64 p.margin, .int .i64 p.throw_, .bool p.hard]⟩, .agg ⟨x.cells⟩]⟩ W (RetS G H (.tuple #[.agg ⟨((nextJ x p.joins).getD ⟨0, 0⟩).cells⟩, .bool (nextJ x p.joins).isSome])) := by
  have l1 := at_.h1.length
  have l2 := at_.h2.length
  have l3 := at_.h3.length
  have l4 := at_.h4.length
  have r1 := Nat.le_trans at_.h1.cap at_.h1.room
  have r2 := Nat.le_trans at_.h2.cap at_.h2.room
  have r3 := Nat.le_trans at_.h3.cap at_.h3.room
  have r4 := Nat.le_trans at_.h4.cap at_.h4.room
  refine enter Tryz.func33 rfl Tryz.ntmps33 (Nat.le_of_ble_eq_true rfl) hp (nx_seq (nx_region ?_))
  refine nx_op rfl (op_box rfl rfl (fun b2 => ?_))
  refine nx_op rfl (op_box rfl rfl (fun b3 => ?_))
  refine nx_op rfl (op_alloc rfl (fun b4 => ?_))
  refine nv v_assign (nx_nil (nx_then (nx_seq (nx_seq (nx_region (nv v_assign (nx_nil (nx_then (nx_block ?_)))))))))
  refine nx_loop_v (σ := Nat) [0, 1, 2, 3, 4] (fun s => [(6, .int .i64 (s : Int))]) (fun s => G) (fun _ => _) (fun s => nextJ x (p.joins.drop s) = nextJ x p.joins) (fun s => n2 - s) 0 (.cons rfl (.cons rfl (.cons rfl (.cons rfl (.cons rfl (.nil)))))) ⟨rfl, trivial⟩ rfl rfl rfl ?_
  intro k hI K next
  refine nx_seq (nx_seq (nx_region (nv v_move (nv v_fieldAddr (nv v_load1_o (nv v_len (nv v_lss (nx_nil (nx_then ?_)))))))))
  refine nx_cond_dec rfl (fun c11 => ?_) (fun c11 => ?_)
  obtain ⟨y, rest, hd, hx⟩ := drop_of_lt (xs := p.joins) (k := k) (by omega)
  obtain ⟨yb, yo, ye, yk, yr, yf0, yf1, yf2, yf3⟩ := next_Join at_.h2 hd
  cases ye
  rw [hd] at hI
  refine nx_skip (nx_then (nx_seq (nx_block (nx_seq (nx_seq (dr_begin 8 (.q 0 (.q 1 (.q 2 (.q 3 (.q 4 (.q 5 (.q 6 (.q 7 .done)))))))) rfl (by kernel_rfl) (dr_q rfl rfl v_fieldAddr ic (dr_q rfl rfl v_load1_o ic (dr_q rfl rfl v_move ic (dr_q rfl rfl (v_indexAddr_nat rfl rfl rfl (by omega)) ic (dr_q rfl rfl v_fieldAddr ic ?_)))))))))))
  refine dr_q rfl rfl v_load_s ic (dr_q rfl rfl v_load_o ic (dr_q rfl rfl (v_eql_T Port.cells y.a x rfl rfl rfl) ic (dr_end rfl ?_)))
  refine nx_nil (nx_np ?_)
  refine nx_then ?_
  refine nx_cond_dec rfl (fun c21 => ?_) (fun c21 => ?_)
  refine nx_seq (nx_region (nv v_fieldAddr (nv v_load1_o (nv v_move (nv (v_indexAddr_nat rfl rfl rfl (by omega)) (nv v_fieldAddr (nv v_load_s (st (k := nv v_assign (nx_nil (nx_then ?_)))))))))))
  refine nx_ret (nx_then_ret (nx_in_ret (nx_then_ret (nx_then_ret (nx_in_ret (nx_then_ret ?_))))))
  exact nx_ret2 rfl ro (.tmp rfl) (rs (by rw [← hI]; simp [nextJ, c21]; rfl))
  refine nx_skip (nx_then (nx_seq (dr_begin 8 (.q 0 (.q 1 (.q 2 (.q 3 (.q 4 (.q 5 (.q 6 (.q 7 .done)))))))) rfl (by kernel_rfl) (dr_q rfl rfl v_fieldAddr ic (dr_q rfl rfl v_load1_o ic (dr_q rfl rfl v_move ic (dr_q rfl rfl (v_indexAddr_nat rfl rfl rfl (by omega)) ic (dr_q rfl rfl v_fieldAddr ic (dr_q rfl rfl v_load_s ic (dr_q rfl rfl v_load_o ic (dr_q rfl rfl (v_eql_T Port.cells y.b x rfl rfl rfl) ic ?_)))))))))))
  refine dr_end rfl ?_
  refine nx_nil (nx_np ?_)
  refine nx_then ?_
  refine nx_cond_dec rfl (fun c35 => ?_) (fun c35 => ?_)
  refine nx_seq (nx_region (nv v_fieldAddr (nv v_load1_o (nv v_move (nv (v_indexAddr_nat rfl rfl rfl (by omega)) (nv v_fieldAddr (nv v_load_s (st (k := nv v_assign (nx_nil (nx_then ?_)))))))))))
  refine nx_ret (nx_in_ret (nx_then_ret (nx_then_ret (nx_in_ret (nx_then_ret ?_)))))
  exact nx_ret2 rfl ro (.tmp rfl) (rs (by rw [← hI]; simp [nextJ, c21, c35]; rfl))
  refine nx_skip (nx_in _ (nx_then (nx_region (nv v_move (nv v_add (nv v_assign (nx_nil (nx_then ?_))))))))
  exact nn (next (k + 1) (by rw [yr, ← hI]; simp [nextJ, c21, c35]) (by omega))
  refine nx_exit (nx_then_exit (nx_then_exit (nx_in_eq (nx_then (nx_seq (nx_region (nv (v_build rfl rfl rfl) (st (k := nv v_assign (nx_nil (nx_then ?_)))))))))))
  refine nx_ret ?_
  exact nx_ret2 rfl ro (.tmp rfl) (rs (by rw [← hI, List.drop_eq_nil_of_le (by omega)]; rfl))
def readsL (p : Plan) (x : Port) : Int := ixV (p.signals.findIdx? (fun s => decide (s.at_ = x)))
set_option maxRecDepth 20000 in
set_option maxHeartbeats 1000000 in
theorem rReads_ok {G : Gh} {H : List (Nat × Obj)} {W : World} (hp : Hp G H W) {A1 : Option Addr} {n1 c1 : Nat} {A2 : Option Addr} {n2 c2 : Nat} {A3 : Option Addr} {n3 c3 : Nat} {A4 : Option Addr} {n4 c4 : Nat} {p : Plan} (at_ : Plan.At G A1 n1 c1 A2 n2 c2 A3 n3 c3 A4 n4 c4 p) (x : Port) : Calls Tryz.prog 36 ⟨[.agg ⟨[.slice A1 n1 c1, .slice A2 n2 c2, .slice A3 n3 c3, .slice A4 n4 c4, .int .i64 p.top, .int .i64 p.brake, .int .i64 p.margin, .int .i64 p.throw_, .bool p.hard]⟩, .agg ⟨x.cells⟩]⟩ W (RetS G H (.int .i64 (readsL p x))) := by
  have l1 := at_.h1.length
  have l2 := at_.h2.length
  have l3 := at_.h3.length
  have l4 := at_.h4.length
  have r1 := Nat.le_trans at_.h1.cap at_.h1.room
  have r2 := Nat.le_trans at_.h2.cap at_.h2.room
  have r3 := Nat.le_trans at_.h3.cap at_.h3.room
  have r4 := Nat.le_trans at_.h4.cap at_.h4.room
  refine enter Tryz.func36 rfl Tryz.ntmps36 (Nat.le_of_ble_eq_true rfl) hp (nx_seq (nx_region ?_))
  refine nx_op rfl (op_box rfl rfl (fun b2 => ?_))
  refine nx_op rfl (op_box rfl rfl (fun b3 => ?_))
  refine nv v_assign (nx_nil (nx_then (nx_seq (nx_seq (nx_region (nv v_assign (nx_nil (nx_then (nx_block ?_)))))))))
  refine nx_loop_v (σ := Nat) [0, 1, 2, 3] (fun s => [(5, .int .i64 (s : Int))]) (fun s => G) (fun _ => _) (fun s => ∀ j y, j < s → p.signals[j]? = some y → (fun (s : Signal) => decide (s.at_ = x)) y = false) (fun s => n3 - s) 0 (.cons rfl (.cons rfl (.cons rfl (.cons rfl (.nil))))) ⟨rfl, trivial⟩ (fun j y hj => absurd hj (Nat.not_lt_zero _)) rfl rfl ?_
  intro k hI K next
  refine nx_seq (nx_seq (nx_region (nv v_move (nv v_fieldAddr (nv v_load1_o (nv v_len (nv v_lss (nx_nil (nx_then ?_)))))))))
  refine nx_cond_dec rfl (fun c10 => ?_) (fun c10 => ?_)
  obtain ⟨y, rest, hd, hx⟩ := drop_of_lt (xs := p.signals) (k := k) (by omega)
  obtain ⟨yb, yo, ye, yk, yr, yf0, yf1, yf2, yf3⟩ := next_Signal at_.h3 hd
  cases ye
  refine nx_skip (nx_then (nx_seq (nx_block (nx_seq (dr_begin 8 (.q 0 (.q 1 (.q 2 (.q 3 (.q 4 (.q 5 (.q 6 (.q 7 .done)))))))) rfl (by kernel_rfl) (dr_q rfl rfl v_fieldAddr ic (dr_q rfl rfl v_load1_o ic (dr_q rfl rfl v_move ic (dr_q rfl rfl (v_indexAddr_nat rfl rfl rfl (by omega)) ic (dr_q rfl rfl v_fieldAddr ic (dr_q rfl rfl v_load_s ic ?_)))))))))))
  refine dr_q rfl rfl v_load_o ic (dr_q rfl rfl (v_eql_T Port.cells y.at_ x rfl rfl rfl) ic (dr_end rfl ?_))
  refine nx_nil (nx_np ?_)
  refine nx_then ?_
  refine nx_cond_dec rfl (fun c20 => ?_) (fun c20 => ?_)
  refine nx_seq (nx_region (nv v_move (nv v_assign (nx_nil (nx_then (nx_ret (nx_in_ret (nx_then_ret (nx_then_ret (nx_in_ret (nx_then_ret ?_)))))))))))
  exact nx_ret1 rfl (.tmp rfl) (rs (by unfold readsL; rw [find_some (p := fun (s : Signal) => decide (s.at_ = x)) hI hx (decide_eq_true c20)]; rfl))
  refine nx_skip (nx_in _ (nx_then (nx_region (nv v_move (nv v_add (nv v_assign (nx_nil (nx_then ?_))))))))
  exact nn (next (k + 1) (fun j z hj hz => (by rcases (by omega : j < k ∨ j = k) with h | h; exact hI j z h hz; subst h; rw [hx] at hz; cases hz; exact decide_eq_false c20)) (by omega))
  refine nx_exit (nx_then_exit (nx_then_exit (nx_in_eq (nx_then (nx_seq (nx_region (nv v_assign (nx_nil (nx_then (nx_ret ?_))))))))))
  exact nx_ret1 rfl (.tmp rfl) (rs (by unfold readsL; rw [find_none (p := fun (s : Signal) => decide (s.at_ = x)) (l := p.signals) (fun j y hy => hI j y (by have := (List.getElem?_eq_some_iff.1 hy).1; omega) hy)]; rfl))
theorem name_end {s : ByteArray} {k : Nat} (hI : ∀ c r, s.data.toList = c :: r → 1 ≤ k → letterI c.toNat = true ∧ (s.data.toList.drop k).all nameB = r.all nameB) (h1 : 1 ≤ s.size ∧ s.size ≤ 8) (hk : s.size ≤ k) : nameOk s = true := by
  rw [ba_size] at h1 hk
  cases h : s.data.toList with
  | nil => rw [h] at h1; simp at h1
  | cons c r =>
    obtain ⟨h2, h3⟩ := hI c r h (by omega)
    rw [List.drop_eq_nil_of_le hk] at h3
    exact name_yes h h1.2 h2 h3.symm
theorem name_end2 {s : ByteArray} (h1 : ¬ (1 ≤ s.size ∧ s.size ≤ 8)) : nameOk s = false := by
  rw [ba_size] at h1
  cases h : s.data.toList with
  | nil => unfold nameOk; rw [h]
  | cons c r => exact name_no h (.inl (by rw [h] at h1 ⊢; simp at h1 ⊢; omega))
set_option maxRecDepth 20000 in
set_option maxHeartbeats 1000000 in
theorem rName_ok {G : Gh} {H : List (Nat × Obj)} {W : World} (hp : Hp G H W) (s : ByteArray) (hlen : s.size ≤ 1000000) : Calls Tryz.prog 28 ⟨[.string s]⟩ W (RetS G H (.bool (nameOk s))) := by
  have hsz := ba_size s
  have hnil : s = ⟨#[]⟩ ↔ s.data.toList = [] := by obtain ⟨⟨l⟩⟩ := s; simp
  refine enter Tryz.func28 rfl Tryz.ntmps28 (Nat.le_of_ble_eq_true rfl) hp (nx_seq (nx_region (nv v_assign (nx_nil (nx_then (nx_seq (nx_seq (nx_region (nv v_assign (nx_nil (nx_then ?_)))))))))))
  refine nx_block ?_
  refine nx_loop_v (σ := Nat) [0] (fun k => [(3, .int .i64 (k : Int))]) (fun _ => G) (fun _ => _) (fun k => ∀ c r, s.data.toList = c :: r → 1 ≤ k → letterI c.toNat = true ∧ (s.data.toList.drop k).all nameB = r.all nameB) (fun k => s.size - k) 0 (.cons rfl (.nil)) ⟨rfl, trivial⟩ (fun _ _ _ h => absurd h (by omega)) rfl rfl ?_
  intro k hI K next
  refine nx_seq (nx_seq (nx_region (nv v_move (nv v_move (nv v_len_str (nv v_lss (nx_nil (nx_then ?_))))))))
  refine nx_cond_dec rfl (fun c9 => ?_) (fun c9 => ?_)
  obtain ⟨x, rest, hd, hx⟩ := drop_of_lt (xs := s.data.toList) (k := k) (by omega)
  have hr' : s.data.toList.drop (k + 1) = rest := by rw [← List.tail_drop, hd]; rfl
  have hlt : (x.toNat : Int) < 256 := by have := x.toNat_lt; omega
  refine nx_skip (nx_then (nx_seq (nx_block (nx_seq (nx_region (nv v_move (nv v_move (nv (v_index_str (i := k) rfl rfl rfl (ba_get hx)) (nv v_assign (nx_nil (nx_then ?_)))))))))))
  refine nx_seq (nx_region (nv v_move (nv v_geq (nv v_move ?_))))
  refine nx_guard_dec (t := 17) rfl (fun g17 => ?_) (fun g17 => ?_)
  refine nr v_move (nr v_leq (nv v_pick_t (nv v_move ?_)))
  refine nx_guard_dec (t := 21) rfl (fun g21 => ?_) (fun g21 => ?_)
  refine nk (k := nk (k := nk (k := nu (k := nu (k := nk (k := nv v_pick_t (nv v_assign (nx_nil (nx_then (nx_seq (nx_region ?_)))))))))))
  refine nv v_move (nv v_not_t (nv v_move (nk (k := nk (k := nk (k := nu (k := nu (k := nk (k := nk (k := nu (k := nu (k := ?_))))))))))))
  refine nk (k := nv v_pick_f (nx_nil (nx_then (nx_cond_f rfl ?_))))
  have hyes : ∀ c r, s.data.toList = c :: r → 1 ≤ k + 1 → letterI c.toNat = true ∧ (s.data.toList.drop (k + 1)).all nameB = r.all nameB := by
    intro c r hc _
    rcases Nat.eq_zero_or_pos k with h0 | h0
    · subst h0
      have h1 := hd
      rw [List.drop_zero, hc] at h1
      cases h1
      exact ⟨(by simp [letterI]; omega), (by rw [hc]; rfl)⟩
    · obtain ⟨h1, h2⟩ := hI c r hc h0
      exact ⟨h1, (by rw [hr', ← h2, hd, List.all_cons]; have hb : nameB x = true := (by simp [nameB, letterI]; omega); rw [hb]; rfl)⟩
  refine nx_skip (nx_in _ (nx_then (nx_region (nv v_move (nv v_add (nv v_assign (nx_nil (nx_then ?_))))))))
  exact nn (next (k + 1) hyes (by omega))
  refine nr v_move (nr v_geq (nr v_move ?_))
  refine nx_guard_dec (t := 24) rfl (fun g24 => ?_) (fun g24 => ?_)
  refine nr v_move (nr v_leq (nr v_pick_t (nv v_pick_f (nv v_assign (nx_nil (nx_then (nx_seq (nx_region (nv v_move (nv v_not_dec (nv v_move ?_)))))))))))
  refine nx_guard_dec (t := 31) rfl (fun g31 => ?_) (fun g31 => ?_)
  refine nr v_move (nr v_eql (nr v_move ?_))
  refine nx_guard_dec (t := 34) rfl (fun g34 => ?_) (fun g34 => ?_)
  refine nk (k := nk (k := nr v_pick_t (nr v_move (nk (k := nk (k := nr v_pick_t (nv v_pick_t (nx_nil (nx_then (nx_cond_t rfl ?_))))))))))
  have hno : nameOk s = false := by
    rcases Nat.eq_zero_or_pos k with h0 | h0
    · subst h0
      exact name_no (by simpa using hd) (.inr (.inl (by simp [letterI]; omega)))
    · obtain ⟨c, r, hc⟩ : ∃ c r, s.data.toList = c :: r := by
        cases h : s.data.toList with
        | nil => rw [h] at hd; simp at hd
        | cons c r => exact ⟨c, r, rfl⟩
      obtain ⟨h1, h2⟩ := hI c r hc h0
      exact name_no hc (.inr (.inr (by rw [← h2, hd, List.all_cons]; have hb : nameB x = false := (by simp [nameB, letterI]; omega); rw [hb]; rfl)))
  refine nx_seq (nx_region (nv v_assign (nx_nil (nx_then (nx_ret (nx_in_ret (nx_then_ret (nx_then_ret (nx_in_ret (nx_then_ret ?_))))))))))
  exact nx_ret1 rfl (.tmp rfl) (rs (by (rw [hno]; done)))
  refine nr v_move (nr v_lss (nr v_pick_f (nr v_move ?_)))
  refine nx_guard_dec (t := 38) rfl (fun g38 => ?_) (fun g38 => ?_)
  refine nk (k := nk (k := nr v_pick_t (nv v_pick_t (nx_nil (nx_then (nx_cond_t rfl ?_))))))
  have hno : nameOk s = false := by
    rcases Nat.eq_zero_or_pos k with h0 | h0
    · subst h0
      exact name_no (by simpa using hd) (.inr (.inl (by simp [letterI]; omega)))
    · obtain ⟨c, r, hc⟩ : ∃ c r, s.data.toList = c :: r := by
        cases h : s.data.toList with
        | nil => rw [h] at hd; simp at hd
        | cons c r => exact ⟨c, r, rfl⟩
      obtain ⟨h1, h2⟩ := hI c r hc h0
      exact name_no hc (.inr (.inr (by rw [← h2, hd, List.all_cons]; have hb : nameB x = false := (by simp [nameB, letterI]; omega); rw [hb]; rfl)))
  refine nx_seq (nx_region (nv v_assign (nx_nil (nx_then (nx_ret (nx_in_ret (nx_then_ret (nx_then_ret (nx_in_ret (nx_then_ret ?_))))))))))
  exact nx_ret1 rfl (.tmp rfl) (rs (by (rw [hno]; done)))
  refine nr v_move (nr v_gtr (nr v_pick_f (nv v_pick_t (nx_nil (nx_then ?_)))))
  refine nx_cond_dec rfl (fun c42 => ?_) (fun c42 => ?_)
  have hno : nameOk s = false := by
    rcases Nat.eq_zero_or_pos k with h0 | h0
    · subst h0
      exact name_no (by simpa using hd) (.inr (.inl (by simp [letterI]; omega)))
    · obtain ⟨c, r, hc⟩ : ∃ c r, s.data.toList = c :: r := by
        cases h : s.data.toList with
        | nil => rw [h] at hd; simp at hd
        | cons c r => exact ⟨c, r, rfl⟩
      obtain ⟨h1, h2⟩ := hI c r hc h0
      exact name_no hc (.inr (.inr (by rw [← h2, hd, List.all_cons]; have hb : nameB x = false := (by simp [nameB, letterI]; omega); rw [hb]; rfl)))
  refine nx_seq (nx_region (nv v_assign (nx_nil (nx_then (nx_ret (nx_in_ret (nx_then_ret (nx_then_ret (nx_in_ret (nx_then_ret ?_))))))))))
  exact nx_ret1 rfl (.tmp rfl) (rs (by (rw [hno]; done)))
  have hyes : ∀ c r, s.data.toList = c :: r → 1 ≤ k + 1 → letterI c.toNat = true ∧ (s.data.toList.drop (k + 1)).all nameB = r.all nameB := by
    intro c r hc _
    rcases Nat.eq_zero_or_pos k with h0 | h0
    · subst h0
      have h1 := hd
      rw [List.drop_zero, hc] at h1
      cases h1
      exact ⟨(by simp [letterI]; omega), (by rw [hc]; rfl)⟩
    · obtain ⟨h1, h2⟩ := hI c r hc h0
      exact ⟨h1, (by rw [hr', ← h2, hd, List.all_cons]; have hb : nameB x = true := (by simp [nameB, letterI]; omega); rw [hb]; rfl)⟩
  refine nx_skip (nx_in _ (nx_then (nx_region (nv v_move (nv v_add (nv v_assign (nx_nil (nx_then ?_))))))))
  exact nn (next (k + 1) hyes (by omega))
  refine nk (k := nk (k := nk (k := nu (k := nu (k := nk (k := nk (k := nu (k := nu (k := nk (k := nv v_pick_f (nx_nil ?_)))))))))))
  refine nx_then (nx_cond_f rfl ?_)
  have hyes : ∀ c r, s.data.toList = c :: r → 1 ≤ k + 1 → letterI c.toNat = true ∧ (s.data.toList.drop (k + 1)).all nameB = r.all nameB := by
    intro c r hc _
    rcases Nat.eq_zero_or_pos k with h0 | h0
    · subst h0
      have h1 := hd
      rw [List.drop_zero, hc] at h1
      cases h1
      exact ⟨(by simp [letterI]; omega), (by rw [hc]; rfl)⟩
    · obtain ⟨h1, h2⟩ := hI c r hc h0
      exact ⟨h1, (by rw [hr', ← h2, hd, List.all_cons]; have hb : nameB x = true := (by simp [nameB, letterI]; omega); rw [hb]; rfl)⟩
  refine nx_skip (nx_in _ (nx_then (nx_region (nv v_move (nv v_add (nv v_assign (nx_nil (nx_then ?_))))))))
  exact nn (next (k + 1) hyes (by omega))
  refine nk (k := nk (k := nr v_pick_f (nv v_pick_f (nv v_assign (nx_nil (nx_then (nx_seq (nx_region (nv v_move (nv v_not_f (nv v_move ?_)))))))))))
  refine nr v_move (nr v_eql (nr v_move ?_))
  refine nx_guard_dec (t := 34) rfl (fun g34 => ?_) (fun g34 => ?_)
  refine nk (k := nk (k := nr v_pick_t (nr v_move (nk (k := nk (k := nr v_pick_t (nv v_pick_t (nx_nil (nx_then (nx_cond_t rfl ?_))))))))))
  have hno : nameOk s = false := by
    rcases Nat.eq_zero_or_pos k with h0 | h0
    · subst h0
      exact name_no (by simpa using hd) (.inr (.inl (by simp [letterI]; omega)))
    · obtain ⟨c, r, hc⟩ : ∃ c r, s.data.toList = c :: r := by
        cases h : s.data.toList with
        | nil => rw [h] at hd; simp at hd
        | cons c r => exact ⟨c, r, rfl⟩
      obtain ⟨h1, h2⟩ := hI c r hc h0
      exact name_no hc (.inr (.inr (by rw [← h2, hd, List.all_cons]; have hb : nameB x = false := (by simp [nameB, letterI]; omega); rw [hb]; rfl)))
  refine nx_seq (nx_region (nv v_assign (nx_nil (nx_then (nx_ret (nx_in_ret (nx_then_ret (nx_then_ret (nx_in_ret (nx_then_ret ?_))))))))))
  exact nx_ret1 rfl (.tmp rfl) (rs (by (rw [hno]; done)))
  refine nr v_move (nr v_lss (nr v_pick_f (nr v_move ?_)))
  refine nx_guard_dec (t := 38) rfl (fun g38 => ?_) (fun g38 => ?_)
  refine nk (k := nk (k := nr v_pick_t (nv v_pick_t (nx_nil (nx_then (nx_cond_t rfl ?_))))))
  have hno : nameOk s = false := by
    rcases Nat.eq_zero_or_pos k with h0 | h0
    · subst h0
      exact name_no (by simpa using hd) (.inr (.inl (by simp [letterI]; omega)))
    · obtain ⟨c, r, hc⟩ : ∃ c r, s.data.toList = c :: r := by
        cases h : s.data.toList with
        | nil => rw [h] at hd; simp at hd
        | cons c r => exact ⟨c, r, rfl⟩
      obtain ⟨h1, h2⟩ := hI c r hc h0
      exact name_no hc (.inr (.inr (by rw [← h2, hd, List.all_cons]; have hb : nameB x = false := (by simp [nameB, letterI]; omega); rw [hb]; rfl)))
  refine nx_seq (nx_region (nv v_assign (nx_nil (nx_then (nx_ret (nx_in_ret (nx_then_ret (nx_then_ret (nx_in_ret (nx_then_ret ?_))))))))))
  exact nx_ret1 rfl (.tmp rfl) (rs (by (rw [hno]; done)))
  refine nr v_move (nr v_gtr (nr v_pick_f (nv v_pick_t (nx_nil (nx_then ?_)))))
  refine nx_cond_dec rfl (fun c42 => ?_) (fun c42 => ?_)
  have hno : nameOk s = false := by
    rcases Nat.eq_zero_or_pos k with h0 | h0
    · subst h0
      exact name_no (by simpa using hd) (.inr (.inl (by simp [letterI]; omega)))
    · obtain ⟨c, r, hc⟩ : ∃ c r, s.data.toList = c :: r := by
        cases h : s.data.toList with
        | nil => rw [h] at hd; simp at hd
        | cons c r => exact ⟨c, r, rfl⟩
      obtain ⟨h1, h2⟩ := hI c r hc h0
      exact name_no hc (.inr (.inr (by rw [← h2, hd, List.all_cons]; have hb : nameB x = false := (by simp [nameB, letterI]; omega); rw [hb]; rfl)))
  refine nx_seq (nx_region (nv v_assign (nx_nil (nx_then (nx_ret (nx_in_ret (nx_then_ret (nx_then_ret (nx_in_ret (nx_then_ret ?_))))))))))
  exact nx_ret1 rfl (.tmp rfl) (rs (by (rw [hno]; done)))
  have hyes : ∀ c r, s.data.toList = c :: r → 1 ≤ k + 1 → letterI c.toNat = true ∧ (s.data.toList.drop (k + 1)).all nameB = r.all nameB := by
    intro c r hc _
    rcases Nat.eq_zero_or_pos k with h0 | h0
    · subst h0
      have h1 := hd
      rw [List.drop_zero, hc] at h1
      cases h1
      exact ⟨(by simp [letterI]; omega), (by rw [hc]; rfl)⟩
    · obtain ⟨h1, h2⟩ := hI c r hc h0
      exact ⟨h1, (by rw [hr', ← h2, hd, List.all_cons]; have hb : nameB x = true := (by simp [nameB, letterI]; omega); rw [hb]; rfl)⟩
  refine nx_skip (nx_in _ (nx_then (nx_region (nv v_move (nv v_add (nv v_assign (nx_nil (nx_then ?_))))))))
  exact nn (next (k + 1) hyes (by omega))
  refine nk (k := nk (k := nv v_pick_f (nv v_move (nr v_move (nr v_geq (nr v_move ?_))))))
  refine nx_guard_dec (t := 24) rfl (fun g24 => ?_) (fun g24 => ?_)
  refine nr v_move (nr v_leq (nr v_pick_t (nv v_pick_f (nv v_assign (nx_nil (nx_then (nx_seq (nx_region (nv v_move (nv v_not_dec (nv v_move ?_)))))))))))
  refine nx_guard_dec (t := 31) rfl (fun g31 => ?_) (fun g31 => ?_)
  refine nr v_move (nr v_eql (nr v_move ?_))
  refine nx_guard_dec (t := 34) rfl (fun g34 => ?_) (fun g34 => ?_)
  refine nk (k := nk (k := nr v_pick_t (nr v_move (nk (k := nk (k := nr v_pick_t (nv v_pick_t (nx_nil (nx_then (nx_cond_t rfl ?_))))))))))
  have hno : nameOk s = false := by
    rcases Nat.eq_zero_or_pos k with h0 | h0
    · subst h0
      exact name_no (by simpa using hd) (.inr (.inl (by simp [letterI]; omega)))
    · obtain ⟨c, r, hc⟩ : ∃ c r, s.data.toList = c :: r := by
        cases h : s.data.toList with
        | nil => rw [h] at hd; simp at hd
        | cons c r => exact ⟨c, r, rfl⟩
      obtain ⟨h1, h2⟩ := hI c r hc h0
      exact name_no hc (.inr (.inr (by rw [← h2, hd, List.all_cons]; have hb : nameB x = false := (by simp [nameB, letterI]; omega); rw [hb]; rfl)))
  refine nx_seq (nx_region (nv v_assign (nx_nil (nx_then (nx_ret (nx_in_ret (nx_then_ret (nx_then_ret (nx_in_ret (nx_then_ret ?_))))))))))
  exact nx_ret1 rfl (.tmp rfl) (rs (by (rw [hno]; done)))
  refine nr v_move (nr v_lss (nr v_pick_f (nr v_move ?_)))
  refine nx_guard_dec (t := 38) rfl (fun g38 => ?_) (fun g38 => ?_)
  refine nk (k := nk (k := nr v_pick_t (nv v_pick_t (nx_nil (nx_then (nx_cond_t rfl ?_))))))
  have hno : nameOk s = false := by
    rcases Nat.eq_zero_or_pos k with h0 | h0
    · subst h0
      exact name_no (by simpa using hd) (.inr (.inl (by simp [letterI]; omega)))
    · obtain ⟨c, r, hc⟩ : ∃ c r, s.data.toList = c :: r := by
        cases h : s.data.toList with
        | nil => rw [h] at hd; simp at hd
        | cons c r => exact ⟨c, r, rfl⟩
      obtain ⟨h1, h2⟩ := hI c r hc h0
      exact name_no hc (.inr (.inr (by rw [← h2, hd, List.all_cons]; have hb : nameB x = false := (by simp [nameB, letterI]; omega); rw [hb]; rfl)))
  refine nx_seq (nx_region (nv v_assign (nx_nil (nx_then (nx_ret (nx_in_ret (nx_then_ret (nx_then_ret (nx_in_ret (nx_then_ret ?_))))))))))
  exact nx_ret1 rfl (.tmp rfl) (rs (by (rw [hno]; done)))
  refine nr v_move (nr v_gtr (nr v_pick_f (nv v_pick_t (nx_nil (nx_then ?_)))))
  refine nx_cond_dec rfl (fun c42 => ?_) (fun c42 => ?_)
  have hno : nameOk s = false := by
    rcases Nat.eq_zero_or_pos k with h0 | h0
    · subst h0
      exact name_no (by simpa using hd) (.inr (.inl (by simp [letterI]; omega)))
    · obtain ⟨c, r, hc⟩ : ∃ c r, s.data.toList = c :: r := by
        cases h : s.data.toList with
        | nil => rw [h] at hd; simp at hd
        | cons c r => exact ⟨c, r, rfl⟩
      obtain ⟨h1, h2⟩ := hI c r hc h0
      exact name_no hc (.inr (.inr (by rw [← h2, hd, List.all_cons]; have hb : nameB x = false := (by simp [nameB, letterI]; omega); rw [hb]; rfl)))
  refine nx_seq (nx_region (nv v_assign (nx_nil (nx_then (nx_ret (nx_in_ret (nx_then_ret (nx_then_ret (nx_in_ret (nx_then_ret ?_))))))))))
  exact nx_ret1 rfl (.tmp rfl) (rs (by (rw [hno]; done)))
  have hyes : ∀ c r, s.data.toList = c :: r → 1 ≤ k + 1 → letterI c.toNat = true ∧ (s.data.toList.drop (k + 1)).all nameB = r.all nameB := by
    intro c r hc _
    rcases Nat.eq_zero_or_pos k with h0 | h0
    · subst h0
      have h1 := hd
      rw [List.drop_zero, hc] at h1
      cases h1
      exact ⟨(by simp [letterI]; omega), (by rw [hc]; rfl)⟩
    · obtain ⟨h1, h2⟩ := hI c r hc h0
      exact ⟨h1, (by rw [hr', ← h2, hd, List.all_cons]; have hb : nameB x = true := (by simp [nameB, letterI]; omega); rw [hb]; rfl)⟩
  refine nx_skip (nx_in _ (nx_then (nx_region (nv v_move (nv v_add (nv v_assign (nx_nil (nx_then ?_))))))))
  exact nn (next (k + 1) hyes (by omega))
  refine nk (k := nk (k := nk (k := nu (k := nu (k := nk (k := nk (k := nu (k := nu (k := nk (k := nv v_pick_f (nx_nil ?_)))))))))))
  refine nx_then (nx_cond_f rfl ?_)
  have hyes : ∀ c r, s.data.toList = c :: r → 1 ≤ k + 1 → letterI c.toNat = true ∧ (s.data.toList.drop (k + 1)).all nameB = r.all nameB := by
    intro c r hc _
    rcases Nat.eq_zero_or_pos k with h0 | h0
    · subst h0
      have h1 := hd
      rw [List.drop_zero, hc] at h1
      cases h1
      exact ⟨(by simp [letterI]; omega), (by rw [hc]; rfl)⟩
    · obtain ⟨h1, h2⟩ := hI c r hc h0
      exact ⟨h1, (by rw [hr', ← h2, hd, List.all_cons]; have hb : nameB x = true := (by simp [nameB, letterI]; omega); rw [hb]; rfl)⟩
  refine nx_skip (nx_in _ (nx_then (nx_region (nv v_move (nv v_add (nv v_assign (nx_nil (nx_then ?_))))))))
  exact nn (next (k + 1) hyes (by omega))
  refine nk (k := nk (k := nr v_pick_f (nv v_pick_f (nv v_assign (nx_nil (nx_then (nx_seq (nx_region (nv v_move (nv v_not_f (nv v_move ?_)))))))))))
  refine nr v_move (nr v_eql (nr v_move ?_))
  refine nx_guard_dec (t := 34) rfl (fun g34 => ?_) (fun g34 => ?_)
  refine nk (k := nk (k := nr v_pick_t (nr v_move (nk (k := nk (k := nr v_pick_t (nv v_pick_t (nx_nil (nx_then (nx_cond_t rfl ?_))))))))))
  have hno : nameOk s = false := by
    rcases Nat.eq_zero_or_pos k with h0 | h0
    · subst h0
      exact name_no (by simpa using hd) (.inr (.inl (by simp [letterI]; omega)))
    · obtain ⟨c, r, hc⟩ : ∃ c r, s.data.toList = c :: r := by
        cases h : s.data.toList with
        | nil => rw [h] at hd; simp at hd
        | cons c r => exact ⟨c, r, rfl⟩
      obtain ⟨h1, h2⟩ := hI c r hc h0
      exact name_no hc (.inr (.inr (by rw [← h2, hd, List.all_cons]; have hb : nameB x = false := (by simp [nameB, letterI]; omega); rw [hb]; rfl)))
  refine nx_seq (nx_region (nv v_assign (nx_nil (nx_then (nx_ret (nx_in_ret (nx_then_ret (nx_then_ret (nx_in_ret (nx_then_ret ?_))))))))))
  exact nx_ret1 rfl (.tmp rfl) (rs (by (rw [hno]; done)))
  refine nr v_move (nr v_lss (nr v_pick_f (nr v_move ?_)))
  refine nx_guard_dec (t := 38) rfl (fun g38 => ?_) (fun g38 => ?_)
  refine nk (k := nk (k := nr v_pick_t (nv v_pick_t (nx_nil (nx_then (nx_cond_t rfl ?_))))))
  have hno : nameOk s = false := by
    rcases Nat.eq_zero_or_pos k with h0 | h0
    · subst h0
      exact name_no (by simpa using hd) (.inr (.inl (by simp [letterI]; omega)))
    · obtain ⟨c, r, hc⟩ : ∃ c r, s.data.toList = c :: r := by
        cases h : s.data.toList with
        | nil => rw [h] at hd; simp at hd
        | cons c r => exact ⟨c, r, rfl⟩
      obtain ⟨h1, h2⟩ := hI c r hc h0
      exact name_no hc (.inr (.inr (by rw [← h2, hd, List.all_cons]; have hb : nameB x = false := (by simp [nameB, letterI]; omega); rw [hb]; rfl)))
  refine nx_seq (nx_region (nv v_assign (nx_nil (nx_then (nx_ret (nx_in_ret (nx_then_ret (nx_then_ret (nx_in_ret (nx_then_ret ?_))))))))))
  exact nx_ret1 rfl (.tmp rfl) (rs (by (rw [hno]; done)))
  refine nr v_move (nr v_gtr (nr v_pick_f (nv v_pick_t (nx_nil (nx_then ?_)))))
  refine nx_cond_dec rfl (fun c42 => ?_) (fun c42 => ?_)
  have hno : nameOk s = false := by
    rcases Nat.eq_zero_or_pos k with h0 | h0
    · subst h0
      exact name_no (by simpa using hd) (.inr (.inl (by simp [letterI]; omega)))
    · obtain ⟨c, r, hc⟩ : ∃ c r, s.data.toList = c :: r := by
        cases h : s.data.toList with
        | nil => rw [h] at hd; simp at hd
        | cons c r => exact ⟨c, r, rfl⟩
      obtain ⟨h1, h2⟩ := hI c r hc h0
      exact name_no hc (.inr (.inr (by rw [← h2, hd, List.all_cons]; have hb : nameB x = false := (by simp [nameB, letterI]; omega); rw [hb]; rfl)))
  refine nx_seq (nx_region (nv v_assign (nx_nil (nx_then (nx_ret (nx_in_ret (nx_then_ret (nx_then_ret (nx_in_ret (nx_then_ret ?_))))))))))
  exact nx_ret1 rfl (.tmp rfl) (rs (by (rw [hno]; done)))
  have hyes : ∀ c r, s.data.toList = c :: r → 1 ≤ k + 1 → letterI c.toNat = true ∧ (s.data.toList.drop (k + 1)).all nameB = r.all nameB := by
    intro c r hc _
    rcases Nat.eq_zero_or_pos k with h0 | h0
    · subst h0
      have h1 := hd
      rw [List.drop_zero, hc] at h1
      cases h1
      exact ⟨(by simp [letterI]; omega), (by rw [hc]; rfl)⟩
    · obtain ⟨h1, h2⟩ := hI c r hc h0
      exact ⟨h1, (by rw [hr', ← h2, hd, List.all_cons]; have hb : nameB x = true := (by simp [nameB, letterI]; omega); rw [hb]; rfl)⟩
  refine nx_skip (nx_in _ (nx_then (nx_region (nv v_move (nv v_add (nv v_assign (nx_nil (nx_then ?_))))))))
  exact nn (next (k + 1) hyes (by omega))
  refine nx_exit (nx_then_exit (nx_then_exit (nx_in_eq (nx_then (nx_seq (nx_region (nv v_move (nv v_len_str (nv v_geq (nv v_move ?_))))))))))
  refine nx_guard_dec (t := 46) rfl (fun g46 => ?_) (fun g46 => ?_)
  refine nr v_move (nr v_len_str (nr v_leq (nv v_pick_t (nv v_assign (nx_nil (nx_then (nx_ret ?_)))))))
  exact nx_ret1 rfl (.tmp rfl) (rs (by (by_cases h8 : s.size ≤ 8; rw [name_end hI (by omega) (by omega)]; simp [h8]; omega; rw [name_end2 (by omega)]; simp; omega)))
  refine nk (k := nk (k := nk (k := nv v_pick_f (nv v_assign (nx_nil (nx_then (nx_ret ?_)))))))
  exact nx_ret1 rfl (.tmp rfl) (rs (by (rw [name_end2 (by omega)]; done)))
end Go.Proofs.YtjckojnlapchoaaGreat
open Go Go.RowKit
namespace Go.Proofs.YtjckojnlapchoaaGreat
open Go.Proofs
def IsNames (p : Plan) (G : Gh) (v : Value) : Prop := ∃ B1 m1 d1 B2 m2 d2 B3 m3 d3, v = .tuple #[.slice B1 m1 d1, .slice B2 m2 d2, .slice B3 m3 d3] ∧ Sl tStr G B1 m1 d1 (p.elems.map (·.name)) ∧ Sl tStr G B2 m2 d2 (p.signals.map (·.name)) ∧ Sl tStr G B3 m3 d3 (p.lines.map (·.name))
theorem map_snoc {α β : Type} (f : α → β) {l : List α} {k : Nat} {x : α} (h : l[k]? = some x) : (l.take (k + 1)).map f = (l.take k).map f ++ [f x] := by rw [take_snoc h, List.map_append]; rfl
structure Plan.Few (p : Plan) : Prop where
  h1 : p.elems.length ≤ 60
  h2 : p.joins.length ≤ 120
  h3 : p.signals.length ≤ 60
  h4 : p.lines.length ≤ 20
  h5 : ∀ x, x ∈ p.lines → x.elems.length ≤ 60 ∧ x.name.size ≤ 100
  h6 : ∀ x, x ∈ p.elems → x.name.size ≤ 100
  h7 : ∀ x, x ∈ p.signals → x.name.size ≤ 100
set_option maxRecDepth 20000 in
set_option maxHeartbeats 1000000 in
theorem rNames_ok {G : Gh} {H : List (Nat × Obj)} {W : World} (hp : Hp G H W) {A1 : Option Addr} {n1 c1 : Nat} {A2 : Option Addr} {n2 c2 : Nat} {A3 : Option Addr} {n3 c3 : Nat} {A4 : Option Addr} {n4 c4 : Nat} {p : Plan} (at_ : Plan.At G A1 n1 c1 A2 n2 c2 A3 n3 c3 A4 n4 c4 p) (fw : p.Few) : Calls Tryz.prog 68 ⟨[.agg ⟨[.slice A1 n1 c1, .slice A2 n2 c2, .slice A3 n3 c3, .slice A4 n4 c4, .int .i64 p.top, .int .i64 p.brake, .int .i64 p.margin, .int .i64 p.throw_, .bool p.hard]⟩]⟩ W (RetD G H (IsNames p)) := by
  have l1 := at_.h1.length
  have l2 := at_.h2.length
  have l3 := at_.h3.length
  have l4 := at_.h4.length
  have r1 := Nat.le_trans at_.h1.cap at_.h1.room
  have r2 := Nat.le_trans at_.h2.cap at_.h2.room
  have r3 := Nat.le_trans at_.h3.cap at_.h3.room
  have r4 := Nat.le_trans at_.h4.cap at_.h4.room
  obtain ⟨w1, w2, w3, w4, _, _, _⟩ := fw
  refine enter Tryz.func68 rfl Tryz.ntmps68 (Nat.le_of_ble_eq_true rfl) hp (nx_seq (nx_region ?_))
  refine nx_op rfl (op_box rfl rfl (fun b1 => ?_))
  refine nv v_assign (nv v_assign (nv v_assign (nx_nil (nx_then (nx_seq (nx_region (nv v_assign (nv v_assign (nv v_assign (nx_nil (nx_then ?_)))))))))))
  refine nx_seq (nx_seq (nx_region (nv v_assign (nx_nil (nx_then (nx_block ?_))))))
  refine nx_loop_v (σ := Nat × Option Addr × Nat × List (Nat × Obj)) [0, 1, 2, 3, 4, 6, 7] (fun s => [(8, .int .i64 (s.1 : Int)), (5, .slice s.2.1 s.1 s.2.2.1)]) (fun _ => G) (fun s => s.2.2.2 ++ _) (fun s => s.1 ≤ n1 ∧ OwnS tStr 9 G ((p.elems.take s.1).map (·.name)) (.slice s.2.1 s.1 s.2.2.1) s.2.2.2) (fun s => n1 - s.1) (0, none, 0, []) (.cons rfl (.cons rfl (.cons rfl (.cons rfl (.cons rfl (.cons rfl (.cons rfl (.nil)))))))) ⟨rfl, rfl, trivial⟩ ⟨Nat.zero_le _, .nil rfl⟩ rfl rfl ?_
  rintro ⟨ka, Aa, ca, Na⟩ ⟨hka, oa⟩ Ka nexta
  dsimp only at hka oa ⊢
  refine nx_seq (nx_seq (nx_region (nv v_move (nv v_fieldAddr (nv v_load1_o (nv v_len (nv v_lss (nx_nil (nx_then ?_)))))))))
  refine nx_cond_dec rfl (fun c15 => ?_) (fun c15 => ?_)
  obtain ⟨x, rest, hd, hx⟩ := drop_of_lt (xs := p.elems) (k := ka) (by omega)
  obtain ⟨xb, xo, xe, xk, xr, xf0, xf1, xf2⟩ := next_Elem at_.h1 hd
  cases xe
  have hlk : ((p.elems.take ka).map (·.name)).length = ka := by rw [List.length_map, List.length_take]; omega
  have hsn := map_snoc (·.name) hx
  refine nx_skip (nx_then (nx_seq (nx_block (nx_region (nv v_move (nv v_fieldAddr (nv v_load1_o (nv v_move (nv (v_indexAddr_nat rfl rfl rfl (by omega)) (nv v_fieldAddr (nv v_load1_s ?_)))))))))))
  refine nx_op rfl (op_buildSlice rfl rfl rfl rfl rfl (fun b25 => ?_))
  refine nx_op rfl (op_app (T := tStr) rfl rfl rfl oa (by repeat (first | exact Pull.here | apply Pull.cons | apply Pull.app)) (Src.row List.mem_cons_self (rows_Str [x.name]) rfl) (by simp; omega) (by simp [maxLen]; omega) (fun A26 c26 N26 o26 hc26 => ?_))
  refine nv v_assign (nx_nil (nx_in _ (nx_then (nx_region (nv v_move (nv v_add (nv v_assign (nx_nil (nx_then ?_)))))))))
  rw [← hsn] at o26
  have hlk2 : ((p.elems.take (ka + 1)).map (·.name)).length = ka + 1 := by rw [List.length_map, List.length_take]; omega
  simp only [← hsn, hlk2] at o26 ⊢
  exact nn (nexta (ka + 1, A26, c26, N26) ⟨(by dsimp only; omega), o26⟩ (by dsimp only; omega))
  obtain rfl : ka = n1 := by omega
  rw [List.take_of_length_le (by omega)] at oa
  refine nx_exit (nx_then_exit (nx_then_exit (nx_in_eq (nx_then (nx_seq (nx_seq (nx_region (nv v_assign (nx_nil (nx_then (nx_block ?_)))))))))))
  refine nx_loop_v (σ := Nat × Option Addr × Nat × List (Nat × Obj)) [0, 1, 2, 3, 4, 5, 7, 8, 11, 12, 13, 14, 15] (fun s => [(9, .int .i64 (s.1 : Int)), (6, .slice s.2.1 s.1 s.2.2.1)]) (fun _ => G) (fun s => s.2.2.2 ++ _) (fun s => s.1 ≤ n3 ∧ OwnS tStr 9 G ((p.signals.take s.1).map (·.name)) (.slice s.2.1 s.1 s.2.2.1) s.2.2.2) (fun s => n3 - s.1) (0, none, 0, []) (.cons rfl (.cons rfl (.cons rfl (.cons rfl (.cons rfl (.cons rfl (.cons rfl (.cons rfl (.cons rfl (.cons rfl (.cons rfl (.cons rfl (.cons rfl (.nil)))))))))))))) ⟨rfl, rfl, trivial⟩ ⟨Nat.zero_le _, .nil rfl⟩ rfl rfl ?_
  rintro ⟨kb, Ab, cb, Nb⟩ ⟨hkb, ob⟩ Kb nextb
  dsimp only at hkb ob ⊢
  refine nx_seq (nx_seq (nx_region (nv v_move (nv v_fieldAddr (nv v_load1_o (nv v_len (nv v_lss (nx_nil (nx_then ?_)))))))))
  refine nx_cond_dec rfl (fun c31 => ?_) (fun c31 => ?_)
  obtain ⟨x, rest, hd, hx⟩ := drop_of_lt (xs := p.signals) (k := kb) (by omega)
  obtain ⟨xb, xo, xe, xk, xr, xf0, xf1, xf2, xf3⟩ := next_Signal at_.h3 hd
  cases xe
  have hlk : ((p.signals.take kb).map (·.name)).length = kb := by rw [List.length_map, List.length_take]; omega
  have hsn := map_snoc (·.name) hx
  refine nx_skip (nx_then (nx_seq (nx_block (nx_region (nv v_move (nv v_fieldAddr (nv v_load1_o (nv v_move (nv (v_indexAddr_nat rfl rfl rfl (by omega)) (nv v_fieldAddr (nv v_load1_s ?_)))))))))))
  refine nx_op rfl (op_buildSlice rfl rfl rfl rfl rfl (fun b41 => ?_))
  refine nx_op rfl (op_app (T := tStr) rfl rfl rfl ob (by repeat (first | exact Pull.here | apply Pull.cons | apply Pull.app)) (Src.row List.mem_cons_self (rows_Str [x.name]) rfl) (by simp; omega) (by simp [maxLen]; omega) (fun A42 c42 N42 o42 hc42 => ?_))
  refine nv v_assign (nx_nil (nx_in _ (nx_then (nx_region (nv v_move (nv v_add (nv v_assign (nx_nil (nx_then ?_)))))))))
  rw [← hsn] at o42
  have hlk2 : ((p.signals.take (kb + 1)).map (·.name)).length = kb + 1 := by rw [List.length_map, List.length_take]; omega
  simp only [← hsn, hlk2] at o42 ⊢
  exact nn (nextb (kb + 1, A42, c42, N42) ⟨(by dsimp only; omega), o42⟩ (by dsimp only; omega))
  obtain rfl : kb = n3 := by omega
  rw [List.take_of_length_le (by omega)] at ob
  refine nx_exit (nx_then_exit (nx_then_exit (nx_in_eq (nx_then (nx_seq (nx_seq (nx_region (nv v_assign (nx_nil (nx_then (nx_block ?_)))))))))))
  refine nx_loop_v (σ := Nat × Option Addr × Nat × List (Nat × Obj)) [0, 1, 2, 3, 4, 5, 6, 8, 9, 11, 12, 13, 14, 15, 27, 28, 29, 30, 31] (fun s => [(10, .int .i64 (s.1 : Int)), (7, .slice s.2.1 s.1 s.2.2.1)]) (fun _ => G) (fun s => s.2.2.2 ++ _) (fun s => s.1 ≤ n4 ∧ OwnS tStr 9 G ((p.lines.take s.1).map (·.name)) (.slice s.2.1 s.1 s.2.2.1) s.2.2.2) (fun s => n4 - s.1) (0, none, 0, []) (.cons rfl (.cons rfl (.cons rfl (.cons rfl (.cons rfl (.cons rfl (.cons rfl (.cons rfl (.cons rfl (.cons rfl (.cons rfl (.cons rfl (.cons rfl (.cons rfl (.cons rfl (.cons rfl (.cons rfl (.cons rfl (.cons rfl (.nil)))))))))))))))))))) ⟨rfl, rfl, trivial⟩ ⟨Nat.zero_le _, .nil rfl⟩ rfl rfl ?_
  rintro ⟨kd, Ad, cd, Nd⟩ ⟨hkd, od⟩ Kd nextd
  dsimp only at hkd od ⊢
  refine nx_seq (nx_seq (nx_region (nv v_move (nv v_fieldAddr (nv v_load1_o (nv v_len (nv v_lss (nx_nil (nx_then ?_)))))))))
  refine nx_cond_dec rfl (fun c47 => ?_) (fun c47 => ?_)
  obtain ⟨x, rest, hd, hx⟩ := drop_of_lt (xs := p.lines) (k := kd) (by omega)
  obtain ⟨xb, xo, xA1, xn1, xc1, xe, xk, xr, xf0, xf1, xat⟩ := next_Line at_.h4 hd
  cases xe
  have hlk : ((p.lines.take kd).map (·.name)).length = kd := by rw [List.length_map, List.length_take]; omega
  have hsn := map_snoc (·.name) hx
  refine nx_skip (nx_then (nx_seq (nx_block (nx_region (nv v_move (nv v_fieldAddr (nv v_load1_o (nv v_move (nv (v_indexAddr_nat rfl rfl rfl (by omega)) (nv v_fieldAddr (nv v_load1_s ?_)))))))))))
  refine nx_op rfl (op_buildSlice rfl rfl rfl rfl rfl (fun b57 => ?_))
  refine nx_op rfl (op_app (T := tStr) rfl rfl rfl od (by repeat (first | exact Pull.here | apply Pull.cons | apply Pull.app)) (Src.row List.mem_cons_self (rows_Str [x.name]) rfl) (by simp; omega) (by simp [maxLen]; omega) (fun A58 c58 N58 o58 hc58 => ?_))
  refine nv v_assign (nx_nil (nx_in _ (nx_then (nx_region (nv v_move (nv v_add (nv v_assign (nx_nil (nx_then ?_)))))))))
  rw [← hsn] at o58
  have hlk2 : ((p.lines.take (kd + 1)).map (·.name)).length = kd + 1 := by rw [List.length_map, List.length_take]; omega
  simp only [← hsn, hlk2] at o58 ⊢
  exact nn (nextd (kd + 1, A58, c58, N58) ⟨(by dsimp only; omega), o58⟩ (by dsimp only; omega))
  obtain rfl : kd = n4 := by omega
  rw [List.take_of_length_le (by omega)] at od
  refine nx_exit (nx_then_exit (nx_then_exit (nx_in_eq (nx_then (nx_seq (nx_region (nv v_move (nv v_move (nv v_move (nv v_assign (nv v_assign ?_)))))))))))
  refine nv v_assign (nx_nil (nx_then (nx_ret ?_)))
  refine nx_still oa (by repeat (first | exact Pull.here | apply Pull.cons | apply Pull.app)) (fun Ga Ba ca lea hva hsa => ?_)
  cases hva
  refine nx_still (ob.le lea) (by repeat (first | exact Pull.here | apply Pull.cons | apply Pull.app)) (fun Gb Bb cb leb hvb hsb => ?_)
  cases hvb
  refine nx_still (od.le (Gh.le.trans lea leb)) (by repeat (first | exact Pull.here | apply Pull.cons | apply Pull.app)) (fun Gc Bc cc lec hvc hsc => ?_)
  cases hvc
  exact nx_ret3 rfl (.tmp rfl) (.tmp rfl) (.tmp rfl) (rt (lea.trans (leb.trans lec)) ⟨_, _, _, _, _, _, _, _, _, rfl, hsa.le (leb.trans lec), hsb.le lec, hsc⟩)
def dupG {α : Type} [DecidableEq α] : List α → List α → Bool
  | _, [] => false
  | seen, x :: r => seen.any (fun y => decide (x = y)) || dupG (seen ++ [x]) r
theorem dup_yes {α : Type} [DecidableEq α] {l seen : List α} {x : α} {rest : List α} {b : Bool} (hI : dupG seen l = b) (hd : l = x :: rest) (h : seen.any (fun y => decide (x = y)) = true) : b = true := by
  subst hd; rw [← hI]; unfold dupG; rw [h]; rfl
theorem dup_no {α : Type} [DecidableEq α] {l seen : List α} {x : α} {rest : List α} {b : Bool} (hI : dupG seen l = b) (hd : l = x :: rest) (h : seen.any (fun y => decide (x = y)) = false) : dupG (seen ++ [x]) rest = b := by
  subst hd; rw [← hI]; conv => rhs; unfold dupG
  rw [h]; rfl
set_option maxRecDepth 20000 in
set_option maxHeartbeats 1000000 in
theorem rTwice_ok {G : Gh} {H : List (Nat × Obj)} {W : World} (hp : Hp G H W) {A : Option Addr} {n c : Nat} {l : List ByteArray} (hs : Sl tStr G A n c l) : Calls Tryz.prog 70 ⟨[.slice A n c]⟩ W (RetS G H (.bool (dupG [] l))) := by
  have hl := hs.length
  have hb := Nat.le_trans hs.cap hs.room
  refine enter Tryz.func70 rfl Tryz.ntmps70 (Nat.le_of_ble_eq_true rfl) hp (nx_seq (nx_region (nv v_assign (nx_nil (nx_then (nx_seq (nx_seq (nx_region (nv v_assign (nx_nil (nx_then ?_)))))))))))
  refine nx_block ?_
  refine nx_loop_v (σ := Nat) [0] (fun s => [(3, .int .i64 (s : Int))]) (fun s => G) (fun _ => _) (fun s => dupG (l.take s) (l.drop s) = dupG [] l) (fun s => n - s) 0 (.cons rfl (.nil)) ⟨rfl, trivial⟩ rfl rfl rfl ?_
  intro k hI K next
  refine nx_seq (nx_seq (nx_region (nv v_move (nv v_move (nv v_len (nv v_lss (nx_nil (nx_then ?_))))))))
  refine nx_cond_dec rfl (fun c8 => ?_) (fun c8 => ?_)
  obtain ⟨x, rest, hd, hx⟩ := drop_of_lt (xs := l) (k := k) (by omega)
  obtain ⟨xb, xo, xe, xk, xr, xf0⟩ := next_Str hs hd
  cases xe
  have htk : (l.take k).length = k := by rw [List.length_take]; omega
  refine nx_skip (nx_then (nx_seq (nx_block (nx_seq (nx_region (nv v_assign (nx_nil (nx_then (nx_block ?_)))))))))
  refine nx_loop_v (σ := Nat) [0, 3, 5, 6, 7, 8] (fun s => [(4, .int .i64 (s : Int))]) (fun s => G) (fun _ => _) (fun s => s ≤ k ∧ ((l.take k).drop s).any (fun y => decide (x = y)) = (l.take k).any (fun y => decide (x = y))) (fun s => k - s) 0 (.cons rfl (.cons rfl (.cons rfl (.cons rfl (.cons rfl (.cons rfl (.nil))))))) ⟨rfl, trivial⟩ ⟨Nat.zero_le _, rfl⟩ rfl rfl ?_
  rintro j ⟨hjk, hJ⟩ K2 next2
  refine nx_seq (nx_seq (nx_region (nv v_move (nv v_move (nv v_lss (nx_nil (nx_then ?_)))))))
  refine nx_cond_dec rfl (fun c13 => ?_) (fun c13 => ?_)
  obtain ⟨y, rest2, hd2, hy⟩ := drop_of_lt (xs := l.take k) (k := j) (by omega)
  have hy2 : l[j]? = some y := by rw [← hy, List.getElem?_take]; rw [if_pos (by omega)]
  obtain ⟨yb, yo, ye, yk, yf0⟩ := get_Str hs hy2
  cases ye
  rw [hd2] at hJ
  have hr2 : (l.take k).drop (j + 1) = rest2 := by rw [← List.tail_drop, hd2]; rfl
  refine nx_skip (nx_then (nx_seq (nx_block (nx_seq (dr_begin 9 (.q 0 (.q 1 (.q 2 (.q 3 (.q 4 (.q 5 (.q 6 (.q 7 (.q 8 .done))))))))) rfl (by kernel_rfl) (dr_q rfl rfl v_move ic (dr_q rfl rfl v_move ic (dr_q rfl rfl (v_indexAddr_nat rfl rfl rfl (by omega)) ic (dr_q rfl rfl v_load1_s ic (dr_q rfl rfl v_move ic (dr_q rfl rfl v_move ic ?_)))))))))))
  refine dr_q rfl rfl (v_indexAddr_nat rfl rfl rfl (by omega)) ic (dr_q rfl rfl v_load1_s ic (dr_q rfl rfl v_eql_str ic (dr_end rfl ?_)))
  refine nx_nil (nx_np ?_)
  refine nx_then ?_
  refine nx_cond_dec rfl (fun c24 => ?_) (fun c24 => ?_)
  refine nx_seq (nx_region (nv v_assign (nx_nil (nx_then (nx_ret (nx_in_ret (nx_then_ret (nx_then_ret (nx_in_ret (nx_in_ret (nx_then_ret ?_)))))))))))
  refine nx_then_ret (nx_in_ret (nx_then_ret ?_))
  exact nx_ret1 rfl (.tmp rfl) (rs (by (rw [dup_yes hI hd (by rw [← hJ]; simp [c24])]; done)))
  refine nx_skip (nx_in _ (nx_then (nx_region (nv v_move (nv v_add (nv v_assign (nx_nil (nx_then ?_))))))))
  exact nn (next2 (j + 1) ⟨(by omega), (by rw [hr2, ← hJ]; simp [c24])⟩ (by omega))
  have hno : (l.take k).any (fun y => decide (x = y)) = false := by rw [← hJ, List.drop_eq_nil_of_le (by omega)]; rfl
  have hnx := dup_no hI hd hno
  rw [← take_snoc hx] at hnx
  refine nx_exit (nx_then_exit (nx_then_exit (nx_in_eq (nx_in _ (nx_then (nx_region (nv v_move (nv v_add (nv v_assign (nx_nil (nx_then ?_)))))))))))
  exact nn (next (k + 1) (by rw [xr]; exact hnx) (by omega))
  refine nx_exit (nx_then_exit (nx_then_exit (nx_in_eq (nx_then (nx_seq (nx_region (nv v_assign (nx_nil (nx_then (nx_ret ?_))))))))))
  exact nx_ret1 rfl (.tmp rfl) (rs (by (rw [← hI, List.drop_eq_nil_of_le (by omega)]; rfl)))
end Go.Proofs.YtjckojnlapchoaaGreat
open Go Go.RowKit
namespace Go.Proofs.YtjckojnlapchoaaGreat
open Go.Proofs
set_option maxRecDepth 20000 in
set_option maxHeartbeats 1000000 in
theorem rArgs_ok {G : Gh} {H : List (Nat × Obj)} {W : World} (hp : Hp G H W) {A1 : Option Addr} {n1 c1 : Nat} {A2 : Option Addr} {n2 c2 : Nat} {A3 : Option Addr} {n3 c3 : Nat} {A4 : Option Addr} {n4 c4 : Nat} {p : Plan} (at_ : Plan.At G A1 n1 c1 A2 n2 c2 A3 n3 c3 A4 n4 c4 p) (fw : p.Few) : Calls Tryz.prog 69 ⟨[.agg ⟨[.slice A1 n1 c1, .slice A2 n2 c2, .slice A3 n3 c3, .slice A4 n4 c4, .int .i64 p.top, .int .i64 p.brake, .int .i64 p.margin, .int .i64 p.throw_, .bool p.hard]⟩]⟩ W (RetS G H (.bool (numbersOk p))) := by
  have l1 := at_.h1.length
  have l2 := at_.h2.length
  have l3 := at_.h3.length
  have l4 := at_.h4.length
  have r1 := Nat.le_trans at_.h1.cap at_.h1.room
  have r2 := Nat.le_trans at_.h2.cap at_.h2.room
  have r3 := Nat.le_trans at_.h3.cap at_.h3.room
  have r4 := Nat.le_trans at_.h4.cap at_.h4.room
  obtain ⟨_, _, _, _, w5, w6, w7⟩ := fw
  refine enter Tryz.func69 rfl Tryz.ntmps69 (Nat.le_of_ble_eq_true rfl) hp (nx_seq (nx_region ?_))
  refine nx_op rfl (op_box rfl rfl (fun b1 => ?_))
  refine nv v_assign (nx_nil (nx_then (nx_seq (nx_seq (nx_region (nv v_fieldAddr (nv v_load1_o ?_)))))))
  refine nx_op rfl (op_callS rfl rfl rfl (fun W hp => rWithin_ok hp _ _ _) ?_)
  refine nv v_not (nv v_move ?_)
  refine nx_guard (t := 11) rfl (fun g11 => ?_) (fun g11 => ?_)
  refine nk (k := nk (k := nk (k := nk (k := nv v_pick_t (nv v_move (nk (k := nk (k := nk (k := nk (k := nv v_pick_t (nv v_move ?_)))))))))))
  refine nk (k := nk (k := nk (k := nk (k := nv v_pick_t (nv v_move (nk (k := nk (k := nk (k := nk (k := nv v_pick_t (nx_nil ?_)))))))))))
  refine nx_then (nx_cond_t rfl ?_)
  have hno : numsOk p = false := by simp only [numsOk, Bool.and_eq_false_iff, decide_eq_false_iff_not, l1]; simp at *; omega
  refine nx_seq (nx_region (nv v_assign (nx_nil (nx_then (nx_ret (nx_then_ret ?_))))))
  exact nx_ret1 rfl (.tmp rfl) (rs (by (unfold numbersOk; rw [hno]; rfl)))
  refine nr v_fieldAddr (nr v_load1_o ?_)
  refine nx_op_run rfl rfl rfl (op_callS rfl rfl rfl (fun W hp => rWithin_ok hp _ _ _) ?_)
  refine nr v_not (nv v_pick_f (nv v_move ?_))
  refine nx_guard (t := 17) rfl (fun g17 => ?_) (fun g17 => ?_)
  refine nk (k := nk (k := nk (k := nk (k := nv v_pick_t (nv v_move (nk (k := nk (k := nk (k := nk (k := nv v_pick_t (nv v_move ?_)))))))))))
  refine nk (k := nk (k := nk (k := nk (k := nv v_pick_t (nx_nil (nx_then (nx_cond_t rfl ?_)))))))
  have hno : numsOk p = false := by simp only [numsOk, Bool.and_eq_false_iff, decide_eq_false_iff_not, l1]; simp at *; omega
  refine nx_seq (nx_region (nv v_assign (nx_nil (nx_then (nx_ret (nx_then_ret ?_))))))
  exact nx_ret1 rfl (.tmp rfl) (rs (by (unfold numbersOk; rw [hno]; rfl)))
  refine nr v_fieldAddr (nr v_load1_o ?_)
  refine nx_op_run rfl rfl rfl (op_callS rfl rfl rfl (fun W hp => rWithin_ok hp _ _ _) ?_)
  refine nr v_not (nv v_pick_f (nv v_move ?_))
  refine nx_guard (t := 23) rfl (fun g23 => ?_) (fun g23 => ?_)
  refine nk (k := nk (k := nk (k := nk (k := nv v_pick_t (nv v_move (nk (k := nk (k := nk (k := nk (k := nv v_pick_t (nx_nil ?_)))))))))))
  refine nx_then (nx_cond_t rfl ?_)
  have hno : numsOk p = false := by simp only [numsOk, Bool.and_eq_false_iff, decide_eq_false_iff_not, l1]; simp at *; omega
  refine nx_seq (nx_region (nv v_assign (nx_nil (nx_then (nx_ret (nx_then_ret ?_))))))
  exact nx_ret1 rfl (.tmp rfl) (rs (by (unfold numbersOk; rw [hno]; rfl)))
  refine nr v_fieldAddr (nr v_load1_o ?_)
  refine nx_op_run rfl rfl rfl (op_callS rfl rfl rfl (fun W hp => rWithin_ok hp _ _ _) ?_)
  refine nr v_not (nv v_pick_f (nv v_move ?_))
  refine nx_guard (t := 29) rfl (fun g29 => ?_) (fun g29 => ?_)
  refine nk (k := nk (k := nk (k := nk (k := nv v_pick_t (nx_nil (nx_then (nx_cond_t rfl ?_)))))))
  have hno : numsOk p = false := by simp only [numsOk, Bool.and_eq_false_iff, decide_eq_false_iff_not, l1]; simp at *; omega
  refine nx_seq (nx_region (nv v_assign (nx_nil (nx_then (nx_ret (nx_then_ret ?_))))))
  exact nx_ret1 rfl (.tmp rfl) (rs (by (unfold numbersOk; rw [hno]; rfl)))
  refine nr v_fieldAddr (nr v_load1_o (nr v_len (nr v_eql (nv v_pick_f (nx_nil (nx_then ?_))))))
  refine nx_cond_dec rfl (fun c34 => ?_) (fun c34 => ?_)
  have hno : numsOk p = false := by simp only [numsOk, Bool.and_eq_false_iff, decide_eq_false_iff_not, l1]; simp at *; omega
  refine nx_seq (nx_region (nv v_assign (nx_nil (nx_then (nx_ret (nx_then_ret ?_))))))
  exact nx_ret1 rfl (.tmp rfl) (rs (by (unfold numbersOk; rw [hno]; rfl)))
  have hnums : numsOk p = true := by simp only [numsOk, Bool.and_eq_true, decide_eq_true_eq, l1]; simp at *; omega
  refine nx_skip (nx_then (nx_seq (nx_seq (nx_region (nv v_assign (nx_nil (nx_then (nx_block ?_))))))))
  refine nx_loop_v (σ := Nat) [0, 1, 7, 8, 9, 10, 11, 12, 13, 14, 15, 16, 17, 18, 19, 20, 21, 22, 23, 24, 25, 26, 27, 28, 29, 30, 31, 32, 33, 34] (fun k => [(3, .int .i64 (k : Int))]) (fun _ => G) (fun _ => _) (fun k => (p.elems.drop k).all elemOk = p.elems.all elemOk) (fun k => n1 - k) 0 (.cons rfl (.cons rfl (.cons rfl (.cons rfl (.cons rfl (.cons rfl (.cons rfl (.cons rfl (.cons rfl (.cons rfl (.cons rfl (.cons rfl (.cons rfl (.cons rfl (.cons rfl (.cons rfl (.cons rfl (.cons rfl (.cons rfl (.cons rfl (.cons rfl (.cons rfl (.cons rfl (.cons rfl (.cons rfl (.cons rfl (.cons rfl (.cons rfl (.cons rfl (.cons rfl (.nil))))))))))))))))))))))))))))))) ⟨rfl, trivial⟩ rfl rfl rfl ?_
  intro k hI K next
  refine nx_seq (nx_seq (nx_region (nv v_move (nv v_fieldAddr (nv v_load1_o (nv v_len (nv v_lss (nx_nil (nx_then ?_)))))))))
  refine nx_cond_dec rfl (fun c39 => ?_) (fun c39 => ?_)
  obtain ⟨x, rest, hd, hx⟩ := drop_of_lt (xs := p.elems) (k := k) (by omega)
  obtain ⟨xb, xo, xe, xk, xr, xf0, xf1, xf2⟩ := next_Elem at_.h1 hd
  cases xe
  have hnl := w6 x (List.mem_of_getElem? hx)
  refine nx_skip (nx_then (nx_seq (nx_block (nx_seq (nx_region (nv v_fieldAddr (nv v_load1_o (nv v_move (nv (v_indexAddr_nat rfl rfl rfl (by omega)) (nv v_load_s ?_))))))))))
  refine nx_op rfl (op_alloc rfl (fun b4 => ?_))
  refine st (k := nx_nil (nx_then (nx_seq (nx_region (nv v_fieldAddr (nv v_load1_o ?_))))))
  refine nx_op rfl (op_callS rfl rfl rfl (fun W hp => rName_ok hp _ (by omega)) ?_)
  refine nv v_not (nv v_move ?_)
  refine nx_guard (t := 51) rfl (fun g51 => ?_) (fun g51 => ?_)
  refine nk (k := nk (k := nk (k := nk (k := nv v_pick_t (nv v_move (nk (k := nk (k := nk (k := nk (k := nu (k := nu (k := ?_))))))))))))
  refine nu (k := nk (k := nv v_pick_t (nv v_move (nk (k := nk (k := nk (k := nk (k := nu (k := nu (k := nu (k := nu (k := ?_))))))))))))
  refine nk (k := nv v_pick_t (nx_nil (nx_then (nx_cond_t rfl ?_))))
  have hno : elemOk x = false := by
    first
    | (simp_all [elemOk]; done)
    | (have : ¬ (1 ≤ x.length ∧ x.length ≤ 4000) := by simp at *; omega
       simp_all [elemOk]
       try omega)
  refine nx_seq (nx_region (nv v_assign (nx_nil (nx_then (nx_ret (nx_in_ret (nx_then_ret (nx_then_ret (nx_in_ret (nx_then_ret ?_))))))))))
  exact nx_ret1 rfl (.tmp rfl) (rs (by (unfold numbersOk; rw [all_no hI hd hno]; simp)))
  refine nr v_fieldAddr (nr v_load1_o ?_)
  refine nx_op_run rfl rfl rfl (op_callS rfl rfl rfl (fun W hp => rEnds_ok hp _) ?_)
  refine nr v_eql (nv v_pick_f (nv v_move ?_))
  refine nx_guard_dec (t := 57) rfl (fun g57 => ?_) (fun g57 => ?_)
  refine nk (k := nk (k := nk (k := nk (k := nu (k := nu (k := nu (k := nk (k := nv v_pick_t (nv v_move (nk (k := nk (k := ?_))))))))))))
  refine nk (k := nk (k := nu (k := nu (k := nu (k := nu (k := nk (k := nv v_pick_t (nx_nil (nx_then (nx_cond_t rfl ?_))))))))))
  have hno : elemOk x = false := by
    first
    | (simp_all [elemOk]; done)
    | (have : ¬ (1 ≤ x.length ∧ x.length ≤ 4000) := by simp at *; omega
       simp_all [elemOk]
       try omega)
  refine nx_seq (nx_region (nv v_assign (nx_nil (nx_then (nx_ret (nx_in_ret (nx_then_ret (nx_then_ret (nx_in_ret (nx_then_ret ?_))))))))))
  exact nx_ret1 rfl (.tmp rfl) (rs (by (unfold numbersOk; rw [all_no hI hd hno]; simp)))
  refine nr v_fieldAddr (nr v_load1_o (nr v_eql (nr v_move ?_)))
  refine nx_guard_dec (t := 61) rfl (fun g61 => ?_) (fun g61 => ?_)
  refine nr v_fieldAddr (nr v_load1_o (nr v_neq (nr v_pick_t (nv v_pick_f (nv v_move ?_)))))
  refine nx_guard_dec (t := 67) rfl (fun g67 => ?_) (fun g67 => ?_)
  refine nk (k := nk (k := nk (k := nk (k := nu (k := nu (k := nu (k := nu (k := nk (k := nv v_pick_t (nx_nil (nx_then ?_)))))))))))
  refine nx_cond_t rfl ?_
  have hno : elemOk x = false := by
    first
    | (simp_all [elemOk]; done)
    | (have : ¬ (1 ≤ x.length ∧ x.length ≤ 4000) := by simp at *; omega
       simp_all [elemOk]
       try omega)
  refine nx_seq (nx_region (nv v_assign (nx_nil (nx_then (nx_ret (nx_in_ret (nx_then_ret (nx_then_ret (nx_in_ret (nx_then_ret ?_))))))))))
  exact nx_ret1 rfl (.tmp rfl) (rs (by (unfold numbersOk; rw [all_no hI hd hno]; simp)))
  refine nr v_fieldAddr (nr v_load1_o (nr v_neq (nr v_move ?_)))
  refine nx_guard_dec (t := 71) rfl (fun g71 => ?_) (fun g71 => ?_)
  refine nr v_fieldAddr (nr v_load1_o ?_)
  refine nx_op_run rfl rfl rfl (op_callS rfl rfl rfl (fun W hp => rWithin_ok hp _ _ _) ?_)
  refine nr v_not (nr v_pick_t (nv v_pick_f (nx_nil (nx_then ?_))))
  refine nx_cond rfl (fun c77 => ?_) (fun c77 => ?_)
  have hno : elemOk x = false := by
    first
    | (simp_all [elemOk]; done)
    | (have : ¬ (1 ≤ x.length ∧ x.length ≤ 4000) := by simp at *; omega
       simp_all [elemOk]
       try omega)
  refine nx_seq (nx_region (nv v_assign (nx_nil (nx_then (nx_ret (nx_in_ret (nx_then_ret (nx_then_ret (nx_in_ret (nx_then_ret ?_))))))))))
  exact nx_ret1 rfl (.tmp rfl) (rs (by (unfold numbersOk; rw [all_no hI hd hno]; simp)))
  have hyes : elemOk x = true := by simp_all [elemOk]
  refine nx_skip (nx_in _ (nx_then (nx_region (nv v_move (nv v_add (nv v_assign (nx_nil (nx_then ?_))))))))
  exact nn (next (k + 1) (all_yes hI hd xr hyes) (by omega))
  refine nk (k := nk (k := nk (k := nk (k := nr v_pick_f (nv v_pick_f (nx_nil (nx_then (nx_cond_f rfl ?_))))))))
  have hyes : elemOk x = true := by simp_all [elemOk]
  refine nx_skip (nx_in _ (nx_then (nx_region (nv v_move (nv v_add (nv v_assign (nx_nil (nx_then ?_))))))))
  exact nn (next (k + 1) (all_yes hI hd xr hyes) (by omega))
  refine nk (k := nk (k := nk (k := nr v_pick_f (nv v_pick_f (nv v_move (nr v_fieldAddr (nr v_load1_o (nr v_neq (nr v_move ?_)))))))))
  refine nx_guard_dec (t := 71) rfl (fun g71 => ?_) (fun g71 => ?_)
  refine nr v_fieldAddr (nr v_load1_o ?_)
  refine nx_op_run rfl rfl rfl (op_callS rfl rfl rfl (fun W hp => rWithin_ok hp _ _ _) ?_)
  refine nr v_not (nr v_pick_t (nv v_pick_f (nx_nil (nx_then ?_))))
  refine nx_cond rfl (fun c77 => ?_) (fun c77 => ?_)
  have hno : elemOk x = false := by
    first
    | (simp_all [elemOk]; done)
    | (have : ¬ (1 ≤ x.length ∧ x.length ≤ 4000) := by simp at *; omega
       simp_all [elemOk]
       try omega)
  refine nx_seq (nx_region (nv v_assign (nx_nil (nx_then (nx_ret (nx_in_ret (nx_then_ret (nx_then_ret (nx_in_ret (nx_then_ret ?_))))))))))
  exact nx_ret1 rfl (.tmp rfl) (rs (by (unfold numbersOk; rw [all_no hI hd hno]; simp)))
  have hyes : elemOk x = true := by simp_all [elemOk]
  refine nx_skip (nx_in _ (nx_then (nx_region (nv v_move (nv v_add (nv v_assign (nx_nil (nx_then ?_))))))))
  exact nn (next (k + 1) (all_yes hI hd xr hyes) (by omega))
  refine nk (k := nk (k := nk (k := nk (k := nr v_pick_f (nv v_pick_f (nx_nil (nx_then (nx_cond_f rfl ?_))))))))
  have hyes : elemOk x = true := by simp_all [elemOk]
  refine nx_skip (nx_in _ (nx_then (nx_region (nv v_move (nv v_add (nv v_assign (nx_nil (nx_then ?_))))))))
  exact nn (next (k + 1) (all_yes hI hd xr hyes) (by omega))
  refine nx_exit (nx_then_exit (nx_then_exit (nx_in_eq (nx_then (nx_seq (nx_seq (nx_region (nv v_assign (nx_nil (nx_then (nx_block ?_)))))))))))
  have h1 := all_end hI (by omega)
  refine nx_loop_v (σ := Nat) [0, 1, 3, 7, 8, 9, 10, 11, 12, 13, 14, 15, 16, 17, 18, 19, 20, 21, 22, 23, 24, 25, 26, 27, 28, 29, 30, 31, 32, 33, 34, 35, 36, 37, 38, 39] (fun k => [(5, .int .i64 (k : Int))]) (fun _ => G) (fun _ => _) (fun k => (p.signals.drop k).all (fun s => nameOk s.name) = p.signals.all (fun s => nameOk s.name)) (fun k => n3 - k) 0 (.cons rfl (.cons rfl (.cons rfl (.cons rfl (.cons rfl (.cons rfl (.cons rfl (.cons rfl (.cons rfl (.cons rfl (.cons rfl (.cons rfl (.cons rfl (.cons rfl (.cons rfl (.cons rfl (.cons rfl (.cons rfl (.cons rfl (.cons rfl (.cons rfl (.cons rfl (.cons rfl (.cons rfl (.cons rfl (.cons rfl (.cons rfl (.cons rfl (.cons rfl (.cons rfl (.cons rfl (.cons rfl (.cons rfl (.cons rfl (.cons rfl (.cons rfl (.nil))))))))))))))))))))))))))))))))))))) ⟨rfl, trivial⟩ rfl rfl rfl ?_
  intro k hI K next
  refine nx_seq (nx_seq (nx_region (nv v_move (nv v_fieldAddr (nv v_load1_o (nv v_len (nv v_lss (nx_nil (nx_then ?_)))))))))
  refine nx_cond_dec rfl (fun c82 => ?_) (fun c82 => ?_)
  obtain ⟨x, rest, hd, hx⟩ := drop_of_lt (xs := p.signals) (k := k) (by omega)
  obtain ⟨xb, xo, xe, xk, xr, xf0, xf1, xf2, xf3⟩ := next_Signal at_.h3 hd
  cases xe
  have hnl := w7 x (List.mem_of_getElem? hx)
  refine nx_skip (nx_then (nx_seq (nx_block (nx_seq (nx_region (nv v_fieldAddr (nv v_load1_o (nv v_move (nv (v_indexAddr_nat rfl rfl rfl (by omega)) (nv v_fieldAddr (nv v_load1_s ?_)))))))))))
  refine nx_op rfl (op_callS rfl rfl rfl (fun W hp => rName_ok hp _ (by omega)) ?_)
  refine nv v_not (nx_nil (nx_then ?_))
  refine nx_cond rfl (fun c92 => ?_) (fun c92 => ?_)
  have hno : nameOk x.name = false := by simpa using c92
  refine nx_seq (nx_region (nv v_assign (nx_nil (nx_then (nx_ret (nx_in_ret (nx_then_ret (nx_then_ret (nx_in_ret (nx_then_ret ?_))))))))))
  exact nx_ret1 rfl (.tmp rfl) (rs (by (unfold numbersOk; rw [all_no hI hd hno]; simp)))
  refine nx_skip (nx_in _ (nx_then (nx_region (nv v_move (nv v_add (nv v_assign (nx_nil (nx_then ?_))))))))
  exact nn (next (k + 1) (all_yes hI hd xr (by simpa using c92)) (by omega))
  refine nx_exit (nx_then_exit (nx_then_exit (nx_in_eq (nx_then (nx_seq (nx_seq (nx_region (nv v_assign (nx_nil (nx_then (nx_block ?_)))))))))))
  have h2 := all_end hI (by omega)
  refine nx_loop_v (σ := Nat) [0, 1, 3, 5, 7, 8, 9, 10, 11, 12, 13, 14, 15, 16, 17, 18, 19, 20, 21, 22, 23, 24, 25, 26, 27, 28, 29, 30, 31, 32, 33, 34, 35, 36, 37, 38, 39, 78, 79, 80, 81, 82] (fun k => [(6, .int .i64 (k : Int))]) (fun _ => G) (fun _ => _) (fun k => (p.lines.drop k).all (fun s => nameOk s.name) = p.lines.all (fun s => nameOk s.name)) (fun k => n4 - k) 0 (.cons rfl (.cons rfl (.cons rfl (.cons rfl (.cons rfl (.cons rfl (.cons rfl (.cons rfl (.cons rfl (.cons rfl (.cons rfl (.cons rfl (.cons rfl (.cons rfl (.cons rfl (.cons rfl (.cons rfl (.cons rfl (.cons rfl (.cons rfl (.cons rfl (.cons rfl (.cons rfl (.cons rfl (.cons rfl (.cons rfl (.cons rfl (.cons rfl (.cons rfl (.cons rfl (.cons rfl (.cons rfl (.cons rfl (.cons rfl (.cons rfl (.cons rfl (.cons rfl (.cons rfl (.cons rfl (.cons rfl (.cons rfl (.cons rfl (.nil))))))))))))))))))))))))))))))))))))))))))) ⟨rfl, trivial⟩ rfl rfl rfl ?_
  intro k hI K next
  refine nx_seq (nx_seq (nx_region (nv v_move (nv v_fieldAddr (nv v_load1_o (nv v_len (nv v_lss (nx_nil (nx_then ?_)))))))))
  refine nx_cond_dec rfl (fun c97 => ?_) (fun c97 => ?_)
  obtain ⟨x, rest, hd, hx⟩ := drop_of_lt (xs := p.lines) (k := k) (by omega)
  obtain ⟨xb, xo, xA1, xn1, xc1, xe, xk, xr, xf0, xf1, xat⟩ := next_Line at_.h4 hd
  cases xe
  have hnl := (w5 x (List.mem_of_getElem? hx)).2
  refine nx_skip (nx_then (nx_seq (nx_block (nx_seq (nx_region (nv v_fieldAddr (nv v_load1_o (nv v_move (nv (v_indexAddr_nat rfl rfl rfl (by omega)) (nv v_fieldAddr (nv v_load1_s ?_)))))))))))
  refine nx_op rfl (op_callS rfl rfl rfl (fun W hp => rName_ok hp _ (by omega)) ?_)
  refine nv v_not (nx_nil (nx_then ?_))
  refine nx_cond rfl (fun c107 => ?_) (fun c107 => ?_)
  have hno : nameOk x.name = false := by simpa using c107
  refine nx_seq (nx_region (nv v_assign (nx_nil (nx_then (nx_ret (nx_in_ret (nx_then_ret (nx_then_ret (nx_in_ret (nx_then_ret ?_))))))))))
  exact nx_ret1 rfl (.tmp rfl) (rs (by (unfold numbersOk; rw [all_no hI hd hno]; simp)))
  refine nx_skip (nx_in _ (nx_then (nx_region (nv v_move (nv v_add (nv v_assign (nx_nil (nx_then ?_))))))))
  exact nn (next (k + 1) (all_yes hI hd xr (by simpa using c107)) (by omega))
  refine nx_exit (nx_then_exit (nx_then_exit (nx_in_eq (nx_then (nx_seq (nx_region (nv v_assign (nx_nil (nx_then (nx_ret ?_))))))))))
  exact nx_ret1 rfl (.tmp rfl) (rs (by (unfold numbersOk; rw [hnums, h1, h2, all_end hI (by omega)]; rfl)))
def jPorts (l : List Join) : List Port := l.flatMap (fun j => [j.a, j.b])
theorem jPorts_snoc {l : List Join} {k : Nat} {x : Join} (h : l[k]? = some x) : jPorts (l.take (k + 1)) = jPorts (l.take k) ++ [x.a, x.b] := by unfold jPorts; rw [take_snoc h]; simp
theorem jPorts_length (l : List Join) : (jPorts l).length = 2 * l.length := by
  induction l with
  | nil => rfl
  | cons j r ih => unfold jPorts at ih ⊢; simp at ih ⊢; omega
def freshOk (p : Plan) : List Port → List Port → Bool
  | _, [] => true
  | seen, x :: r => p.isPort x && (!(seen.any (fun y => decide (y = x))) && freshOk p (seen ++ [x]) r)
theorem fresh_no1 {p : Plan} {l seen : List Port} {x : Port} {rest : List Port} {b : Bool} (hI : freshOk p seen l = b) (hd : l = x :: rest) (h : p.isPort x = false) : b = false := by subst hd; rw [← hI]; unfold freshOk; rw [h]; rfl
theorem fresh_no2 {p : Plan} {l seen : List Port} {x : Port} {rest : List Port} {b : Bool} (hI : freshOk p seen l = b) (hd : l = x :: rest) (h : seen.any (fun y => decide (y = x)) = true) : b = false := by subst hd; rw [← hI]; unfold freshOk; rw [h]; simp
theorem fresh_yes {p : Plan} {l seen : List Port} {x : Port} {rest : List Port} {b : Bool} (hI : freshOk p seen l = b) (hd : l = x :: rest) (h1 : p.isPort x = true) (h : seen.any (fun y => decide (y = x)) = false) : freshOk p (seen ++ [x]) rest = b := by
  subst hd; rw [← hI]; conv => rhs; unfold freshOk
  rw [h, h1]; rfl
def gateJb (p : Plan) (i : Nat) (e : Elem) : Bool := decide (e.kind = 4) && (!(nextJ ⟨(i : Int), 0⟩ p.joins).isSome || decide (p.kind ((nextJ ⟨(i : Int), 0⟩ p.joins).getD ⟨0, 0⟩).elem = 4))
def gateJ (p : Plan) : List Elem → Nat → Bool
  | [], _ => true
  | e :: r, i => if gateJb p i e then false else gateJ p r (i + 1)
def rJoined (p : Plan) : Bool := freshOk p [] (jPorts p.joins) && gateJ p p.elems 0
set_option maxRecDepth 20000 in
set_option maxHeartbeats 1000000 in
theorem rJoined_ok {G : Gh} {H : List (Nat × Obj)} {W : World} (hp : Hp G H W) {A1 : Option Addr} {n1 c1 : Nat} {A2 : Option Addr} {n2 c2 : Nat} {A3 : Option Addr} {n3 c3 : Nat} {A4 : Option Addr} {n4 c4 : Nat} {p : Plan} (at_ : Plan.At G A1 n1 c1 A2 n2 c2 A3 n3 c3 A4 n4 c4 p) (fw : p.Few) : Calls Tryz.prog 71 ⟨[.agg ⟨[.slice A1 n1 c1, .slice A2 n2 c2, .slice A3 n3 c3, .slice A4 n4 c4, .int .i64 p.top, .int .i64 p.brake, .int .i64 p.margin, .int .i64 p.throw_, .bool p.hard]⟩]⟩ W (RetD G H (fun _ v => v = .bool (rJoined p))) := by
  have l1 := at_.h1.length
  have l2 := at_.h2.length
  have l3 := at_.h3.length
  have l4 := at_.h4.length
  have r1 := Nat.le_trans at_.h1.cap at_.h1.room
  have r2 := Nat.le_trans at_.h2.cap at_.h2.room
  have r3 := Nat.le_trans at_.h3.cap at_.h3.room
  have r4 := Nat.le_trans at_.h4.cap at_.h4.room
  obtain ⟨_, w2, _, _, _, _, _⟩ := fw
  refine enter Tryz.func71 rfl Tryz.ntmps71 (Nat.le_of_ble_eq_true rfl) hp (nx_seq (nx_region ?_))
  refine nx_op rfl (op_box rfl rfl (fun b1 => ?_))
  refine nv v_assign (nx_nil (nx_then (nx_seq (nx_region (nv v_assign (nx_nil (nx_then (nx_seq (nx_seq (nx_region (nv v_assign ?_)))))))))))
  refine nx_nil (nx_then (nx_block ?_))
  refine nx_loop_v (σ := Nat × Option Addr × Nat × List (Nat × Obj)) [0, 1, 2] (fun s => [(4, .int .i64 (s.1 : Int)), (3, .slice s.2.1 (2 * s.1) s.2.2.1)]) (fun _ => G) (fun s => s.2.2.2 ++ _) (fun s => s.1 ≤ n2 ∧ OwnS tPort 71 G (jPorts (p.joins.take s.1)) (.slice s.2.1 (2 * s.1) s.2.2.1) s.2.2.2) (fun s => n2 - s.1) (0, none, 0, []) (.cons rfl (.cons rfl (.cons rfl (.nil)))) ⟨rfl, rfl, trivial⟩ ⟨Nat.zero_le _, .nil rfl⟩ rfl rfl ?_
  rintro ⟨ka, Aa, ca, Na⟩ ⟨hka, oa⟩ Ka nexta
  dsimp only at hka oa ⊢
  refine nx_seq (nx_seq (nx_region (nv v_move (nv v_fieldAddr (nv v_load1_o (nv v_len (nv v_lss (nx_nil (nx_then ?_)))))))))
  refine nx_cond_dec rfl (fun c14 => ?_) (fun c14 => ?_)
  obtain ⟨x, rest, hd, hx⟩ := drop_of_lt (xs := p.joins) (k := ka) (by omega)
  obtain ⟨xb, xo, xe, xk, xr, xf0, xf1, xf2, xf3⟩ := next_Join at_.h2 hd
  cases xe
  have hlk : (jPorts (p.joins.take ka)).length = 2 * ka := by rw [jPorts_length, List.length_take]; omega
  have hsn := jPorts_snoc hx
  refine nx_skip (nx_then (nx_seq (nx_block (dr_begin 14 (.q 0 (.q 1 (.q 2 (.q 3 (.q 4 (.q 5 (.q 6 (.q 7 (.q 8 (.q 9 (.q 10 (.q 11 (.q 12 (.l 13 .done)))))))))))))) rfl (by kernel_rfl) (dr_q rfl rfl v_move ic (dr_q rfl rfl v_fieldAddr ic (dr_q rfl rfl v_load1_o ic (dr_q rfl rfl v_move ic (dr_q rfl rfl (v_indexAddr_nat rfl rfl rfl (by omega)) ic (dr_q rfl rfl v_fieldAddr ic (dr_q rfl rfl v_load_s ic ?_)))))))))))
  refine dr_q rfl rfl v_fieldAddr ic (dr_q rfl rfl v_load1_o ic (dr_q rfl rfl v_move ic (dr_q rfl rfl (v_indexAddr_nat rfl rfl rfl (by omega)) ic (dr_q rfl rfl v_fieldAddr ic (dr_q rfl rfl v_load_s ic (dr_l rfl rfl ?_))))))
  refine op_buildSlice rfl rfl rfl rfl rfl (fun b30 => ?_)
  refine dr_k (ic.cons _) (dr_end rfl ?_)
  refine nx_op rfl (op_app (T := tPort) rfl rfl rfl oa (by repeat (first | exact Pull.here | apply Pull.cons | apply Pull.app)) (Src.row List.mem_cons_self (rows_Port [x.a, x.b]) rfl) (by simp; omega) (by simp [maxLen]; omega) (fun A31 c31 N31 o31 hc31 => ?_))
  refine nv v_assign ?_
  refine nx_nil (nx_np ?_)
  refine nx_in _ (nx_then (nx_region (nv v_move (nv v_add (nv v_assign (nx_nil (nx_then ?_)))))))
  rw [← hsn] at o31
  have hlk2 : (jPorts (p.joins.take (ka + 1))).length = 2 * (ka + 1) := by rw [jPorts_length, List.length_take]; omega
  simp only [← hsn, hlk2] at o31 ⊢
  exact nn (nexta (ka + 1, A31, c31, N31) ⟨(by dsimp only; omega), o31⟩ (by dsimp only; omega))
  obtain rfl : ka = n2 := by omega
  rw [List.take_of_length_le (by omega)] at oa
  refine nx_still oa (by repeat (first | exact Pull.here | apply Pull.cons | apply Pull.app)) (fun Ga Ba d8 lea hva hs => ?_)
  have hlp : (jPorts p.joins).length = 2 * ka := by rw [jPorts_length, l2]
  rw [hlp] at hva hs
  cases hva
  have hb := Nat.le_trans hs.cap hs.room
  refine nx_exit (nx_then_exit (nx_then_exit (nx_in_eq (nx_then (nx_seq (nx_seq (nx_region (nv v_assign (nx_nil (nx_then (nx_block ?_)))))))))))
  refine nx_loop_v (σ := Nat) [0, 1, 3, 4, 10, 11, 12, 13, 14] (fun s => [(5, .int .i64 (s : Int))]) (fun s => Ga) (fun _ => _) (fun s => freshOk p ((jPorts p.joins).take s) ((jPorts p.joins).drop s) = freshOk p [] (jPorts p.joins)) (fun s => 2 * p.joins.length - s) 0 (.cons rfl (.cons rfl (.cons rfl (.cons rfl (.cons rfl (.cons rfl (.cons rfl (.cons rfl (.cons rfl (.nil)))))))))) ⟨rfl, trivial⟩ rfl rfl rfl ?_
  intro k hI K next
  refine nx_seq (nx_seq (nx_region (nv v_move (nv v_move (nv v_len (nv v_lss (nx_nil (nx_then ?_))))))))
  refine nx_cond_dec rfl (fun c35 => ?_) (fun c35 => ?_)
  obtain ⟨x, rest, hd, hx⟩ := drop_of_lt (xs := jPorts p.joins) (k := k) (by omega)
  obtain ⟨xb, xo, xe, xk, xr, xf0, xf1⟩ := next_Port hs hd
  cases xe
  have htk : ((jPorts p.joins).take k).length = k := by rw [List.length_take]; omega
  refine nx_skip (nx_then (nx_seq (nx_block (nx_seq (nx_seq (dr_begin 7 (.q 0 (.q 1 (.q 2 (.q 3 (.q 4 (.l 5 (.q 6 .done))))))) rfl (by kernel_rfl) (dr_q rfl rfl v_load_o ic (dr_q rfl rfl v_move ic (dr_q rfl rfl v_move ic (dr_q rfl rfl (v_indexAddr_nat rfl rfl rfl (by omega)) ic (dr_q rfl rfl v_load_s ic ?_)))))))))))
  refine dr_l rfl rfl ?_
  refine op_callS rfl rfl rfl (fun W hp => rHas_ok hp (at_.le lea) x) ?_
  refine dr_k ic (dr_q rfl rfl v_not ic (dr_end rfl ?_))
  refine nx_nil (nx_np ?_)
  refine nx_then ?_
  refine nx_cond rfl (fun c44 => ?_) (fun c44 => ?_)
  have hno : rJoined p = false := by unfold rJoined; rw [fresh_no1 hI hd (by simpa using c44)]; rfl
  refine nx_seq (nx_region (nv v_assign (nx_nil (nx_then (nx_ret (nx_then_ret (nx_in_ret (nx_then_ret (nx_then_ret (nx_in_ret (nx_then_ret ?_)))))))))))
  exact nx_ret1 rfl (.tmp rfl) (rt (lea) (by (rw [hno]; done)))
  refine nx_skip (nx_then (nx_seq (nx_region (nv v_assign (nx_nil (nx_then (nx_block ?_)))))))
  refine nx_loop_v (σ := Nat) [0, 1, 3, 4, 5, 10, 11, 12, 13, 14, 32, 33, 34, 35, 38, 39, 40, 41, 42, 43, 44] (fun s => [(6, .int .i64 (s : Int))]) (fun s => Ga) (fun _ => _) (fun s => s ≤ k ∧ (((jPorts p.joins).take k).drop s).any (fun y => decide (y = x)) = ((jPorts p.joins).take k).any (fun y => decide (y = x))) (fun s => k - s) 0 (.cons rfl (.cons rfl (.cons rfl (.cons rfl (.cons rfl (.cons rfl (.cons rfl (.cons rfl (.cons rfl (.cons rfl (.cons rfl (.cons rfl (.cons rfl (.cons rfl (.cons rfl (.cons rfl (.cons rfl (.cons rfl (.cons rfl (.cons rfl (.cons rfl (.nil)))))))))))))))))))))) ⟨rfl, trivial⟩ ⟨Nat.zero_le _, rfl⟩ rfl rfl ?_
  rintro j ⟨hjk, hJ⟩ K2 next2
  refine nx_seq (nx_seq (nx_region (nv v_move (nv v_move (nv v_lss (nx_nil (nx_then ?_)))))))
  refine nx_cond_dec rfl (fun c47 => ?_) (fun c47 => ?_)
  obtain ⟨y, rest2, hd2, hy⟩ := drop_of_lt (xs := (jPorts p.joins).take k) (k := j) (by omega)
  have hy2 : (jPorts p.joins)[j]? = some y := by rw [← hy, List.getElem?_take]; rw [if_pos (by omega)]
  obtain ⟨yb, yo, ye, yk, yf0, yf1⟩ := get_Port hs hy2
  cases ye
  rw [hd2] at hJ
  have hr2 : ((jPorts p.joins).take k).drop (j + 1) = rest2 := by rw [← List.tail_drop, hd2]; rfl
  refine nx_skip (nx_then (nx_seq (nx_block (nx_seq (dr_begin 9 (.q 0 (.q 1 (.q 2 (.q 3 (.q 4 (.q 5 (.q 6 (.q 7 (.q 8 .done))))))))) rfl (by kernel_rfl) (dr_q rfl rfl v_move ic (dr_q rfl rfl v_move ic (dr_q rfl rfl (v_indexAddr_nat rfl rfl rfl (by omega)) ic (dr_q rfl rfl v_load_s ic (dr_q rfl rfl v_move ic (dr_q rfl rfl v_move ic ?_)))))))))))
  refine dr_q rfl rfl (v_indexAddr_nat rfl rfl rfl (by omega)) ic (dr_q rfl rfl v_load_s ic (dr_q rfl rfl (v_eql_T Port.cells y x rfl rfl rfl) ic (dr_end rfl ?_)))
  refine nx_nil (nx_np ?_)
  refine nx_then ?_
  refine nx_cond_dec rfl (fun c58 => ?_) (fun c58 => ?_)
  have hno : rJoined p = false := by unfold rJoined; rw [fresh_no2 hI hd (by rw [← hJ]; simp [c58])]; rfl
  refine nx_seq (nx_region (nv v_assign (nx_nil (nx_then (nx_ret (nx_in_ret (nx_then_ret (nx_then_ret (nx_in_ret (nx_in_ret (nx_then_ret ?_)))))))))))
  refine nx_then_ret (nx_in_ret (nx_then_ret ?_))
  exact nx_ret1 rfl (.tmp rfl) (rt (lea) (by (rw [hno]; done)))
  refine nx_skip (nx_in _ (nx_then (nx_region (nv v_move (nv v_add (nv v_assign (nx_nil (nx_then ?_))))))))
  exact nn (next2 (j + 1) ⟨(by omega), (by rw [hr2, ← hJ]; simp [c58])⟩ (by omega))
  have hno2 : ((jPorts p.joins).take k).any (fun y => decide (y = x)) = false := by rw [← hJ, List.drop_eq_nil_of_le (by omega)]; rfl
  have hnx := fresh_yes hI hd (by simpa using c44) hno2
  rw [← take_snoc hx] at hnx
  refine nx_exit (nx_then_exit (nx_then_exit (nx_in_eq (nx_in _ (nx_then (nx_region (nv v_move (nv v_add (nv v_assign (nx_nil (nx_then ?_)))))))))))
  exact nn (next (k + 1) (by rw [xr]; exact hnx) (by omega))
  refine nx_exit (nx_then_exit (nx_then_exit (nx_in_eq (nx_then (nx_seq (nx_seq (nx_region (nv v_assign (nx_nil (nx_then (nx_block ?_)))))))))))
  have hf : freshOk p [] (jPorts p.joins) = true := by rw [← hI, List.drop_eq_nil_of_le (by omega)]; rfl
  refine nx_loop_v (σ := Nat) [0, 1, 3, 4, 5, 10, 11, 12, 13, 14, 32, 33, 34, 35] (fun s => [(7, .int .i64 (s : Int))]) (fun s => Ga) (fun _ => _) (fun s => gateJ p (p.elems.drop s) s = gateJ p p.elems 0) (fun s => n1 - s) 0 (.cons rfl (.cons rfl (.cons rfl (.cons rfl (.cons rfl (.cons rfl (.cons rfl (.cons rfl (.cons rfl (.cons rfl (.cons rfl (.cons rfl (.cons rfl (.cons rfl (.nil))))))))))))))) ⟨rfl, trivial⟩ rfl rfl rfl ?_
  intro k hI K next
  refine nx_seq (nx_seq (nx_region (nv v_move (nv v_fieldAddr (nv v_load1_o (nv v_len (nv v_lss (nx_nil (nx_then ?_)))))))))
  refine nx_cond_dec rfl (fun c63 => ?_) (fun c63 => ?_)
  obtain ⟨x, rest, hd, hx⟩ := drop_of_lt (xs := p.elems) (k := k) (by omega)
  obtain ⟨xb, xo, xe, xk, xr, xf0, xf1, xf2⟩ := next_Elem (at_.h1.le lea) hd
  cases xe
  rw [hd] at hI
  refine nx_skip (nx_then (nx_seq (nx_block (nx_seq (nx_region (nv v_fieldAddr (nv v_load1_o (nv v_move (nv (v_indexAddr_nat rfl rfl rfl (by omega)) (nv v_fieldAddr (nv v_load1_s ?_)))))))))))
  refine nv v_eql (nx_nil (nx_then ?_))
  refine nx_cond_dec rfl (fun c72 => ?_) (fun c72 => ?_)
  refine nx_seq (nx_region (nv v_load_o (nv v_move (nv (v_build rfl rfl rfl) ?_))))
  refine nx_op rfl (op_callS rfl rfl rfl (fun W hp => rNext_ok hp (at_.le lea) ⟨(k : Int), 0⟩) ?_)
  refine nv v_move (nv (v_extract rfl rfl rfl) (nv (v_extract rfl rfl rfl) ?_))
  refine nx_op rfl (op_alloc rfl (fun b8 => ?_))
  refine st (k := nv v_assign (nx_nil (nx_then (nx_seq (nx_region (nv v_move (nv v_not (nv v_move ?_))))))))
  refine nx_guard (t := 82) rfl (fun g82 => ?_) (fun g82 => ?_)
  refine nk (k := nk (k := nk (k := nk (k := nk (k := nv v_pick_t (nx_nil (nx_then (nx_cond_t rfl ?_))))))))
  have hbad : gateJb p k x = true := by simp_all [gateJb]
  have hno : rJoined p = false := by unfold rJoined; rw [hf, ← hI]; simp only [gateJ]; rw [hbad]; rfl
  refine nx_seq (nx_region (nv v_assign (nx_nil (nx_then (nx_ret (nx_in_ret (nx_then_ret (nx_then_ret (nx_in_ret (nx_then_ret ?_))))))))))
  exact nx_ret1 rfl (.tmp rfl) (rt (lea) (by (rw [hno]; done)))
  refine nr v_load_o (nr v_fieldAddr (nr v_load1_o ?_))
  refine nx_op_run rfl rfl rfl (op_callS rfl rfl rfl (fun W hp => rKind_ok hp (at_.le lea) _) ?_)
  refine nr v_eql (nv v_pick_f (nx_nil (nx_then ?_)))
  refine nx_cond_dec rfl (fun c88 => ?_) (fun c88 => ?_)
  have hbad : gateJb p k x = true := by simp_all [gateJb]
  have hno : rJoined p = false := by unfold rJoined; rw [hf, ← hI]; simp only [gateJ]; rw [hbad]; rfl
  refine nx_seq (nx_region (nv v_assign (nx_nil (nx_then (nx_ret (nx_in_ret (nx_then_ret (nx_then_ret (nx_in_ret (nx_then_ret ?_))))))))))
  exact nx_ret1 rfl (.tmp rfl) (rt (lea) (by (rw [hno]; done)))
  have hok : gateJb p k x = false := by simp_all [gateJb]
  refine nx_skip (nx_in _ (nx_then (nx_region (nv v_move (nv v_add (nv v_assign (nx_nil (nx_then ?_))))))))
  exact nn (next (k + 1) (by rw [xr, ← hI]; simp only [gateJ]; rw [hok]; rfl) (by omega))
  have hok : gateJb p k x = false := by simp_all [gateJb]
  refine nx_skip (nx_in _ (nx_then (nx_region (nv v_move (nv v_add (nv v_assign (nx_nil (nx_then ?_))))))))
  exact nn (next (k + 1) (by rw [xr, ← hI]; simp only [gateJ]; rw [hok]; rfl) (by omega))
  refine nx_exit (nx_then_exit (nx_then_exit (nx_in_eq (nx_then (nx_seq (nx_region (nv v_assign (nx_nil (nx_then (nx_ret ?_))))))))))
  exact nx_ret1 rfl (.tmp rfl) (rt (lea) (by (unfold rJoined; rw [hf, ← hI, List.drop_eq_nil_of_le (by omega)]; rfl)))
def sigR (p : Plan) (i : Nat) (s : Signal) : Bool := !p.isPort s.at_ || (decide (¬ p.kind s.at_.elem = 1) && decide (¬ p.kind s.at_.elem = 4)) || !(nextJ s.at_ p.joins).isSome || decide (p.kind ((nextJ s.at_ p.joins).getD ⟨0, 0⟩).elem = 4) || decide (¬ readsL p s.at_ = i)
def sigRF (p : Plan) : List Signal → Nat → Bool
  | [], _ => true
  | s :: r, i => if sigR p i s then false else sigRF p r (i + 1)
def gateR (p : Plan) : List Elem → Nat → Bool
  | [], _ => true
  | e :: r, i => if decide (e.kind = 4) && decide (readsL p ⟨(i : Int), 0⟩ < 0) then false else gateR p r (i + 1)
def rSignals (p : Plan) : Bool := sigRF p p.signals 0 && gateR p p.elems 0
set_option maxRecDepth 20000 in
set_option maxHeartbeats 1000000 in
theorem rSignals_ok {G : Gh} {H : List (Nat × Obj)} {W : World} (hp : Hp G H W) {A1 : Option Addr} {n1 c1 : Nat} {A2 : Option Addr} {n2 c2 : Nat} {A3 : Option Addr} {n3 c3 : Nat} {A4 : Option Addr} {n4 c4 : Nat} {p : Plan} (at_ : Plan.At G A1 n1 c1 A2 n2 c2 A3 n3 c3 A4 n4 c4 p) : Calls Tryz.prog 72 ⟨[.agg ⟨[.slice A1 n1 c1, .slice A2 n2 c2, .slice A3 n3 c3, .slice A4 n4 c4, .int .i64 p.top, .int .i64 p.brake, .int .i64 p.margin, .int .i64 p.throw_, .bool p.hard]⟩]⟩ W (RetS G H (.bool (rSignals p))) := by
  have l1 := at_.h1.length
  have l2 := at_.h2.length
  have l3 := at_.h3.length
  have l4 := at_.h4.length
  have r1 := Nat.le_trans at_.h1.cap at_.h1.room
  have r2 := Nat.le_trans at_.h2.cap at_.h2.room
  have r3 := Nat.le_trans at_.h3.cap at_.h3.room
  have r4 := Nat.le_trans at_.h4.cap at_.h4.room
  refine enter Tryz.func72 rfl Tryz.ntmps72 (Nat.le_of_ble_eq_true rfl) hp (nx_seq (nx_region ?_))
  refine nx_op rfl (op_box rfl rfl (fun b1 => ?_))
  refine nv v_assign (nx_nil (nx_then (nx_seq (nx_seq (nx_region (nv v_assign (nx_nil (nx_then (nx_block ?_)))))))))
  refine nx_loop_v (σ := Nat) [0, 1] (fun s => [(3, .int .i64 (s : Int))]) (fun s => G) (fun _ => _) (fun s => sigRF p (p.signals.drop s) s = sigRF p p.signals 0) (fun s => n3 - s) 0 (.cons rfl (.cons rfl (.nil))) ⟨rfl, trivial⟩ rfl rfl rfl ?_
  intro k hI K next
  refine nx_seq (nx_seq (nx_region (nv v_move (nv v_fieldAddr (nv v_load1_o (nv v_len (nv v_lss (nx_nil (nx_then ?_)))))))))
  refine nx_cond_dec rfl (fun c13 => ?_) (fun c13 => ?_)
  obtain ⟨x, rest, hd, hx⟩ := drop_of_lt (xs := p.signals) (k := k) (by omega)
  obtain ⟨xb, xo, xe, xk, xr, xf0, xf1, xf2, xf3⟩ := next_Signal at_.h3 hd
  cases xe
  rw [hd] at hI
  refine nx_skip (nx_then (nx_seq (nx_block (nx_seq (nx_region (nv v_fieldAddr (nv v_load1_o (nv v_move (nv (v_indexAddr_nat rfl rfl rfl (by omega)) (nv v_fieldAddr (nv v_load_s ?_)))))))))))
  refine nx_op rfl (op_alloc rfl (fun b4 => ?_))
  refine st (k := nx_nil (nx_then (nx_seq (nx_region (nv v_load_o (nv v_fieldAddr (nv v_load1_o ?_)))))))
  refine nx_op rfl (op_callS rfl rfl rfl (fun W hp => rKind_ok hp at_ _) ?_)
  refine nv v_assign (nx_nil (nx_then (nx_seq (nx_seq (nx_region (nv v_load_o (nv v_load_o ?_)))))))
  refine nx_op rfl (op_callS rfl rfl rfl (fun W hp => rHas_ok hp at_ x.at_) ?_)
  refine nv v_not (nv v_move ?_)
  refine nx_guard (t := 30) rfl (fun g30 => ?_) (fun g30 => ?_)
  refine nk (k := nk (k := nk (k := nu (k := nu (k := nk (k := nv v_pick_t (nx_nil (nx_then (nx_cond_t rfl ?_)))))))))
  have hbad : sigR p k x = true := by simp_all [sigR]
  have hno : rSignals p = false := by unfold rSignals; rw [← hI]; simp only [sigRF]; rw [hbad]; rfl
  refine nx_seq (nx_region (nv v_assign (nx_nil (nx_then (nx_ret (nx_then_ret (nx_in_ret (nx_then_ret (nx_then_ret (nx_in_ret (nx_then_ret ?_)))))))))))
  exact nx_ret1 rfl (.tmp rfl) (rs (by (rw [hno]; done)))
  refine nr v_move (nr v_neq (nr v_move ?_))
  refine nx_guard_dec (t := 33) rfl (fun g33 => ?_) (fun g33 => ?_)
  refine nr v_move (nr v_neq (nr v_pick_t (nv v_pick_f (nx_nil (nx_then ?_)))))
  refine nx_cond_dec rfl (fun c37 => ?_) (fun c37 => ?_)
  have hbad : sigR p k x = true := by simp_all [sigR]
  have hno : rSignals p = false := by unfold rSignals; rw [← hI]; simp only [sigRF]; rw [hbad]; rfl
  refine nx_seq (nx_region (nv v_assign (nx_nil (nx_then (nx_ret (nx_then_ret (nx_in_ret (nx_then_ret (nx_then_ret (nx_in_ret (nx_then_ret ?_)))))))))))
  exact nx_ret1 rfl (.tmp rfl) (rs (by (rw [hno]; done)))
  refine nx_skip (nx_then (nx_seq (nx_region (nv v_load_o (nv v_load_o ?_)))))
  refine nx_op rfl (op_callS rfl rfl rfl (fun W hp => rNext_ok hp at_ x.at_) ?_)
  refine nv v_move (nv (v_extract rfl rfl rfl) (nv (v_extract rfl rfl rfl) ?_))
  refine nx_op rfl (op_alloc rfl (fun b6 => ?_))
  refine st (k := nv v_assign (nx_nil (nx_then (nx_seq (nx_region (nv v_move (nv v_not (nv v_move ?_))))))))
  refine nx_guard (t := 46) rfl (fun g46 => ?_) (fun g46 => ?_)
  refine nk (k := nk (k := nk (k := nk (k := nk (k := nv v_pick_t (nv v_move (nk (k := nk (k := nk (k := nk (k := nk (k := ?_))))))))))))
  refine nv v_pick_t (nx_nil (nx_then (nx_cond_t rfl ?_)))
  have hbad : sigR p k x = true := by simp_all [sigR]
  have hno : rSignals p = false := by unfold rSignals; rw [← hI]; simp only [sigRF]; rw [hbad]; rfl
  refine nx_seq (nx_region (nv v_assign (nx_nil (nx_then (nx_ret (nx_in_ret (nx_then_ret (nx_then_ret (nx_in_ret (nx_then_ret ?_))))))))))
  exact nx_ret1 rfl (.tmp rfl) (rs (by (rw [hno]; done)))
  refine nr v_load_o (nr v_fieldAddr (nr v_load1_o ?_))
  refine nx_op_run rfl rfl rfl (op_callS rfl rfl rfl (fun W hp => rKind_ok hp at_ _) ?_)
  refine nr v_eql (nv v_pick_f (nv v_move ?_))
  refine nx_guard_dec (t := 53) rfl (fun g53 => ?_) (fun g53 => ?_)
  refine nk (k := nk (k := nk (k := nk (k := nk (k := nv v_pick_t (nx_nil (nx_then (nx_cond_t rfl ?_))))))))
  have hbad : sigR p k x = true := by simp_all [sigR]
  have hno : rSignals p = false := by unfold rSignals; rw [← hI]; simp only [sigRF]; rw [hbad]; rfl
  refine nx_seq (nx_region (nv v_assign (nx_nil (nx_then (nx_ret (nx_in_ret (nx_then_ret (nx_then_ret (nx_in_ret (nx_then_ret ?_))))))))))
  exact nx_ret1 rfl (.tmp rfl) (rs (by (rw [hno]; done)))
  refine nr v_load_o (nr v_load_o ?_)
  refine nx_op_run rfl rfl rfl (op_callS rfl rfl rfl (fun W hp => rReads_ok hp at_ x.at_) ?_)
  refine nr v_move (nr v_neq (nv v_pick_f (nx_nil (nx_then ?_))))
  refine nx_cond_dec rfl (fun c59 => ?_) (fun c59 => ?_)
  have hbad : sigR p k x = true := by simp_all [sigR]
  have hno : rSignals p = false := by unfold rSignals; rw [← hI]; simp only [sigRF]; rw [hbad]; rfl
  refine nx_seq (nx_region (nv v_assign (nx_nil (nx_then (nx_ret (nx_in_ret (nx_then_ret (nx_then_ret (nx_in_ret (nx_then_ret ?_))))))))))
  exact nx_ret1 rfl (.tmp rfl) (rs (by (rw [hno]; done)))
  have hok : sigR p k x = false := by simp_all [sigR]
  refine nx_skip (nx_in _ (nx_then (nx_region (nv v_move (nv v_add (nv v_assign (nx_nil (nx_then ?_))))))))
  exact nn (next (k + 1) (by rw [xr, ← hI]; simp only [sigRF]; rw [hok]; rfl) (by omega))
  refine nk (k := nk (k := nr v_pick_f (nv v_pick_f (nx_nil (nx_then (nx_cond_f rfl (nx_skip (nx_then (nx_seq (nx_region (nv v_load_o ?_)))))))))))
  refine nv v_load_o ?_
  refine nx_op rfl (op_callS rfl rfl rfl (fun W hp => rNext_ok hp at_ x.at_) ?_)
  refine nv v_move (nv (v_extract rfl rfl rfl) (nv (v_extract rfl rfl rfl) ?_))
  refine nx_op rfl (op_alloc rfl (fun b6 => ?_))
  refine st (k := nv v_assign (nx_nil (nx_then (nx_seq (nx_region (nv v_move (nv v_not (nv v_move ?_))))))))
  refine nx_guard (t := 46) rfl (fun g46 => ?_) (fun g46 => ?_)
  refine nk (k := nk (k := nk (k := nk (k := nk (k := nv v_pick_t (nv v_move (nk (k := nk (k := nk (k := nk (k := nk (k := ?_))))))))))))
  refine nv v_pick_t (nx_nil (nx_then (nx_cond_t rfl ?_)))
  have hbad : sigR p k x = true := by simp_all [sigR]
  have hno : rSignals p = false := by unfold rSignals; rw [← hI]; simp only [sigRF]; rw [hbad]; rfl
  refine nx_seq (nx_region (nv v_assign (nx_nil (nx_then (nx_ret (nx_in_ret (nx_then_ret (nx_then_ret (nx_in_ret (nx_then_ret ?_))))))))))
  exact nx_ret1 rfl (.tmp rfl) (rs (by (rw [hno]; done)))
  refine nr v_load_o (nr v_fieldAddr (nr v_load1_o ?_))
  refine nx_op_run rfl rfl rfl (op_callS rfl rfl rfl (fun W hp => rKind_ok hp at_ _) ?_)
  refine nr v_eql (nv v_pick_f (nv v_move ?_))
  refine nx_guard_dec (t := 53) rfl (fun g53 => ?_) (fun g53 => ?_)
  refine nk (k := nk (k := nk (k := nk (k := nk (k := nv v_pick_t (nx_nil (nx_then (nx_cond_t rfl ?_))))))))
  have hbad : sigR p k x = true := by simp_all [sigR]
  have hno : rSignals p = false := by unfold rSignals; rw [← hI]; simp only [sigRF]; rw [hbad]; rfl
  refine nx_seq (nx_region (nv v_assign (nx_nil (nx_then (nx_ret (nx_in_ret (nx_then_ret (nx_then_ret (nx_in_ret (nx_then_ret ?_))))))))))
  exact nx_ret1 rfl (.tmp rfl) (rs (by (rw [hno]; done)))
  refine nr v_load_o (nr v_load_o ?_)
  refine nx_op_run rfl rfl rfl (op_callS rfl rfl rfl (fun W hp => rReads_ok hp at_ x.at_) ?_)
  refine nr v_move (nr v_neq (nv v_pick_f (nx_nil (nx_then ?_))))
  refine nx_cond_dec rfl (fun c59 => ?_) (fun c59 => ?_)
  have hbad : sigR p k x = true := by simp_all [sigR]
  have hno : rSignals p = false := by unfold rSignals; rw [← hI]; simp only [sigRF]; rw [hbad]; rfl
  refine nx_seq (nx_region (nv v_assign (nx_nil (nx_then (nx_ret (nx_in_ret (nx_then_ret (nx_then_ret (nx_in_ret (nx_then_ret ?_))))))))))
  exact nx_ret1 rfl (.tmp rfl) (rs (by (rw [hno]; done)))
  have hok : sigR p k x = false := by simp_all [sigR]
  refine nx_skip (nx_in _ (nx_then (nx_region (nv v_move (nv v_add (nv v_assign (nx_nil (nx_then ?_))))))))
  exact nn (next (k + 1) (by rw [xr, ← hI]; simp only [sigRF]; rw [hok]; rfl) (by omega))
  refine nx_exit (nx_then_exit (nx_then_exit (nx_in_eq (nx_then (nx_seq (nx_seq (nx_region (nv v_assign (nx_nil (nx_then (nx_block ?_)))))))))))
  have hf : sigRF p p.signals 0 = true := by rw [← hI, List.drop_eq_nil_of_le (by omega)]; rfl
  refine nx_loop_v (σ := Nat) [0, 1, 3, 9, 10, 11, 12, 13] (fun s => [(8, .int .i64 (s : Int))]) (fun s => G) (fun _ => _) (fun s => gateR p (p.elems.drop s) s = gateR p p.elems 0) (fun s => n1 - s) 0 (.cons rfl (.cons rfl (.cons rfl (.cons rfl (.cons rfl (.cons rfl (.cons rfl (.cons rfl (.nil))))))))) ⟨rfl, trivial⟩ rfl rfl rfl ?_
  intro k hI K next
  refine nx_seq (nx_seq (nx_region (nv v_move (nv v_fieldAddr (nv v_load1_o (nv v_len (nv v_lss (nx_nil (nx_then ?_)))))))))
  refine nx_cond_dec rfl (fun c64 => ?_) (fun c64 => ?_)
  obtain ⟨x, rest, hd, hx⟩ := drop_of_lt (xs := p.elems) (k := k) (by omega)
  obtain ⟨xb, xo, xe, xk, xr, xf0, xf1, xf2⟩ := next_Elem at_.h1 hd
  cases xe
  rw [hd] at hI
  refine nx_skip (nx_then (nx_seq (nx_block (nx_seq (nx_region (nv v_fieldAddr (nv v_load1_o (nv v_move (nv (v_indexAddr_nat rfl rfl rfl (by omega)) (nv v_fieldAddr (nv v_load1_s ?_)))))))))))
  refine nv v_eql (nv v_move ?_)
  refine nx_guard_dec (t := 74) rfl (fun g74 => ?_) (fun g74 => ?_)
  refine nr v_load_o (nr v_move (nr (v_build rfl rfl rfl) ?_))
  refine nx_op_run rfl rfl rfl (op_callS rfl rfl rfl (fun W hp => rReads_ok hp at_ ⟨(k : Int), 0⟩) ?_)
  refine nr v_lss (nv v_pick_t (nx_nil (nx_then ?_)))
  refine nx_cond_dec rfl (fun c80 => ?_) (fun c80 => ?_)
  have hbad : (decide (x.kind = 4) && decide (readsL p ⟨(k : Int), 0⟩ < 0)) = true := by simp_all
  have hno : rSignals p = false := by unfold rSignals; rw [hf, ← hI]; simp only [gateR]; rw [hbad]; rfl
  refine nx_seq (nx_region (nv v_assign (nx_nil (nx_then (nx_ret (nx_in_ret (nx_then_ret (nx_then_ret (nx_in_ret (nx_then_ret ?_))))))))))
  exact nx_ret1 rfl (.tmp rfl) (rs (by (rw [hno]; done)))
  have hok : (decide (x.kind = 4) && decide (readsL p ⟨(k : Int), 0⟩ < 0)) = false := by simp_all
  refine nx_skip (nx_in _ (nx_then (nx_region (nv v_move (nv v_add (nv v_assign (nx_nil (nx_then ?_))))))))
  exact nn (next (k + 1) (by rw [xr, ← hI]; simp only [gateR]; rw [hok]; rfl) (by omega))
  refine nk (k := nk (k := nk (k := nk (k := nk (k := nv v_pick_f (nx_nil (nx_then (nx_cond_f rfl ?_))))))))
  have hok : (decide (x.kind = 4) && decide (readsL p ⟨(k : Int), 0⟩ < 0)) = false := by simp_all
  refine nx_skip (nx_in _ (nx_then (nx_region (nv v_move (nv v_add (nv v_assign (nx_nil (nx_then ?_))))))))
  exact nn (next (k + 1) (by rw [xr, ← hI]; simp only [gateR]; rw [hok]; rfl) (by omega))
  refine nx_exit (nx_then_exit (nx_then_exit (nx_in_eq (nx_then (nx_seq (nx_region (nv v_assign (nx_nil (nx_then (nx_ret ?_))))))))))
  exact nx_ret1 rfl (.tmp rfl) (rs (by (unfold rSignals; rw [hf, ← hI, List.drop_eq_nil_of_le (by omega)]; rfl)))
end Go.Proofs.YtjckojnlapchoaaGreat
open Go Go.RowKit
namespace Go.Proofs.YtjckojnlapchoaaGreat
open Go.Proofs
def rStep (p : Plan) (a b out e : Int) : Int := if (nextJ ⟨a, e⟩ p.joins).isSome && decide (((nextJ ⟨a, e⟩ p.joins).getD ⟨0, 0⟩).elem = b) then e else out
def rOut (p : Plan) (a b : Int) : Int := rStep p a b (rStep p a b (-1) 1) 0
def rGo (p : Plan) : Int → Int → List Int → Bool
  | _, _, [] => true
  | out, prev, e :: r => if !(nextJ ⟨prev, out⟩ p.joins).isSome || decide (¬ ((nextJ ⟨prev, out⟩ p.joins).getD ⟨0, 0⟩).elem = e) then false else rGo p (1 - ((nextJ ⟨prev, out⟩ p.joins).getD ⟨0, 0⟩).fin) e r
def rEnters (p : Plan) (l : List Int) : Bool := !l.isEmpty && (l.all (fun e => decide (p.kind e = 1)) && match l with
  | a :: b :: r => if rOut p a b < 0 then false else rGo p (rOut p a b) a (b :: r)
  | _ => true)
theorem rStep_range (p : Plan) (a b out e : Int) (h : -1 ≤ out ∧ out ≤ 1) (h' : 0 ≤ e ∧ e ≤ 1) : -1 ≤ rStep p a b out e ∧ rStep p a b out e ≤ 1 := by
  unfold rStep; split <;> omega
theorem nextJ_fin {p : Plan} (hj : ∀ j, j ∈ p.joins → (0 ≤ j.a.fin ∧ j.a.fin < 4) ∧ (0 ≤ j.b.fin ∧ j.b.fin < 4)) (x : Port) : 0 ≤ ((nextJ x p.joins).getD ⟨0, 0⟩).fin ∧ ((nextJ x p.joins).getD ⟨0, 0⟩).fin < 4 := by
  generalize p.joins = l at hj
  induction l with
  | nil => simp [nextJ]
  | cons j r ih =>
    unfold nextJ
    have h := hj j List.mem_cons_self
    split
    · exact h.2
    · split
      · exact h.1
      · exact ih (fun j hm => hj j (List.mem_cons_of_mem _ hm))
def Okv (b : Bool) (G : Gh) (v : Value) : Prop := ∃ A n c, v = .tuple #[.slice A n c, .bool b]
set_option maxRecDepth 20000 in
set_option maxHeartbeats 1000000 in
theorem rEnters_ok {G : Gh} {H : List (Nat × Obj)} {W : World} (hp : Hp G H W) {A1 : Option Addr} {n1 c1 : Nat} {A2 : Option Addr} {n2 c2 : Nat} {A3 : Option Addr} {n3 c3 : Nat} {A4 : Option Addr} {n4 c4 : Nat} {p : Plan} (at_ : Plan.At G A1 n1 c1 A2 n2 c2 A3 n3 c3 A4 n4 c4 p) (hj : ∀ j, j ∈ p.joins → (0 ≤ j.a.fin ∧ j.a.fin < 4) ∧ (0 ≤ j.b.fin ∧ j.b.fin < 4)) {A : Option Addr} {n c : Nat} {l : List Int} (hs : Sl tInt G A n c l) (hn : n ≤ 60) : Calls Tryz.prog 121 ⟨[.agg ⟨[.slice A1 n1 c1, .slice A2 n2 c2, .slice A3 n3 c3, .slice A4 n4 c4, .int .i64 p.top, .int .i64 p.brake, .int .i64 p.margin, .int .i64 p.throw_, .bool p.hard]⟩, .slice A n c]⟩ W (RetD G H (Okv (rEnters p l))) := by
  have l1 := at_.h1.length
  have l2 := at_.h2.length
  have l3 := at_.h3.length
  have l4 := at_.h4.length
  have r1 := Nat.le_trans at_.h1.cap at_.h1.room
  have r2 := Nat.le_trans at_.h2.cap at_.h2.room
  have r3 := Nat.le_trans at_.h3.cap at_.h3.room
  have r4 := Nat.le_trans at_.h4.cap at_.h4.room
  have hl := hs.length
  have hb := Nat.le_trans hs.cap hs.room
  refine enter Tryz.func121 rfl Tryz.ntmps121 (Nat.le_of_ble_eq_true rfl) hp (nx_seq (nx_region ?_))
  refine nx_op rfl (op_box rfl rfl (fun b2 => ?_))
  refine nv v_assign (nv v_assign (nx_nil (nx_then (nx_seq (nx_seq (nx_region (nv v_move (nv v_len (nv v_eql (nx_nil (nx_then ?_)))))))))))
  refine nx_cond_dec rfl (fun c17 => ?_) (fun c17 => ?_)
  have hno : rEnters p l = false := by
    have : l = [] := List.length_eq_zero_iff.1 (by omega)
    subst this; rfl
  refine nx_seq (nx_region (nv v_assign (nv v_assign (nx_nil (nx_then (nx_ret (nx_then_ret ?_)))))))
  exact nx_ret2 rfl (.tmp rfl) (.tmp rfl) (rt ((Gh.le.refl _)) (by (rw [hno]; exact ⟨_, _, _, rfl⟩)))
  refine nx_skip (nx_then (nx_seq (nx_seq (nx_region (nv v_assign (nx_nil (nx_then (nx_block ?_))))))))
  refine nx_loop_v (σ := Nat) [0, 1, 2, 15, 16, 17] (fun k => [(6, .int .i64 (k : Int))]) (fun _ => G) (fun _ => _) (fun k => (l.drop k).all (fun e => decide (p.kind e = 1)) = l.all (fun e => decide (p.kind e = 1))) (fun k => n - k) 0 (.cons rfl (.cons rfl (.cons rfl (.cons rfl (.cons rfl (.cons rfl (.nil))))))) ⟨rfl, trivial⟩ rfl rfl rfl ?_
  intro k hI K next
  refine nx_seq (nx_seq (nx_region (nv v_move (nv v_move (nv v_len (nv v_lss (nx_nil (nx_then ?_))))))))
  refine nx_cond_dec rfl (fun c21 => ?_) (fun c21 => ?_)
  obtain ⟨x, rest, hd, hx⟩ := drop_of_lt (xs := l) (k := k) (by omega)
  obtain ⟨xb, xo, xe, xk, xr, xf0⟩ := next_Int hs hd
  cases xe
  refine nx_skip (nx_then (nx_seq (nx_block (nx_seq (dr_begin 7 (.q 0 (.q 1 (.q 2 (.q 3 (.q 4 (.l 5 (.q 6 .done))))))) rfl (by kernel_rfl) (dr_q rfl rfl v_load_o ic (dr_q rfl rfl v_move ic (dr_q rfl rfl v_move ic (dr_q rfl rfl (v_indexAddr_nat rfl rfl rfl (by omega)) ic (dr_q rfl rfl v_load1_s ic (dr_l rfl rfl ?_)))))))))))
  refine op_callS rfl rfl rfl (fun W hp => rKind_ok hp at_ _) ?_
  refine dr_k ic (dr_q rfl rfl v_neq ic (dr_end rfl ?_))
  refine nx_nil (nx_np ?_)
  refine nx_then ?_
  refine nx_cond_dec rfl (fun c30 => ?_) (fun c30 => ?_)
  have hno : rEnters p l = false := by unfold rEnters; rw [all_no hI hd (by simpa using c30)]; simp
  refine nx_seq (nx_region (nv v_assign (nv v_assign (nx_nil (nx_then (nx_ret (nx_in_ret (nx_then_ret (nx_then_ret (nx_in_ret (nx_then_ret ?_)))))))))))
  exact nx_ret2 rfl (.tmp rfl) (.tmp rfl) (rt ((Gh.le.refl _)) (by (rw [hno]; exact ⟨_, _, _, rfl⟩)))
  refine nx_skip (nx_in _ (nx_then (nx_region (nv v_move (nv v_add (nv v_assign (nx_nil (nx_then ?_))))))))
  exact nn (next (k + 1) (all_yes hI hd xr (by simpa using c30)) (by omega))
  have hall := all_end hI (by omega)
  refine nx_exit (nx_then_exit (nx_then_exit (nx_in_eq (nx_then (nx_seq (nx_seq (nx_region (nv v_move (nv v_len (nv v_eql (nx_nil ?_)))))))))))
  refine nx_then ?_
  refine nx_cond_dec rfl (fun c33 => ?_) (fun c33 => ?_)
  have hyes : rEnters p l = true := by
    unfold rEnters
    rw [hall]
    match l, hl with
    | [_], _ => rfl
    | [], h => simp at h; omega
    | _ :: _ :: _, h => simp at h; omega
  refine nx_seq (nx_region ?_)
  refine nx_op rfl (op_buildSlice rfl rfl rfl rfl rfl (fun b34 => ?_))
  refine nv v_assign (nv v_assign (nx_nil (nx_then (nx_ret (nx_then_ret ?_)))))
  exact nx_ret2 rfl (.tmp rfl) (.tmp rfl) (rt ((Gh.le.refl _)) (by (rw [hyes]; exact ⟨_, _, _, rfl⟩)))
  obtain ⟨a, r0, hd0, ha⟩ := drop_of_lt (xs := l) (k := 0) (by omega)
  obtain ⟨b, r1, hd1, hb1⟩ := drop_of_lt (xs := l) (k := 1) (by omega)
  obtain ⟨xb, xo, xe, xk, xf0⟩ := get_Int hs ha
  cases xe
  obtain ⟨yb, yo, ye, yk, yf0⟩ := get_Int hs hb1
  cases ye
  have hl2 : l = a :: b :: r1 := by
    have h0 : l = a :: r0 := by simpa using hd0
    have h1 : l.drop 1 = r0 := by rw [h0]; rfl
    rw [hd1] at h1; rw [h0, ← h1]
  refine nx_skip (nx_then (nx_seq (nx_region (nv v_assign (nx_nil (nx_then (nx_seq (nx_seq (nx_region (nv v_assign (nx_nil ?_)))))))))))
  refine nx_then (nx_block ?_)
  refine nx_loop_v (σ := Int × Int) [0, 1, 2, 6, 15, 16, 17, 18, 19, 20, 21, 31, 32, 33] (fun s => [(8, .int .i64 s.1), (7, .int .i64 s.2)]) (fun _ => G) (fun _ => _) (fun s => -1 ≤ s.1 ∧ ((s.1 = 1 ∧ s.2 = -1) ∨ (s.1 = 0 ∧ s.2 = rStep p a b (-1) 1) ∨ (s.1 = -1 ∧ s.2 = rOut p a b))) (fun s => (s.1 + 1).toNat) (1, -1) (.cons rfl (.cons rfl (.cons rfl (.cons rfl (.cons rfl (.cons rfl (.cons rfl (.cons rfl (.cons rfl (.cons rfl (.cons rfl (.cons rfl (.cons rfl (.cons rfl (.nil))))))))))))))) ⟨rfl, rfl, trivial⟩ ⟨by omega, .inl ⟨rfl, rfl⟩⟩ rfl rfl ?_
  rintro ⟨e, out⟩ ⟨hge, hI⟩ K next
  dsimp only at hge hI ⊢
  refine nx_seq (nx_seq (nx_region (nv v_move (nv v_geq (nx_nil (nx_then ?_))))))
  refine nx_cond_dec rfl (fun c36 => ?_) (fun c36 => ?_)
  refine nx_skip (nx_then (nx_seq (nx_block (nx_seq (dr_begin 13 (.q 0 (.q 1 (.q 2 (.q 3 (.q 4 (.q 5 (.b 6 10 (.q 7 (.q 8 (.q 9 (.l 10 (.l 11 (.q 12 .done)))))) (.l 6 (.q 7 (.q 8 (.q 9 (.l 11 (.q 12 .done))))))))))))) rfl (by kernel_rfl) (dr_q rfl rfl v_load_o ic (dr_q rfl rfl v_move ic (dr_q rfl rfl (v_indexAddr_nat (k := 0) rfl rfl rfl (by omega)) ic (dr_q rfl rfl v_load1_s ic (dr_q rfl rfl v_move ic (dr_q rfl rfl (v_build rfl rfl rfl) ic ?_)))))))))))
  refine dr_b rfl rfl rfl rfl ?_ ?_
  refine op_callS rfl rfl rfl (fun W hp => rNext_ok hp at_ ⟨a, e⟩) ?_
  refine dr_k ic (dr_q rfl rfl v_move ic (dr_q rfl rfl (v_extract rfl rfl rfl) ic (dr_q rfl rfl (v_extract rfl rfl rfl) ic (dr_l rfl rfl ?_))))
  refine op_alloc rfl (fun b9 => ?_)
  refine dr_k (ic.cons _) (dr_l rfl rfl ?_)
  refine op_sto rfl rfl rfl rfl rfl (by repeat (first | exact UpdS.here rfl | apply UpdS.cons | apply UpdS.app)) ?_
  refine dr_k (ic.cons _) (dr_q rfl rfl v_assign (ic.cons _) (dr_end rfl ?_))
  refine nx_nil (nx_np ?_)
  refine nx_then (nx_seq (dr_begin 9 (.q 0 (.q 1 (.q 2 (.q 3 (.q 4 (.q 5 (.q 6 (.q 7 (.q 8 .done))))))))) rfl (by kernel_rfl) (dr_q rfl rfl v_move ic (dr_q rfl rfl v_move ic ?_))))
  refine nx_guard (t := 50) rfl (fun g50 => ?_) (fun g50 => ?_)
  refine dr_q_run rfl rfl rfl rfl v_fieldAddr ic (dr_q_run rfl rfl rfl rfl v_load1_o ic (dr_q_run rfl rfl rfl rfl v_move ic (dr_q_run rfl rfl rfl rfl (v_indexAddr_nat (k := 1) rfl rfl rfl (by omega)) ic (dr_q_run rfl rfl rfl rfl v_load1_s ic (dr_q_run rfl rfl rfl rfl v_eql ic (dr_q rfl rfl v_pick_t ic (dr_end rfl ?_)))))))
  refine nx_nil (nx_np ?_)
  refine nx_then ?_
  refine nx_cond_dec rfl (fun c57 => ?_) (fun c57 => ?_)
  refine nx_region (nv v_move (nv v_assign (nx_nil (nx_in _ (nx_then (nx_region (nv v_move (nv v_sub (nv v_assign (nx_nil (nx_then ?_)))))))))))
  have hge0 : 0 ≤ e := c36
  first
  | (have hstep : rStep p a b out e = e := by simp_all [rStep]
     exact nn (next (e - 1, e) ⟨(by dsimp only; omega), (by dsimp only; rcases hI with ⟨h1, h2⟩ | ⟨h1, h2⟩ | ⟨h1, h2⟩; right; left; subst h1; subst h2; exact ⟨rfl, hstep.symm⟩; right; right; subst h1; subst h2; exact ⟨rfl, hstep.symm⟩; omega)⟩ (by dsimp only; omega)))
  | (have hstep : rStep p a b out e = out := by simp_all [rStep]
     exact nn (next (e - 1, out) ⟨(by dsimp only; omega), (by dsimp only; rcases hI with ⟨h1, h2⟩ | ⟨h1, h2⟩ | ⟨h1, h2⟩; right; left; subst h1; subst h2; exact ⟨rfl, hstep.symm⟩; right; right; subst h1; exact ⟨rfl, (by unfold rOut; rw [← h2]; exact hstep.symm)⟩; omega)⟩ (by dsimp only; omega)))
  refine nx_skip (nx_in _ (nx_then (nx_region (nv v_move (nv v_sub (nv v_assign (nx_nil (nx_then ?_))))))))
  have hge0 : 0 ≤ e := c36
  first
  | (have hstep : rStep p a b out e = e := by simp_all [rStep]
     exact nn (next (e - 1, e) ⟨(by dsimp only; omega), (by dsimp only; rcases hI with ⟨h1, h2⟩ | ⟨h1, h2⟩ | ⟨h1, h2⟩; right; left; subst h1; subst h2; exact ⟨rfl, hstep.symm⟩; right; right; subst h1; subst h2; exact ⟨rfl, hstep.symm⟩; omega)⟩ (by dsimp only; omega)))
  | (have hstep : rStep p a b out e = out := by simp_all [rStep]
     exact nn (next (e - 1, out) ⟨(by dsimp only; omega), (by dsimp only; rcases hI with ⟨h1, h2⟩ | ⟨h1, h2⟩ | ⟨h1, h2⟩; right; left; subst h1; subst h2; exact ⟨rfl, hstep.symm⟩; right; right; subst h1; exact ⟨rfl, (by unfold rOut; rw [← h2]; exact hstep.symm)⟩; omega)⟩ (by dsimp only; omega)))
  refine dk (k := dk (k := dk (k := dk (k := dk (k := dk (k := dr_q rfl rfl v_pick_f ic (dr_end rfl ?_)))))))
  refine nx_nil (nx_np ?_)
  refine nx_then (nx_cond_f rfl (nx_skip (nx_in _ (nx_then (nx_region (nv v_move (nv v_sub (nv v_assign (nx_nil (nx_then ?_))))))))))
  have hge0 : 0 ≤ e := c36
  first
  | (have hstep : rStep p a b out e = e := by simp_all [rStep]
     exact nn (next (e - 1, e) ⟨(by dsimp only; omega), (by dsimp only; rcases hI with ⟨h1, h2⟩ | ⟨h1, h2⟩ | ⟨h1, h2⟩; right; left; subst h1; subst h2; exact ⟨rfl, hstep.symm⟩; right; right; subst h1; subst h2; exact ⟨rfl, hstep.symm⟩; omega)⟩ (by dsimp only; omega)))
  | (have hstep : rStep p a b out e = out := by simp_all [rStep]
     exact nn (next (e - 1, out) ⟨(by dsimp only; omega), (by dsimp only; rcases hI with ⟨h1, h2⟩ | ⟨h1, h2⟩ | ⟨h1, h2⟩; right; left; subst h1; subst h2; exact ⟨rfl, hstep.symm⟩; right; right; subst h1; exact ⟨rfl, (by unfold rOut; rw [← h2]; exact hstep.symm)⟩; omega)⟩ (by dsimp only; omega)))
  refine op_alloc rfl (fun b9 => ?_)
  refine dr_k (ic.cons _) (dr_l rfl rfl ?_)
  refine op_callS rfl rfl rfl (fun W hp => rNext_ok hp at_ ⟨a, e⟩) ?_
  refine dr_k (ic.cons _) (dr_q rfl rfl v_move (ic.cons _) (dr_q rfl rfl (v_extract rfl rfl rfl) (ic.cons _) (dr_q rfl rfl (v_extract rfl rfl rfl) (ic.cons _) (dr_l rfl rfl ?_))))
  refine op_sto rfl rfl rfl rfl rfl (by repeat (first | exact UpdS.here rfl | apply UpdS.cons | apply UpdS.app)) ?_
  refine dr_k (ic.cons _) (dr_q rfl rfl v_assign (ic.cons _) (dr_end rfl ?_))
  refine nx_nil (nx_np ?_)
  refine nx_then (nx_seq (dr_begin 9 (.q 0 (.q 1 (.q 2 (.q 3 (.q 4 (.q 5 (.q 6 (.q 7 (.q 8 .done))))))))) rfl (by kernel_rfl) (dr_q rfl rfl v_move ic (dr_q rfl rfl v_move ic ?_))))
  refine nx_guard (t := 50) rfl (fun g50 => ?_) (fun g50 => ?_)
  refine dr_q_run rfl rfl rfl rfl v_fieldAddr ic (dr_q_run rfl rfl rfl rfl v_load1_o ic (dr_q_run rfl rfl rfl rfl v_move ic (dr_q_run rfl rfl rfl rfl (v_indexAddr_nat (k := 1) rfl rfl rfl (by omega)) ic (dr_q_run rfl rfl rfl rfl v_load1_s ic (dr_q_run rfl rfl rfl rfl v_eql ic (dr_q rfl rfl v_pick_t ic (dr_end rfl ?_)))))))
  refine nx_nil (nx_np ?_)
  refine nx_then ?_
  refine nx_cond_dec rfl (fun c57 => ?_) (fun c57 => ?_)
  refine nx_region (nv v_move (nv v_assign (nx_nil (nx_in _ (nx_then (nx_region (nv v_move (nv v_sub (nv v_assign (nx_nil (nx_then ?_)))))))))))
  have hge0 : 0 ≤ e := c36
  first
  | (have hstep : rStep p a b out e = e := by simp_all [rStep]
     exact nn (next (e - 1, e) ⟨(by dsimp only; omega), (by dsimp only; rcases hI with ⟨h1, h2⟩ | ⟨h1, h2⟩ | ⟨h1, h2⟩; right; left; subst h1; subst h2; exact ⟨rfl, hstep.symm⟩; right; right; subst h1; subst h2; exact ⟨rfl, hstep.symm⟩; omega)⟩ (by dsimp only; omega)))
  | (have hstep : rStep p a b out e = out := by simp_all [rStep]
     exact nn (next (e - 1, out) ⟨(by dsimp only; omega), (by dsimp only; rcases hI with ⟨h1, h2⟩ | ⟨h1, h2⟩ | ⟨h1, h2⟩; right; left; subst h1; subst h2; exact ⟨rfl, hstep.symm⟩; right; right; subst h1; exact ⟨rfl, (by unfold rOut; rw [← h2]; exact hstep.symm)⟩; omega)⟩ (by dsimp only; omega)))
  refine nx_skip (nx_in _ (nx_then (nx_region (nv v_move (nv v_sub (nv v_assign (nx_nil (nx_then ?_))))))))
  have hge0 : 0 ≤ e := c36
  first
  | (have hstep : rStep p a b out e = e := by simp_all [rStep]
     exact nn (next (e - 1, e) ⟨(by dsimp only; omega), (by dsimp only; rcases hI with ⟨h1, h2⟩ | ⟨h1, h2⟩ | ⟨h1, h2⟩; right; left; subst h1; subst h2; exact ⟨rfl, hstep.symm⟩; right; right; subst h1; subst h2; exact ⟨rfl, hstep.symm⟩; omega)⟩ (by dsimp only; omega)))
  | (have hstep : rStep p a b out e = out := by simp_all [rStep]
     exact nn (next (e - 1, out) ⟨(by dsimp only; omega), (by dsimp only; rcases hI with ⟨h1, h2⟩ | ⟨h1, h2⟩ | ⟨h1, h2⟩; right; left; subst h1; subst h2; exact ⟨rfl, hstep.symm⟩; right; right; subst h1; exact ⟨rfl, (by unfold rOut; rw [← h2]; exact hstep.symm)⟩; omega)⟩ (by dsimp only; omega)))
  refine dk (k := dk (k := dk (k := dk (k := dk (k := dk (k := dr_q rfl rfl v_pick_f ic (dr_end rfl ?_)))))))
  refine nx_nil (nx_np ?_)
  refine nx_then (nx_cond_f rfl (nx_skip (nx_in _ (nx_then (nx_region (nv v_move (nv v_sub (nv v_assign (nx_nil (nx_then ?_))))))))))
  have hge0 : 0 ≤ e := c36
  first
  | (have hstep : rStep p a b out e = e := by simp_all [rStep]
     exact nn (next (e - 1, e) ⟨(by dsimp only; omega), (by dsimp only; rcases hI with ⟨h1, h2⟩ | ⟨h1, h2⟩ | ⟨h1, h2⟩; right; left; subst h1; subst h2; exact ⟨rfl, hstep.symm⟩; right; right; subst h1; subst h2; exact ⟨rfl, hstep.symm⟩; omega)⟩ (by dsimp only; omega)))
  | (have hstep : rStep p a b out e = out := by simp_all [rStep]
     exact nn (next (e - 1, out) ⟨(by dsimp only; omega), (by dsimp only; rcases hI with ⟨h1, h2⟩ | ⟨h1, h2⟩ | ⟨h1, h2⟩; right; left; subst h1; subst h2; exact ⟨rfl, hstep.symm⟩; right; right; subst h1; exact ⟨rfl, (by unfold rOut; rw [← h2]; exact hstep.symm)⟩; omega)⟩ (by dsimp only; omega)))
  refine nx_exit (nx_then_exit (nx_then_exit (nx_in_eq (nx_then (nx_seq (nx_seq (nx_region (nv v_move (nv v_lss (nx_nil (nx_then ?_)))))))))))
  refine nx_cond_dec rfl (fun c60 => ?_) (fun c60 => ?_)
  have hout : out = rOut p a b := by omega
  have hno : rEnters p l = false := by unfold rEnters; rw [hall, hl2]; simp only [List.isEmpty_cons, Bool.not_false, Bool.true_and]; exact if_pos (by omega)
  refine nx_seq (nx_region (nv v_assign (nv v_assign (nx_nil (nx_then (nx_ret (nx_then_ret ?_)))))))
  exact nx_ret2 rfl (.tmp rfl) (.tmp rfl) (rt ((Gh.le.refl _)) (by (rw [hno]; exact ⟨_, _, _, rfl⟩)))
  have hout : out = rOut p a b := by omega
  have hyes : rEnters p l = rGo p (rOut p a b) a (b :: r1) := by unfold rEnters; rw [hall, hl2]; simp only [List.isEmpty_cons, Bool.not_false, Bool.true_and]; exact if_neg (by omega)
  have hrng : -1 ≤ rOut p a b ∧ rOut p a b ≤ 1 := rStep_range _ _ _ _ _ (rStep_range _ _ _ _ _ (by omega) (by omega)) (by omega)
  refine nx_skip (nx_then (nx_seq (nx_region (nv v_move (nv v_sub ?_)))))
  refine nx_op rfl (op_buildSlice rfl rfl rfl rfl rfl (fun b63 => ?_))
  refine nv v_assign (nx_nil (nx_then (nx_seq (nx_seq (nx_region (nv v_assign (nx_nil (nx_then (nx_block ?_)))))))))
  refine nx_loop_v (σ := Nat × Int × List Int × Value × List (Nat × Obj)) [0, 1, 2, 6, 8, 15, 16, 17, 18, 19, 20, 21, 31, 32, 33, 35, 36, 59, 60, 61, 62, 63] (fun s => [(12, .int .i64 ((s.1 : Int) + 1)), (7, .int .i64 s.2.1), (11, s.2.2.2.1)]) (fun _ => G) (fun s => s.2.2.2.2 ++ _) (fun s => (∃ q, l[s.1]? = some q ∧ rGo p s.2.1 q (l.drop (s.1 + 1)) = rEnters p l) ∧ s.2.2.1.length ≤ s.1 + 1 ∧ OwnS tInt 3 G s.2.2.1 s.2.2.2.1 s.2.2.2.2 ∧ -5 ≤ s.2.1 ∧ s.2.1 ≤ 5) (fun s => n - s.1) (0, out, [1 - out], _, [(b63, row [.int .i64 (1 - out)] _)]) (.cons rfl (.cons rfl (.cons rfl (.cons rfl (.cons rfl (.cons rfl (.cons rfl (.cons rfl (.cons rfl (.cons rfl (.cons rfl (.cons rfl (.cons rfl (.cons rfl (.cons rfl (.cons rfl (.cons rfl (.cons rfl (.cons rfl (.cons rfl (.cons rfl (.cons rfl (.nil))))))))))))))))))))))) ⟨rfl, rfl, rfl, trivial⟩ ⟨⟨a, ha, (by rw [hyes, hd1, hout])⟩, (by simp), (OwnS.row (r := [.int .i64 (1 - out)]) (rows_Int [1 - out]) rfl (by decide)), (by dsimp only; omega), (by dsimp only; omega)⟩ rfl rfl ?_
  rintro ⟨k, o2, al, av, aN⟩ ⟨⟨q, hq, hI⟩, hal, oa, ho1, ho2⟩ K next
  dsimp only at hq hI hal oa ho1 ho2 ⊢
  refine nx_seq (nx_seq (nx_region (nv v_move (nv v_move (nv v_len (nv v_lss (nx_nil (nx_then ?_))))))))
  refine nx_cond_dec rfl (fun c67 => ?_) (fun c67 => ?_)
  obtain ⟨z, rest, hd, hz⟩ := drop_of_lt (xs := l) (k := k + 1) (by omega)
  obtain ⟨ub, uo, ue, uk, uf0⟩ := get_Int hs hq
  cases ue
  obtain ⟨vb, vo, ve, vk, vf0⟩ := get_Int hs hz
  cases ve
  rw [hd] at hI
  have hrest : l.drop (k + 1 + 1) = rest := by rw [← List.tail_drop, hd]; rfl
  refine nx_skip (nx_then (nx_seq (nx_block (nx_seq (dr_begin 15 (.q 0 (.q 1 (.q 2 (.q 3 (.q 4 (.q 5 (.q 6 (.q 7 (.b 8 12 (.q 9 (.q 10 (.q 11 (.l 12 (.l 13 (.q 14 .done)))))) (.l 8 (.q 9 (.q 10 (.q 11 (.l 13 (.q 14 .done))))))))))))))) rfl (by kernel_rfl) (dr_q rfl rfl v_load_o ic (dr_q rfl rfl v_move ic (dr_q rfl rfl v_move ic (dr_q rfl rfl v_sub ic ?_)))))))))
  refine dr_q rfl rfl (v_indexAddr_nat (k := k) rfl rfl (by show some (Value.int .i64 ((k : Int) + 1 - 1)) = _; rw [Int.add_sub_cancel]) (by omega)) ic ?_
  refine dr_q rfl rfl v_load1_s ic (dr_q rfl rfl v_move ic (dr_q rfl rfl (v_build rfl rfl rfl) ic ?_))
  refine dr_b rfl rfl rfl rfl ?_ ?_
  refine op_callS rfl rfl rfl (fun W hp => rNext_ok hp at_ ⟨q, o2⟩) ?_
  refine dr_k ic (dr_q rfl rfl v_move ic (dr_q rfl rfl (v_extract rfl rfl rfl) ic (dr_q rfl rfl (v_extract rfl rfl rfl) ic (dr_l rfl rfl ?_))))
  refine op_alloc rfl (fun b13 => ?_)
  refine dr_k (ic.cons _) (dr_l rfl rfl ?_)
  refine op_sto rfl rfl rfl rfl rfl (by repeat (first | exact UpdS.here rfl | apply UpdS.cons | apply UpdS.app)) ?_
  refine dr_k (ic.cons _) (dr_q rfl rfl v_assign (ic.cons _) (dr_end rfl ?_))
  refine nx_nil (nx_np ?_)
  refine nx_then (nx_seq (nx_seq (dr_begin 11 (.q 0 (.q 1 (.q 2 (.q 3 (.q 4 (.q 5 (.q 6 (.q 7 (.q 8 (.q 9 (.q 10 .done))))))))))) rfl (by kernel_rfl) (dr_q rfl rfl v_move ic (dr_q rfl rfl v_not ic (dr_q rfl rfl v_move ic ?_))))))
  refine nx_guard (t := 84) rfl (fun g84 => ?_) (fun g84 => ?_)
  refine dk (k := dk (k := dk (k := dk (k := dk (k := dk (k := dk (k := dr_q rfl rfl v_pick_t ic (dr_end rfl ?_))))))))
  refine nx_nil (nx_np ?_)
  refine nx_then (nx_cond_t rfl ?_)
  have hbad : (!(nextJ ⟨q, o2⟩ p.joins).isSome || decide (¬ ((nextJ ⟨q, o2⟩ p.joins).getD ⟨0, 0⟩).elem = z)) = true := by simp_all
  have hno : rEnters p l = false := by rw [← hI]; simp only [rGo]; rw [hbad]; rfl
  refine nx_seq (nx_region (nv v_assign (nv v_assign (nx_nil (nx_then (nx_ret (nx_then_ret (nx_in_ret (nx_then_ret (nx_then_ret (nx_in_ret ?_)))))))))))
  refine nx_then_ret ?_
  exact nx_ret2 rfl (.tmp rfl) (.tmp rfl) (rt ((Gh.le.refl _)) (by (rw [hno]; exact ⟨_, _, _, rfl⟩)))
  refine dr_q_run rfl rfl rfl rfl v_fieldAddr ic (dr_q_run rfl rfl rfl rfl v_load1_o ic (dr_q_run rfl rfl rfl rfl v_move ic (dr_q_run rfl rfl rfl rfl v_move ic (dr_q_run rfl rfl rfl rfl (v_indexAddr_nat (k := k + 1) rfl rfl rfl (by omega)) ic (dr_q_run rfl rfl rfl rfl v_load1_s ic (dr_q_run rfl rfl rfl rfl v_neq ic (dr_q rfl rfl v_pick_f ic (dr_end rfl ?_))))))))
  refine nx_nil (nx_np ?_)
  refine nx_then ?_
  refine nx_cond_dec rfl (fun c92 => ?_) (fun c92 => ?_)
  have hbad : (!(nextJ ⟨q, o2⟩ p.joins).isSome || decide (¬ ((nextJ ⟨q, o2⟩ p.joins).getD ⟨0, 0⟩).elem = z)) = true := by simp_all
  have hno : rEnters p l = false := by rw [← hI]; simp only [rGo]; rw [hbad]; rfl
  refine nx_seq (nx_region (nv v_assign (nv v_assign (nx_nil (nx_then (nx_ret (nx_then_ret (nx_in_ret (nx_then_ret (nx_then_ret (nx_in_ret ?_)))))))))))
  refine nx_then_ret ?_
  exact nx_ret2 rfl (.tmp rfl) (.tmp rfl) (rt ((Gh.le.refl _)) (by (rw [hno]; exact ⟨_, _, _, rfl⟩)))
  have hok : (!(nextJ ⟨q, o2⟩ p.joins).isSome || decide (¬ ((nextJ ⟨q, o2⟩ p.joins).getD ⟨0, 0⟩).elem = z)) = false := by simp_all
  have hfin := nextJ_fin hj ⟨q, o2⟩
  refine nx_skip (nx_then (nx_seq (nx_region (nv v_move (nv v_fieldAddr (nv v_load1_o ?_))))))
  refine nx_op rfl (op_buildSlice rfl rfl rfl rfl rfl (fun b96 => ?_))
  refine nx_op rfl (op_append (T := tInt) rfl rfl rfl oa (by repeat (first | exact Pull.here | apply Pull.cons | apply Pull.app)) (Src.row List.mem_cons_self (rows_Int [((nextJ ⟨q, o2⟩ p.joins).getD ⟨0, 0⟩).fin]) rfl) (by simp; omega) (by simp [maxLen]; omega) (fun v97 N97 o97 => ?_))
  refine nv v_assign (nx_nil (nx_then (nx_region (nv v_fieldAddr (nv v_load1_o (nv v_sub (nv v_assign (nx_nil (nx_in _ (nx_then (nx_region ?_)))))))))))
  refine nv v_move (nv v_add (nv v_assign (nx_nil (nx_then ?_))))
  exact nn (next (k + 1, 1 - ((nextJ ⟨q, o2⟩ p.joins).getD ⟨0, 0⟩).fin, _, v97, N97) ⟨⟨z, hz, (by rw [hrest, ← hI]; simp only [rGo]; rw [hok]; rfl)⟩, (by simp; omega), o97, (by dsimp only; omega), (by dsimp only; omega)⟩ (by dsimp only; omega))
  refine op_alloc rfl (fun b13 => ?_)
  refine dr_k (ic.cons _) (dr_l rfl rfl ?_)
  refine op_callS rfl rfl rfl (fun W hp => rNext_ok hp at_ ⟨q, o2⟩) ?_
  refine dr_k (ic.cons _) (dr_q rfl rfl v_move (ic.cons _) (dr_q rfl rfl (v_extract rfl rfl rfl) (ic.cons _) (dr_q rfl rfl (v_extract rfl rfl rfl) (ic.cons _) (dr_l rfl rfl ?_))))
  refine op_sto rfl rfl rfl rfl rfl (by repeat (first | exact UpdS.here rfl | apply UpdS.cons | apply UpdS.app)) ?_
  refine dr_k (ic.cons _) (dr_q rfl rfl v_assign (ic.cons _) (dr_end rfl ?_))
  refine nx_nil (nx_np ?_)
  refine nx_then (nx_seq (nx_seq (dr_begin 11 (.q 0 (.q 1 (.q 2 (.q 3 (.q 4 (.q 5 (.q 6 (.q 7 (.q 8 (.q 9 (.q 10 .done))))))))))) rfl (by kernel_rfl) (dr_q rfl rfl v_move ic (dr_q rfl rfl v_not ic (dr_q rfl rfl v_move ic ?_))))))
  refine nx_guard (t := 84) rfl (fun g84 => ?_) (fun g84 => ?_)
  refine dk (k := dk (k := dk (k := dk (k := dk (k := dk (k := dk (k := dr_q rfl rfl v_pick_t ic (dr_end rfl ?_))))))))
  refine nx_nil (nx_np ?_)
  refine nx_then (nx_cond_t rfl ?_)
  have hbad : (!(nextJ ⟨q, o2⟩ p.joins).isSome || decide (¬ ((nextJ ⟨q, o2⟩ p.joins).getD ⟨0, 0⟩).elem = z)) = true := by simp_all
  have hno : rEnters p l = false := by rw [← hI]; simp only [rGo]; rw [hbad]; rfl
  refine nx_seq (nx_region (nv v_assign (nv v_assign (nx_nil (nx_then (nx_ret (nx_then_ret (nx_in_ret (nx_then_ret (nx_then_ret (nx_in_ret ?_)))))))))))
  refine nx_then_ret ?_
  exact nx_ret2 rfl (.tmp rfl) (.tmp rfl) (rt ((Gh.le.refl _)) (by (rw [hno]; exact ⟨_, _, _, rfl⟩)))
  refine dr_q_run rfl rfl rfl rfl v_fieldAddr ic (dr_q_run rfl rfl rfl rfl v_load1_o ic (dr_q_run rfl rfl rfl rfl v_move ic (dr_q_run rfl rfl rfl rfl v_move ic (dr_q_run rfl rfl rfl rfl (v_indexAddr_nat (k := k + 1) rfl rfl rfl (by omega)) ic (dr_q_run rfl rfl rfl rfl v_load1_s ic (dr_q_run rfl rfl rfl rfl v_neq ic (dr_q rfl rfl v_pick_f ic (dr_end rfl ?_))))))))
  refine nx_nil (nx_np ?_)
  refine nx_then ?_
  refine nx_cond_dec rfl (fun c92 => ?_) (fun c92 => ?_)
  have hbad : (!(nextJ ⟨q, o2⟩ p.joins).isSome || decide (¬ ((nextJ ⟨q, o2⟩ p.joins).getD ⟨0, 0⟩).elem = z)) = true := by simp_all
  have hno : rEnters p l = false := by rw [← hI]; simp only [rGo]; rw [hbad]; rfl
  refine nx_seq (nx_region (nv v_assign (nv v_assign (nx_nil (nx_then (nx_ret (nx_then_ret (nx_in_ret (nx_then_ret (nx_then_ret (nx_in_ret ?_)))))))))))
  refine nx_then_ret ?_
  exact nx_ret2 rfl (.tmp rfl) (.tmp rfl) (rt ((Gh.le.refl _)) (by (rw [hno]; exact ⟨_, _, _, rfl⟩)))
  have hok : (!(nextJ ⟨q, o2⟩ p.joins).isSome || decide (¬ ((nextJ ⟨q, o2⟩ p.joins).getD ⟨0, 0⟩).elem = z)) = false := by simp_all
  have hfin := nextJ_fin hj ⟨q, o2⟩
  refine nx_skip (nx_then (nx_seq (nx_region (nv v_move (nv v_fieldAddr (nv v_load1_o ?_))))))
  refine nx_op rfl (op_buildSlice rfl rfl rfl rfl rfl (fun b96 => ?_))
  refine nx_op rfl (op_append (T := tInt) rfl rfl rfl oa (by repeat (first | exact Pull.here | apply Pull.cons | apply Pull.app)) (Src.row List.mem_cons_self (rows_Int [((nextJ ⟨q, o2⟩ p.joins).getD ⟨0, 0⟩).fin]) rfl) (by simp; omega) (by simp [maxLen]; omega) (fun v97 N97 o97 => ?_))
  refine nv v_assign (nx_nil (nx_then (nx_region (nv v_fieldAddr (nv v_load1_o (nv v_sub (nv v_assign (nx_nil (nx_in _ (nx_then (nx_region ?_)))))))))))
  refine nv v_move (nv v_add (nv v_assign (nx_nil (nx_then ?_))))
  exact nn (next (k + 1, 1 - ((nextJ ⟨q, o2⟩ p.joins).getD ⟨0, 0⟩).fin, _, v97, N97) ⟨⟨z, hz, (by rw [hrest, ← hI]; simp only [rGo]; rw [hok]; rfl)⟩, (by simp; omega), o97, (by dsimp only; omega), (by dsimp only; omega)⟩ (by dsimp only; omega))
  obtain ⟨A9, c9, rfl, _⟩ := oa.val
  refine nx_exit (nx_then_exit (nx_then_exit (nx_in_eq (nx_then (nx_seq (nx_region (nv v_move (nv v_assign (nv v_assign (nx_nil (nx_then ?_)))))))))))
  refine nx_ret ?_
  exact nx_ret2 rfl (.tmp rfl) (.tmp rfl) (rt ((Gh.le.refl _)) (by (rw [← hI, List.drop_eq_nil_of_le (by omega)]; exact ⟨_, _, _, rfl⟩)))
end Go.Proofs.YtjckojnlapchoaaGreat
open Go Go.RowKit
namespace Go.Proofs.YtjckojnlapchoaaGreat
open Go.Proofs
def metF : List Int → List Int → Option (List Int)
  | [], met => some met
  | e :: r, met => if met.any (fun y => decide (y = e)) then none else metF r (met ++ [e])
def lineR (p : Plan) : List Line → List Int → Bool
  | [], _ => true
  | l :: r, met => match metF l.elems met with
    | none => false
    | some m => if rEnters p l.elems then lineR p r m else false
def rLines (p : Plan) : Bool := lineR p p.lines []
set_option maxRecDepth 20000 in
set_option maxHeartbeats 1000000 in
theorem rLines_ok {G : Gh} {H : List (Nat × Obj)} {W : World} (hp : Hp G H W) {A1 : Option Addr} {n1 c1 : Nat} {A2 : Option Addr} {n2 c2 : Nat} {A3 : Option Addr} {n3 c3 : Nat} {A4 : Option Addr} {n4 c4 : Nat} {p : Plan} (at_ : Plan.At G A1 n1 c1 A2 n2 c2 A3 n3 c3 A4 n4 c4 p) (hj : ∀ j, j ∈ p.joins → (0 ≤ j.a.fin ∧ j.a.fin < 4) ∧ (0 ≤ j.b.fin ∧ j.b.fin < 4)) (fw : p.Few) : Calls Tryz.prog 73 ⟨[.agg ⟨[.slice A1 n1 c1, .slice A2 n2 c2, .slice A3 n3 c3, .slice A4 n4 c4, .int .i64 p.top, .int .i64 p.brake, .int .i64 p.margin, .int .i64 p.throw_, .bool p.hard]⟩]⟩ W (RetD G H (fun _ v => v = .bool (rLines p))) := by
  have l1 := at_.h1.length
  have l2 := at_.h2.length
  have l3 := at_.h3.length
  have l4 := at_.h4.length
  have r1 := Nat.le_trans at_.h1.cap at_.h1.room
  have r2 := Nat.le_trans at_.h2.cap at_.h2.room
  have r3 := Nat.le_trans at_.h3.cap at_.h3.room
  have r4 := Nat.le_trans at_.h4.cap at_.h4.room
  obtain ⟨_, _, _, w4, w5, _, _⟩ := fw
  refine enter Tryz.func73 rfl Tryz.ntmps73 (Nat.le_of_ble_eq_true rfl) hp (nx_seq (nx_region ?_))
  refine nx_op rfl (op_box rfl rfl (fun b1 => ?_))
  refine nv v_assign (nx_nil (nx_then (nx_seq (nx_region (nv v_assign (nx_nil (nx_then (nx_seq (nx_seq (nx_region (nv v_assign ?_)))))))))))
  refine nx_nil (nx_then (nx_block ?_))
  refine nx_loop_v (σ := Nat × List Int × Option Addr × Nat × List (Nat × Obj) × Gh) [0, 1] (fun s => [(4, .int .i64 (s.1 : Int)), (3, .slice s.2.2.1 s.2.1.length s.2.2.2.1)]) (fun s => s.2.2.2.2.2) (fun s => s.2.2.2.2.1 ++ _) (fun s => G.le s.2.2.2.2.2 ∧ OwnS tInt 3 s.2.2.2.2.2 s.2.1 (.slice s.2.2.1 s.2.1.length s.2.2.2.1) s.2.2.2.2.1 ∧ s.2.1.length ≤ 60 * s.1 ∧ s.1 ≤ n4 ∧ lineR p (p.lines.drop s.1) s.2.1 = rLines p) (fun s => n4 - s.1) (0, [], none, 0, [], G) (.cons rfl (.cons rfl (.nil))) ⟨rfl, rfl, trivial⟩ ⟨Gh.le.refl _, .nil rfl, Nat.le_refl _, Nat.zero_le _, rfl⟩ rfl rfl ?_
  rintro ⟨k, m, Am, cm, Nm, G1⟩ ⟨le1, om, hml, hk, hI⟩ K next
  dsimp only at le1 om hml hk hI ⊢
  refine nx_seq (nx_seq (nx_region (nv v_move (nv v_fieldAddr (nv v_load1_o (nv v_len (nv v_lss (nx_nil (nx_then ?_)))))))))
  refine nx_cond_dec rfl (fun c13 => ?_) (fun c13 => ?_)
  obtain ⟨x, rest, hd, hx⟩ := drop_of_lt (xs := p.lines) (k := k) (by omega)
  obtain ⟨xb, xo, xA1, xn1, xc1, xe, xk, xr, xf0, xf1, xat⟩ := next_Line (at_.h4.le le1) hd
  cases xe
  rw [hd] at hI
  have hxl := xat.h1.length
  have hxb := Nat.le_trans xat.h1.cap xat.h1.room
  have hx60 := (w5 x (List.mem_of_getElem? hx)).1
  refine nx_skip (nx_then (nx_seq (nx_block (nx_seq (nx_region (nv v_fieldAddr (nv v_load1_o (nv v_move (nv (v_indexAddr_nat rfl rfl rfl (by omega)) (nv v_fieldAddr (nv v_load1_s ?_)))))))))))
  refine nv v_assign (nx_nil (nx_then (nx_seq (nx_seq (nx_region (nv v_assign (nx_nil (nx_then (nx_block ?_)))))))))
  refine nx_loop_v (σ := Nat × List Int × Option Addr × Nat × List (Nat × Obj)) [0, 1, 4, 5, 9, 10, 11, 12, 13, 16, 17, 18, 19, 20, 21] (fun s => [(6, .int .i64 (s.1 : Int)), (3, .slice s.2.2.1 s.2.1.length s.2.2.2.1)]) (fun s => G1) (fun s => s.2.2.2.2 ++ _) (fun s => OwnS tInt 3 G1 s.2.1 (.slice s.2.2.1 s.2.1.length s.2.2.2.1) s.2.2.2.2 ∧ s.2.1.length ≤ 60 * k + s.1 ∧ s.1 ≤ xn1 ∧ metF (x.elems.drop s.1) s.2.1 = metF x.elems m) (fun s => xn1 - s.1) (0, m, Am, cm, Nm) (.cons rfl (.cons rfl (.cons rfl (.cons rfl (.cons rfl (.cons rfl (.cons rfl (.cons rfl (.cons rfl (.cons rfl (.cons rfl (.cons rfl (.cons rfl (.cons rfl (.cons rfl (.nil)))))))))))))))) ⟨rfl, rfl, trivial⟩ ⟨om, (by dsimp only; omega), Nat.zero_le _, rfl⟩ rfl rfl ?_
  rintro ⟨k2, m2, A2, c2, N2⟩ ⟨om2, hml2, hk2, hI2⟩ K2 next2
  dsimp only at om2 hml2 hk2 hI2 ⊢
  refine nx_seq (nx_seq (nx_region (nv v_move (nv v_move (nv v_len (nv v_lss (nx_nil (nx_then ?_))))))))
  refine nx_cond_dec rfl (fun c25 => ?_) (fun c25 => ?_)
  obtain ⟨y, rest2, hd2, hy⟩ := drop_of_lt (xs := x.elems) (k := k2) (by omega)
  obtain ⟨yb, yo, ye, yk, yr, yf0⟩ := next_Int xat.h1 hd2
  cases ye
  rw [hd2] at hI2
  refine nx_skip (nx_then (nx_seq (nx_block (nx_seq (nx_seq (nx_region (nv v_move (nv v_move (nv v_move (nv (v_indexAddr_nat rfl rfl rfl (by omega)) (nv v_load1_s ?_)))))))))))
  refine nx_op rfl (op_callOS om2 (by repeat (first | exact Pull.here | apply Pull.cons | apply Pull.app)) rfl rfl rfl (fun G1 W leo so hp => rIn_ok hp so y) ?_)
  refine nx_nil (nx_then ?_)
  refine nx_cond rfl (fun c33 => ?_) (fun c33 => ?_)
  have hel : metF x.elems m = none := by rw [← hI2]; simp only [metF]; rw [if_pos c33]
  have hno : rLines p = false := by rw [← hI]; simp only [lineR]; rw [hel]
  refine nx_seq (nx_region (nv v_assign (nx_nil (nx_then (nx_ret (nx_then_ret (nx_in_ret (nx_then_ret (nx_then_ret (nx_in_ret (nx_then_ret ?_)))))))))))
  refine nx_in_ret (nx_then_ret (nx_then_ret (nx_in_ret (nx_then_ret ?_))))
  exact nx_ret1 rfl (.tmp rfl) (rt (le1) (by (rw [hno]; done)))
  refine nx_skip (nx_then (nx_region (nv v_move (nv v_move (nv v_move (nv (v_indexAddr_nat rfl rfl rfl (by omega)) (nv v_load1_s ?_)))))))
  refine nx_op rfl (op_buildSlice rfl rfl rfl rfl rfl (fun b39 => ?_))
  refine nx_op rfl (op_app (T := tInt) rfl rfl rfl om2 (by repeat (first | exact Pull.here | apply Pull.cons | apply Pull.app)) (Src.row List.mem_cons_self (rows_Int [y]) rfl) (by simp; omega) (by simp [maxLen]; omega) (fun A40 c40 N40 o40 hc40 => ?_))
  refine nv v_assign (nx_nil (nx_in _ (nx_then (nx_region (nv v_move (nv v_add (nv v_assign (nx_nil (nx_then ?_)))))))))
  exact nn (next2 (k2 + 1, _, A40, c40, N40) ⟨o40, (by simp; omega), (by dsimp only; omega), (by dsimp only; rw [yr, ← hI2]; simp only [metF]; rw [if_neg (by rw [c33]; simp)])⟩ (by dsimp only; omega))
  have hel : metF x.elems m = some m2 := by rw [← hI2, List.drop_eq_nil_of_le (by omega)]; rfl
  refine nx_exit (nx_then_exit (nx_then_exit (nx_in_eq (nx_then (nx_seq (nx_region (nv v_load_o (nv v_move ?_))))))))
  refine nx_op rfl (op_callD rfl rfl rfl (fun W hp => rEnters_ok hp (at_.le le1) hj xat.h1 (by omega)) (fun v44 G44 le44 ph44 => ?_))
  obtain ⟨A44, n44, c44, rfl⟩ := ph44
  refine nv v_move (nv (v_extract rfl rfl rfl) (nv (v_extract rfl rfl rfl) (nv v_assign (nv v_assign (nx_nil (nx_then (nx_seq (nx_region (nv v_move (nv v_not (nx_nil ?_)))))))))))
  refine nx_then ?_
  refine nx_cond rfl (fun c48 => ?_) (fun c48 => ?_)
  have hno : rLines p = false := by rw [← hI]; simp only [lineR]; rw [hel]; simp only; rw [if_neg (by simpa using c48)]
  refine nx_seq (nx_region (nv v_assign (nx_nil (nx_then (nx_ret (nx_in_ret (nx_then_ret (nx_then_ret (nx_in_ret (nx_then_ret ?_))))))))))
  exact nx_ret1 rfl (.tmp rfl) (rt ((Gh.le.trans le1 le44)) (by (rw [hno]; done)))
  refine nx_skip (nx_in _ (nx_then (nx_region (nv v_move (nv v_add (nv v_assign (nx_nil (nx_then ?_))))))))
  exact nn (next (k + 1, m2, A2, c2, N2, _) ⟨(Gh.le.trans le1 le44), (om2.le le44), (by dsimp only; omega), (by dsimp only; omega), (by dsimp only; rw [xr, ← hI]; simp only [lineR]; rw [hel]; simp only; rw [if_pos (by simpa using c48)])⟩ (by dsimp only; omega))
  refine nx_exit (nx_then_exit (nx_then_exit (nx_in_eq (nx_then (nx_seq (nx_region (nv v_assign (nx_nil (nx_then (nx_ret ?_))))))))))
  exact nx_ret1 rfl (.tmp rfl) (rt (le1) (by (rw [← hI, List.drop_eq_nil_of_le (by omega)]; rfl)))
set_option maxRecDepth 20000 in
set_option maxHeartbeats 1000000 in
theorem rLong_ok {G : Gh} {H : List (Nat × Obj)} {W : World} (hp : Hp G H W) {A1 : Option Addr} {n1 c1 : Nat} {A2 : Option Addr} {n2 c2 : Nat} {A3 : Option Addr} {n3 c3 : Nat} {A4 : Option Addr} {n4 c4 : Nat} {p : Plan} (at_ : Plan.At G A1 n1 c1 A2 n2 c2 A3 n3 c3 A4 n4 c4 p) (ht : 1 ≤ p.top ∧ p.top ≤ 60) : Calls Tryz.prog 74 ⟨[.agg ⟨[.slice A1 n1 c1, .slice A2 n2 c2, .slice A3 n3 c3, .slice A4 n4 c4, .int .i64 p.top, .int .i64 p.brake, .int .i64 p.margin, .int .i64 p.throw_, .bool p.hard]⟩]⟩ W (RetS G H (.bool (longOk p))) := by
  have l1 := at_.h1.length
  have l2 := at_.h2.length
  have l3 := at_.h3.length
  have l4 := at_.h4.length
  have r1 := Nat.le_trans at_.h1.cap at_.h1.room
  have r2 := Nat.le_trans at_.h2.cap at_.h2.room
  have r3 := Nat.le_trans at_.h3.cap at_.h3.room
  have r4 := Nat.le_trans at_.h4.cap at_.h4.room
  have hst := stop_range p.top p.brake
  refine enter Tryz.func74 rfl Tryz.ntmps74 (Nat.le_of_ble_eq_true rfl) hp (nx_seq (nx_region ?_))
  refine nx_op rfl (op_box rfl rfl (fun b1 => ?_))
  refine nv v_assign (nx_nil (nx_then (nx_seq (nx_seq (dr_begin 11 (.q 0 (.q 1 (.q 2 (.q 3 (.q 4 (.q 5 (.q 6 (.q 7 (.l 8 (.q 9 (.q 10 .done))))))))))) rfl (by kernel_rfl) (dr_q rfl rfl v_fieldAddr ic (dr_q rfl rfl v_load1_o ic (dr_q rfl rfl v_fieldAddr ic (dr_q rfl rfl v_load1_o ic (dr_q rfl rfl v_fieldAddr ic (dr_q rfl rfl v_load1_o ic ?_)))))))))))
  refine dr_q rfl rfl v_fieldAddr ic (dr_q rfl rfl v_load1_o ic (dr_l rfl rfl ?_))
  refine op_callS rfl rfl rfl (fun W hp => rStop_ok hp p.top p.brake) ?_
  refine dr_k ic (dr_q rfl rfl v_add ic (dr_q rfl rfl v_lss ic (dr_end rfl ?_)))
  refine nx_nil (nx_np ?_)
  refine nx_then ?_
  refine nx_cond_dec rfl (fun c16 => ?_) (fun c16 => ?_)
  have hno : longOk p = false := if_pos c16
  refine nx_seq (nx_region (nv v_assign (nx_nil (nx_then (nx_ret (nx_then_ret ?_))))))
  exact nx_ret1 rfl (.tmp rfl) (rs (by (rw [hno]; done)))
  have hyes : longOk p = (p.signals.all (sigLong p) && p.elems.all (elLong p)) := if_neg c16
  refine nx_skip (nx_then (nx_seq (nx_seq (nx_region (nv v_assign (nx_nil (nx_then (nx_block ?_))))))))
  refine nx_loop_v (σ := Nat) [0, 1, 6, 7, 8, 9, 10, 11, 12, 13, 14, 15, 16] (fun k => [(3, .int .i64 (k : Int))]) (fun _ => G) (fun _ => _) (fun k => (p.signals.drop k).all (sigLong p) = p.signals.all (sigLong p)) (fun k => n3 - k) 0 (.cons rfl (.cons rfl (.cons rfl (.cons rfl (.cons rfl (.cons rfl (.cons rfl (.cons rfl (.cons rfl (.cons rfl (.cons rfl (.cons rfl (.cons rfl (.nil)))))))))))))) ⟨rfl, trivial⟩ rfl rfl rfl ?_
  intro k hI K next
  refine nx_seq (nx_seq (nx_region (nv v_move (nv v_fieldAddr (nv v_load1_o (nv v_len (nv v_lss (nx_nil (nx_then ?_)))))))))
  refine nx_cond_dec rfl (fun c21 => ?_) (fun c21 => ?_)
  obtain ⟨x, rest, hd, hx⟩ := drop_of_lt (xs := p.signals) (k := k) (by omega)
  obtain ⟨xb, xo, xe, xk, xr, xf0, xf1, xf2, xf3⟩ := next_Signal at_.h3 hd
  cases xe
  refine nx_skip (nx_then (nx_seq (nx_block (nx_seq (nx_region (nv v_fieldAddr (nv v_load1_o (nv v_move (nv (v_indexAddr_nat rfl rfl rfl (by omega)) (nv v_fieldAddr (nv v_fieldAddr ?_)))))))))))
  refine nv v_load1_s (nv v_assign (nx_nil (nx_then (nx_seq (dr_begin 12 (.q 0 (.q 1 (.l 2 (.q 3 (.q 4 (.q 5 (.q 6 (.q 8 (.q 9 (.l 7 (.q 10 (.q 11 .done)))))))))))) rfl (by kernel_rfl) (dr_q rfl rfl v_load_o ic (dr_q rfl rfl v_move ic (dr_l rfl rfl ?_))))))))
  refine op_callS rfl rfl rfl (fun W hp => rKind_ok hp at_ _) ?_
  refine dr_k ic (dr_q rfl rfl v_eql ic (dr_q rfl rfl v_move ic ?_))
  refine nx_guard_dec (t := 35) rfl (fun g35 => ?_) (fun g35 => ?_)
  refine dr_q_run rfl rfl rfl rfl v_load_o ic (dr_q_run rfl rfl rfl rfl v_move ic (dr_q_run rfl rfl rfl rfl v_fieldAddr ic (dr_q_run rfl rfl rfl rfl v_load1_o ic (dr_l_run rfl rfl rfl rfl ?_))))
  refine op_callS rfl rfl rfl (fun W hp => rLength_ok hp at_ _) ?_
  refine dr_k ic (dr_q_run rfl rfl rfl rfl v_lss ic (dr_q rfl rfl v_pick_t ic (dr_end rfl ?_)))
  refine nx_nil (nx_np ?_)
  refine nx_then ?_
  refine nx_cond_dec rfl (fun c42 => ?_) (fun c42 => ?_)
  have hno : longOk p = false := by rw [hyes, all_no hI hd (by simp_all [sigLong])]; rfl
  refine nx_seq (nx_region (nv v_assign (nx_nil (nx_then (nx_ret (nx_in_ret (nx_then_ret (nx_then_ret (nx_in_ret (nx_then_ret ?_))))))))))
  exact nx_ret1 rfl (.tmp rfl) (rs (by (rw [hno]; done)))
  refine nx_skip (nx_in _ (nx_then (nx_region (nv v_move (nv v_add (nv v_assign (nx_nil (nx_then ?_))))))))
  exact nn (next (k + 1) (all_yes hI hd xr (by simp_all [sigLong])) (by omega))
  refine dk (k := dk (k := dk (k := dk (k := dr_l_skip rfl rfl rfl rfl rfl rfl ic (dk (k := dr_q rfl rfl v_pick_f ic (dr_end rfl ?_)))))))
  refine nx_nil (nx_np ?_)
  refine nx_then (nx_cond_f rfl (nx_skip (nx_in _ (nx_then (nx_region (nv v_move (nv v_add (nv v_assign (nx_nil (nx_then ?_))))))))))
  exact nn (next (k + 1) (all_yes hI hd xr (by simp_all [sigLong])) (by omega))
  refine nx_exit (nx_then_exit (nx_then_exit (nx_in_eq (nx_then (nx_seq (nx_seq (nx_region (nv v_assign (nx_nil (nx_then (nx_block ?_)))))))))))
  have h1 := all_end hI (by omega)
  refine nx_loop_v (σ := Nat) [0, 1, 3, 6, 7, 8, 9, 10, 11, 12, 13, 14, 15, 16, 17, 18, 19, 20, 21] (fun k => [(5, .int .i64 (k : Int))]) (fun _ => G) (fun _ => _) (fun k => (p.elems.drop k).all (elLong p) = p.elems.all (elLong p)) (fun k => n1 - k) 0 (.cons rfl (.cons rfl (.cons rfl (.cons rfl (.cons rfl (.cons rfl (.cons rfl (.cons rfl (.cons rfl (.cons rfl (.cons rfl (.cons rfl (.cons rfl (.cons rfl (.cons rfl (.cons rfl (.cons rfl (.cons rfl (.cons rfl (.nil)))))))))))))))))))) ⟨rfl, trivial⟩ rfl rfl rfl ?_
  intro k hI K next
  refine nx_seq (nx_seq (nx_region (nv v_move (nv v_fieldAddr (nv v_load1_o (nv v_len (nv v_lss (nx_nil (nx_then ?_)))))))))
  refine nx_cond_dec rfl (fun c47 => ?_) (fun c47 => ?_)
  obtain ⟨x, rest, hd, hx⟩ := drop_of_lt (xs := p.elems) (k := k) (by omega)
  obtain ⟨xb, xo, xe, xk, xr, xf0, xf1, xf2⟩ := next_Elem at_.h1 hd
  cases xe
  refine nx_skip (nx_then (nx_seq (nx_block (nx_seq (dr_begin 18 (.q 0 (.q 1 (.q 2 (.q 3 (.q 4 (.q 5 (.q 6 (.q 7 (.q 8 (.q 9 (.q 10 (.q 11 (.q 12 (.q 13 (.q 14 (.q 15 (.q 16 (.q 17 .done)))))))))))))))))) rfl (by kernel_rfl) (dr_q rfl rfl v_fieldAddr ic (dr_q rfl rfl v_load1_o ic (dr_q rfl rfl v_move ic (dr_q rfl rfl (v_indexAddr_nat rfl rfl rfl (by omega)) ic (dr_q rfl rfl v_fieldAddr ic (dr_q rfl rfl v_load1_s ic ?_)))))))))))
  refine dr_q rfl rfl v_neq ic (dr_q rfl rfl v_move ic ?_)
  refine nx_guard_dec (t := 57) rfl (fun g57 => ?_) (fun g57 => ?_)
  refine dr_q_run rfl rfl rfl rfl v_fieldAddr ic (dr_q_run rfl rfl rfl rfl v_load1_o ic (dr_q_run rfl rfl rfl rfl v_move ic (dr_q_run rfl rfl rfl rfl (v_indexAddr_nat rfl rfl rfl (by omega)) ic (dr_q_run rfl rfl rfl rfl v_fieldAddr ic (dr_q_run rfl rfl rfl rfl v_load1_s ic (dr_q_run rfl rfl rfl rfl v_fieldAddr ic (dr_q_run rfl rfl rfl rfl v_load1_o ic (dr_q_run rfl rfl rfl rfl v_lss ic (dr_q rfl rfl v_pick_t ic (dr_end rfl ?_))))))))))
  refine nx_nil (nx_np ?_)
  refine nx_then ?_
  refine nx_cond_dec rfl (fun c67 => ?_) (fun c67 => ?_)
  have hno : longOk p = false := by rw [hyes, all_no hI hd (by simp_all [elLong])]; simp
  refine nx_seq (nx_region (nv v_assign (nx_nil (nx_then (nx_ret (nx_in_ret (nx_then_ret (nx_then_ret (nx_in_ret (nx_then_ret ?_))))))))))
  exact nx_ret1 rfl (.tmp rfl) (rs (by (rw [hno]; done)))
  refine nx_skip (nx_in _ (nx_then (nx_region (nv v_move (nv v_add (nv v_assign (nx_nil (nx_then ?_))))))))
  exact nn (next (k + 1) (all_yes hI hd xr (by simp_all [elLong])) (by omega))
  refine dk (k := dk (k := dk (k := dk (k := dk (k := dk (k := dk (k := dk (k := dk (k := dr_q rfl rfl v_pick_f ic (dr_end rfl ?_))))))))))
  refine nx_nil (nx_np ?_)
  refine nx_then (nx_cond_f rfl (nx_skip (nx_in _ (nx_then (nx_region (nv v_move (nv v_add (nv v_assign (nx_nil (nx_then ?_))))))))))
  exact nn (next (k + 1) (all_yes hI hd xr (by simp_all [elLong])) (by omega))
  refine nx_exit (nx_then_exit (nx_then_exit (nx_in_eq (nx_then (nx_seq (nx_region (nv v_assign (nx_nil (nx_then (nx_ret ?_))))))))))
  exact nx_ret1 rfl (.tmp rfl) (rs (by (rw [hyes, h1, all_end hI (by omega)]; rfl)))
theorem fresh_ports {p : Plan} : ∀ {l seen : List Port}, freshOk p seen l = true → ∀ x, x ∈ l → p.isPort x = true
  | [], _, _, x, hx => absurd hx List.not_mem_nil
  | y :: l, seen, h, x, hx => by
    unfold freshOk at h
    simp only [Bool.and_eq_true] at h
    rcases List.mem_cons.1 hx with rfl | hx
    · exact h.1
    · exact fresh_ports h.2.2 x hx
theorem rJoined_fin {p : Plan} (h : rJoined p = true) : ∀ j, j ∈ p.joins → (0 ≤ j.a.fin ∧ j.a.fin < 4) ∧ (0 ≤ j.b.fin ∧ j.b.fin < 4) := by
  intro j hj
  unfold rJoined at h
  simp only [Bool.and_eq_true] at h
  have ha : j.a ∈ jPorts p.joins := List.mem_flatMap.2 ⟨j, hj, by simp⟩
  have hb : j.b ∈ jPorts p.joins := List.mem_flatMap.2 ⟨j, hj, by simp⟩
  obtain ⟨_, _, _, h1⟩ := Plan.isPort_elem (fresh_ports h.1 _ ha)
  obtain ⟨_, _, _, h2⟩ := Plan.isPort_elem (fresh_ports h.1 _ hb)
  exact ⟨h1, h2⟩
def dupNames (p : Plan) : Bool := dupG [] (p.elems.map (·.name)) || dupG [] (p.signals.map (·.name)) || dupG [] (p.lines.map (·.name))
def rCheck (p : Plan) : Int := if tooMuch p then 3 else if !numbersOk p then 1 else if dupNames p then 4 else if !rJoined p then 6 else if !rSignals p then 7 else if !rLines p then 8 else if !longOk p then 9 else 0
set_option maxRecDepth 20000 in
set_option maxHeartbeats 1000000 in
theorem rCheck_ok {G : Gh} {H : List (Nat × Obj)} {W : World} (hp : Hp G H W) {A1 : Option Addr} {n1 c1 : Nat} {A2 : Option Addr} {n2 c2 : Nat} {A3 : Option Addr} {n3 c3 : Nat} {A4 : Option Addr} {n4 c4 : Nat} {p : Plan} (at_ : Plan.At G A1 n1 c1 A2 n2 c2 A3 n3 c3 A4 n4 c4 p) (fw : p.Few) : Calls Tryz.prog 27 ⟨[.agg ⟨[.slice A1 n1 c1, .slice A2 n2 c2, .slice A3 n3 c3, .slice A4 n4 c4, .int .i64 p.top, .int .i64 p.brake, .int .i64 p.margin, .int .i64 p.throw_, .bool p.hard]⟩]⟩ W (RetD G H (fun _ v => v = .int .i64 (rCheck p))) := by
  have l1 := at_.h1.length
  have l2 := at_.h2.length
  have l3 := at_.h3.length
  have l4 := at_.h4.length
  have r1 := Nat.le_trans at_.h1.cap at_.h1.room
  have r2 := Nat.le_trans at_.h2.cap at_.h2.room
  have r3 := Nat.le_trans at_.h3.cap at_.h3.room
  have r4 := Nat.le_trans at_.h4.cap at_.h4.room
  refine enter Tryz.func27 rfl Tryz.ntmps27 (Nat.le_of_ble_eq_true rfl) hp (nx_seq (nx_region ?_))
  refine nx_op rfl (op_box rfl rfl (fun b1 => ?_))
  refine nv v_assign (nx_nil (nx_then (nx_seq (nx_seq (nx_region (nv v_fieldAddr (nv v_load1_o (nv v_len (nv v_gtr (nv v_move ?_))))))))))
  refine nx_guard_dec (t := 10) rfl (fun g10 => ?_) (fun g10 => ?_)
  refine nk (k := nk (k := nk (k := nk (k := nv v_pick_t (nv v_move (nk (k := nk (k := nk (k := nk (k := nv v_pick_t (nv v_move ?_)))))))))))
  refine nk (k := nk (k := nk (k := nk (k := nv v_pick_t (nx_nil (nx_then (nx_cond_t rfl ?_)))))))
  have hE : rCheck p = 3 := by unfold rCheck; rw [if_pos (by simp only [tooMuch, Bool.or_eq_true, decide_eq_true_eq]; omega)]
  refine nx_seq (nx_region (nv v_assign (nx_nil (nx_then (nx_ret (nx_then_ret ?_))))))
  exact nx_ret1 rfl (.tmp rfl) (rt ((Gh.le.refl _)) (by rw [hE]))
  refine nr v_fieldAddr (nr v_load1_o (nr v_len (nr v_gtr (nv v_pick_f (nv v_move ?_)))))
  refine nx_guard_dec (t := 16) rfl (fun g16 => ?_) (fun g16 => ?_)
  refine nk (k := nk (k := nk (k := nk (k := nv v_pick_t (nv v_move (nk (k := nk (k := nk (k := nk (k := nv v_pick_t (nx_nil ?_)))))))))))
  refine nx_then (nx_cond_t rfl ?_)
  have hE : rCheck p = 3 := by unfold rCheck; rw [if_pos (by simp only [tooMuch, Bool.or_eq_true, decide_eq_true_eq]; omega)]
  refine nx_seq (nx_region (nv v_assign (nx_nil (nx_then (nx_ret (nx_then_ret ?_))))))
  exact nx_ret1 rfl (.tmp rfl) (rt ((Gh.le.refl _)) (by rw [hE]))
  refine nr v_fieldAddr (nr v_load1_o (nr v_len (nr v_gtr (nv v_pick_f (nv v_move ?_)))))
  refine nx_guard_dec (t := 22) rfl (fun g22 => ?_) (fun g22 => ?_)
  refine nk (k := nk (k := nk (k := nk (k := nv v_pick_t (nx_nil (nx_then (nx_cond_t rfl ?_)))))))
  have hE : rCheck p = 3 := by unfold rCheck; rw [if_pos (by simp only [tooMuch, Bool.or_eq_true, decide_eq_true_eq]; omega)]
  refine nx_seq (nx_region (nv v_assign (nx_nil (nx_then (nx_ret (nx_then_ret ?_))))))
  exact nx_ret1 rfl (.tmp rfl) (rt ((Gh.le.refl _)) (by rw [hE]))
  refine nr v_fieldAddr (nr v_load1_o (nr v_len (nr v_gtr (nv v_pick_f (nx_nil (nx_then ?_))))))
  refine nx_cond_dec rfl (fun c27 => ?_) (fun c27 => ?_)
  have hE : rCheck p = 3 := by unfold rCheck; rw [if_pos (by simp only [tooMuch, Bool.or_eq_true, decide_eq_true_eq]; omega)]
  refine nx_seq (nx_region (nv v_assign (nx_nil (nx_then (nx_ret (nx_then_ret ?_))))))
  exact nx_ret1 rfl (.tmp rfl) (rt ((Gh.le.refl _)) (by rw [hE]))
  have h1 : tooMuch p = false := by simp only [tooMuch, Bool.or_eq_false_iff, decide_eq_false_iff_not]; omega
  refine nx_skip (nx_then (nx_seq (nx_region (nv v_load_o ?_))))
  refine nx_op rfl (op_callD rfl rfl rfl (fun W hp => rNames_ok hp at_ fw) (fun v30 G30 le30 ph30 => ?_))
  obtain ⟨B1, m1, d1, B2, m2, d2, B3, m3, d3, rfl, hs1, hs2, hs3⟩ := ph30
  refine nv v_move (nv (v_extract rfl rfl rfl) (nv (v_extract rfl rfl rfl) (nv (v_extract rfl rfl rfl) (nv v_assign (nv v_assign (nv v_assign (nx_nil (nx_then (nx_seq (nx_block (nx_seq ?_)))))))))))
  refine nx_region (nv v_load_o ?_)
  refine nx_op rfl (op_callS rfl rfl rfl (fun W hp => rArgs_ok hp (at_.le le30) fw) ?_)
  refine nv v_not (nv v_assign (nx_nil (nx_then ?_)))
  refine nx_cond rfl (fun c34 => ?_) (fun c34 => ?_)
  have hE : rCheck p = 1 := by unfold rCheck; rw [h1]; simp_all
  refine nx_seq (nx_region (nv v_assign (nx_nil (nx_then (nx_ret (nx_in_ret (nx_then_ret ?_)))))))
  exact nx_ret1 rfl (.tmp rfl) (rt (le30) (by rw [hE]))
  have h2 : numbersOk p = true := by simpa using c34
  refine nx_seq (nx_region (nv v_move ?_))
  refine nx_op rfl (op_callS rfl rfl rfl (fun W hp => rTwice_ok hp hs1) ?_)
  refine nv v_move ?_
  refine nx_guard (t := 41) rfl (fun g41 => ?_) (fun g41 => ?_)
  refine nk (k := nk (k := nv v_pick_t (nv v_move (nk (k := nk (k := nv v_pick_t (nv v_assign (nx_nil (nx_then (nx_cond_t rfl ?_))))))))))
  have hE : rCheck p = 4 := by unfold rCheck; rw [h1, h2]; simp_all [dupNames]
  refine nx_seq (nx_region (nv v_assign (nx_nil (nx_then (nx_ret (nx_in_ret (nx_then_ret ?_)))))))
  exact nx_ret1 rfl (.tmp rfl) (rt (le30) (by rw [hE]))
  refine nr v_move ?_
  refine nx_op_run rfl rfl rfl (op_callS rfl rfl rfl (fun W hp => rTwice_ok hp hs2) ?_)
  refine nv v_pick_f (nv v_move ?_)
  refine nx_guard (t := 45) rfl (fun g45 => ?_) (fun g45 => ?_)
  refine nk (k := nk (k := nv v_pick_t (nv v_assign (nx_nil (nx_then (nx_cond_t rfl ?_))))))
  have hE : rCheck p = 4 := by unfold rCheck; rw [h1, h2]; simp_all [dupNames]
  refine nx_seq (nx_region (nv v_assign (nx_nil (nx_then (nx_ret (nx_in_ret (nx_then_ret ?_)))))))
  exact nx_ret1 rfl (.tmp rfl) (rt (le30) (by rw [hE]))
  refine nr v_move ?_
  refine nx_op_run rfl rfl rfl (op_callS rfl rfl rfl (fun W hp => rTwice_ok hp hs3) ?_)
  refine nv v_pick_f (nv v_assign (nx_nil (nx_then ?_)))
  refine nx_cond rfl (fun c38 => ?_) (fun c38 => ?_)
  have hE : rCheck p = 4 := by unfold rCheck; rw [h1, h2]; simp_all [dupNames]
  refine nx_seq (nx_region (nv v_assign (nx_nil (nx_then (nx_ret (nx_in_ret (nx_then_ret ?_)))))))
  exact nx_ret1 rfl (.tmp rfl) (rt (le30) (by rw [hE]))
  have h3 : dupNames p = false := by simp_all [dupNames]
  refine nx_seq (nx_region (nv v_load_o ?_))
  refine nx_op rfl (op_callD rfl rfl rfl (fun W hp => rJoined_ok hp (at_.le le30) fw) (fun v51 G51 le51 ph51 => ?_))
  subst ph51
  refine nv v_not (nv v_assign (nx_nil (nx_then ?_)))
  refine nx_cond rfl (fun c49 => ?_) (fun c49 => ?_)
  have hE : rCheck p = 6 := by unfold rCheck; rw [h1, h2, h3]; simp_all
  refine nx_seq (nx_region (nv v_assign (nx_nil (nx_then (nx_ret (nx_in_ret (nx_then_ret ?_)))))))
  exact nx_ret1 rfl (.tmp rfl) (rt ((Gh.le.trans le30 le51)) (by rw [hE]))
  have h4 : rJoined p = true := by simpa using c49
  refine nx_seq (nx_region (nv v_load_o ?_))
  refine nx_op rfl (op_callS rfl rfl rfl (fun W hp => rSignals_ok hp (at_.le (Gh.le.trans le30 le51))) ?_)
  refine nv v_not (nv v_assign (nx_nil (nx_then ?_)))
  refine nx_cond rfl (fun c53 => ?_) (fun c53 => ?_)
  have hE : rCheck p = 7 := by unfold rCheck; rw [h1, h2, h3, h4]; simp_all
  refine nx_seq (nx_region (nv v_assign (nx_nil (nx_then (nx_ret (nx_in_ret (nx_then_ret ?_)))))))
  exact nx_ret1 rfl (.tmp rfl) (rt ((Gh.le.trans le30 le51)) (by rw [hE]))
  have h5 : rSignals p = true := by simpa using c53
  refine nx_seq (nx_region (nv v_load_o ?_))
  refine nx_op rfl (op_callD rfl rfl rfl (fun W hp => rLines_ok hp (at_.le (Gh.le.trans le30 le51)) (rJoined_fin h4) fw) (fun v59 G59 le59 ph59 => ?_))
  subst ph59
  refine nv v_not (nv v_assign (nx_nil (nx_then ?_)))
  refine nx_cond rfl (fun c57 => ?_) (fun c57 => ?_)
  have hE : rCheck p = 8 := by unfold rCheck; rw [h1, h2, h3, h4, h5]; simp_all
  refine nx_seq (nx_region (nv v_assign (nx_nil (nx_then (nx_ret (nx_in_ret (nx_then_ret ?_)))))))
  exact nx_ret1 rfl (.tmp rfl) (rt ((Gh.le.trans le30 (Gh.le.trans le51 le59))) (by rw [hE]))
  have h6 : rLines p = true := by simpa using c57
  refine nx_seq (nx_region (nv v_load_o ?_))
  refine nx_op rfl (op_callS rfl rfl rfl (fun W hp => rLong_ok hp (at_.le (Gh.le.trans le30 (Gh.le.trans le51 le59))) (numbers_top h2)) ?_)
  refine nv v_not (nv v_assign (nx_nil (nx_then ?_)))
  refine nx_cond rfl (fun c61 => ?_) (fun c61 => ?_)
  have hE : rCheck p = 9 := by unfold rCheck; rw [h1, h2, h3, h4, h5, h6]; simp_all
  refine nx_seq (nx_region (nv v_assign (nx_nil (nx_then (nx_ret (nx_in_ret (nx_then_ret ?_)))))))
  exact nx_ret1 rfl (.tmp rfl) (rt ((Gh.le.trans le30 (Gh.le.trans le51 le59))) (by rw [hE]))
  have hE : rCheck p = 0 := by unfold rCheck; rw [h1, h2, h3, h4, h5, h6]; simp_all
  refine nx_skip (nx_in _ (nx_then (nx_seq (nx_region (nv v_assign (nx_nil (nx_then (nx_ret ?_))))))))
  exact nx_ret1 rfl (.tmp rfl) (rt ((Gh.le.trans le30 (Gh.le.trans le51 le59))) (by rw [hE]))
def fewNums (p : Plan) : Bool := decide (p.elems.length ≤ 60) && decide (p.joins.length ≤ 120) && decide (p.signals.length ≤ 60) && decide (p.lines.length ≤ 20)
def fewP (p : Plan) : Bool := fewNums p && (p.lines.all (fun l => decide (l.elems.length ≤ 60) && decide (l.name.size ≤ 100)) && (p.elems.all (fun e => decide (e.name.size ≤ 100)) && p.signals.all (fun s => decide (s.name.size ≤ 100))))
theorem fewP_ok {p : Plan} (h : fewP p = true) : p.Few := by
  unfold fewP fewNums at h
  simp only [Bool.and_eq_true, decide_eq_true_eq, List.all_eq_true] at h
  obtain ⟨⟨⟨⟨a, b⟩, c⟩, d⟩, e, f, g⟩ := h
  exact ⟨a, b, c, d, e, f, g⟩
set_option maxRecDepth 20000 in
set_option maxHeartbeats 1000000 in
theorem rFew_ok {G : Gh} {H : List (Nat × Obj)} {W : World} (hp : Hp G H W) {A1 : Option Addr} {n1 c1 : Nat} {A2 : Option Addr} {n2 c2 : Nat} {A3 : Option Addr} {n3 c3 : Nat} {A4 : Option Addr} {n4 c4 : Nat} {p : Plan} (at_ : Plan.At G A1 n1 c1 A2 n2 c2 A3 n3 c3 A4 n4 c4 p) : Calls Tryz.prog 26 ⟨[.agg ⟨[.slice A1 n1 c1, .slice A2 n2 c2, .slice A3 n3 c3, .slice A4 n4 c4, .int .i64 p.top, .int .i64 p.brake, .int .i64 p.margin, .int .i64 p.throw_, .bool p.hard]⟩]⟩ W (RetS G H (.bool (fewP p))) := by
  have l1 := at_.h1.length
  have l2 := at_.h2.length
  have l3 := at_.h3.length
  have l4 := at_.h4.length
  have r1 := Nat.le_trans at_.h1.cap at_.h1.room
  have r2 := Nat.le_trans at_.h2.cap at_.h2.room
  have r3 := Nat.le_trans at_.h3.cap at_.h3.room
  have r4 := Nat.le_trans at_.h4.cap at_.h4.room
  refine enter Tryz.func26 rfl Tryz.ntmps26 (Nat.le_of_ble_eq_true rfl) hp (nx_seq (nx_region ?_))
  refine nx_op rfl (op_box rfl rfl (fun b1 => ?_))
  refine nv v_assign (nx_nil (nx_then (nx_seq (nx_seq (nx_region (nv v_fieldAddr (nv v_load1_o (nv v_len (nv v_gtr (nv v_move ?_))))))))))
  refine nx_guard_dec (t := 10) rfl (fun g10 => ?_) (fun g10 => ?_)
  refine nk (k := nk (k := nk (k := nk (k := nv v_pick_t (nv v_move (nk (k := nk (k := nk (k := nk (k := nv v_pick_t (nv v_move ?_)))))))))))
  refine nk (k := nk (k := nk (k := nk (k := nv v_pick_t (nx_nil (nx_then (nx_cond_t rfl ?_)))))))
  have hno : fewP p = false := by
    have h0 : fewNums p = false := by simp only [fewNums, Bool.and_eq_false_iff, decide_eq_false_iff_not]; omega
    unfold fewP; rw [h0]; rfl
  refine nx_seq (nx_region (nv v_assign (nx_nil (nx_then (nx_ret (nx_then_ret ?_))))))
  exact nx_ret1 rfl (.tmp rfl) (rs (by (rw [hno]; done)))
  refine nr v_fieldAddr (nr v_load1_o (nr v_len (nr v_gtr (nv v_pick_f (nv v_move ?_)))))
  refine nx_guard_dec (t := 16) rfl (fun g16 => ?_) (fun g16 => ?_)
  refine nk (k := nk (k := nk (k := nk (k := nv v_pick_t (nv v_move (nk (k := nk (k := nk (k := nk (k := nv v_pick_t (nx_nil ?_)))))))))))
  refine nx_then (nx_cond_t rfl ?_)
  have hno : fewP p = false := by
    have h0 : fewNums p = false := by simp only [fewNums, Bool.and_eq_false_iff, decide_eq_false_iff_not]; omega
    unfold fewP; rw [h0]; rfl
  refine nx_seq (nx_region (nv v_assign (nx_nil (nx_then (nx_ret (nx_then_ret ?_))))))
  exact nx_ret1 rfl (.tmp rfl) (rs (by (rw [hno]; done)))
  refine nr v_fieldAddr (nr v_load1_o (nr v_len (nr v_gtr (nv v_pick_f (nv v_move ?_)))))
  refine nx_guard_dec (t := 22) rfl (fun g22 => ?_) (fun g22 => ?_)
  refine nk (k := nk (k := nk (k := nk (k := nv v_pick_t (nx_nil (nx_then (nx_cond_t rfl ?_)))))))
  have hno : fewP p = false := by
    have h0 : fewNums p = false := by simp only [fewNums, Bool.and_eq_false_iff, decide_eq_false_iff_not]; omega
    unfold fewP; rw [h0]; rfl
  refine nx_seq (nx_region (nv v_assign (nx_nil (nx_then (nx_ret (nx_then_ret ?_))))))
  exact nx_ret1 rfl (.tmp rfl) (rs (by (rw [hno]; done)))
  refine nr v_fieldAddr (nr v_load1_o (nr v_len (nr v_gtr (nv v_pick_f (nx_nil (nx_then ?_))))))
  refine nx_cond_dec rfl (fun c27 => ?_) (fun c27 => ?_)
  have hno : fewP p = false := by
    have h0 : fewNums p = false := by simp only [fewNums, Bool.and_eq_false_iff, decide_eq_false_iff_not]; omega
    unfold fewP; rw [h0]; rfl
  refine nx_seq (nx_region (nv v_assign (nx_nil (nx_then (nx_ret (nx_then_ret ?_))))))
  exact nx_ret1 rfl (.tmp rfl) (rs (by (rw [hno]; done)))
  have h0 : fewNums p = true := by simp only [fewNums, Bool.and_eq_true, decide_eq_true_eq]; omega
  refine nx_skip (nx_then (nx_seq (nx_seq (nx_region (nv v_assign (nx_nil (nx_then (nx_block ?_))))))))
  refine nx_loop_v (σ := Nat) [0, 1, 6, 7, 8, 9, 10, 11, 12, 13, 14, 15, 16, 17, 18, 19, 20, 21, 22, 23, 24, 25, 26, 27] (fun k => [(3, .int .i64 (k : Int))]) (fun _ => G) (fun _ => _) (fun k => (p.lines.drop k).all (fun l => decide (l.elems.length ≤ 60) && decide (l.name.size ≤ 100)) = p.lines.all (fun l => decide (l.elems.length ≤ 60) && decide (l.name.size ≤ 100))) (fun k => n4 - k) 0 (.cons rfl (.cons rfl (.cons rfl (.cons rfl (.cons rfl (.cons rfl (.cons rfl (.cons rfl (.cons rfl (.cons rfl (.cons rfl (.cons rfl (.cons rfl (.cons rfl (.cons rfl (.cons rfl (.cons rfl (.cons rfl (.cons rfl (.cons rfl (.cons rfl (.cons rfl (.cons rfl (.cons rfl (.nil))))))))))))))))))))))))) ⟨rfl, trivial⟩ rfl rfl rfl ?_
  intro k hI K next
  refine nx_seq (nx_seq (nx_region (nv v_move (nv v_fieldAddr (nv v_load1_o (nv v_len (nv v_lss (nx_nil (nx_then ?_)))))))))
  refine nx_cond_dec rfl (fun c32 => ?_) (fun c32 => ?_)
  obtain ⟨x, rest, hd, hx⟩ := drop_of_lt (xs := p.lines) (k := k) (by omega)
  obtain ⟨xb, xo, xA1, xn1, xc1, xe, xk, xr, xf0, xf1, xat⟩ := next_Line at_.h4 hd
  cases xe
  have hxl := xat.h1.length
  refine nx_skip (nx_then (nx_seq (nx_block (nx_seq (nx_region (nv v_fieldAddr (nv v_load1_o (nv v_move (nv (v_indexAddr_nat rfl rfl rfl (by omega)) (nv v_fieldAddr (nv v_load1_s ?_)))))))))))
  refine nv v_len (nv v_gtr (nv v_move ?_))
  refine nx_guard_dec (t := 43) rfl (fun g43 => ?_) (fun g43 => ?_)
  refine nk (k := nk (k := nk (k := nk (k := nk (k := nk (k := nk (k := nk (k := nv v_pick_t (nx_nil (nx_then (nx_cond_t rfl ?_)))))))))))
  have hno : fewP p = false := by unfold fewP; rw [h0, all_no hI hd (by simp; omega)]; rfl
  refine nx_seq (nx_region (nv v_assign (nx_nil (nx_then (nx_ret (nx_in_ret (nx_then_ret (nx_then_ret (nx_in_ret (nx_then_ret ?_))))))))))
  exact nx_ret1 rfl (.tmp rfl) (rs (by (rw [hno]; done)))
  refine nr v_fieldAddr (nr v_load1_o (nr v_move (nr (v_indexAddr_nat rfl rfl rfl (by omega)) (nr v_fieldAddr (nr v_load1_s (nr v_len_str (nr v_gtr (nv v_pick_f (nx_nil (nx_then ?_))))))))))
  refine nx_cond_dec rfl (fun c52 => ?_) (fun c52 => ?_)
  have hno : fewP p = false := by unfold fewP; rw [h0, all_no hI hd (by simp; omega)]; rfl
  refine nx_seq (nx_region (nv v_assign (nx_nil (nx_then (nx_ret (nx_in_ret (nx_then_ret (nx_then_ret (nx_in_ret (nx_then_ret ?_))))))))))
  exact nx_ret1 rfl (.tmp rfl) (rs (by (rw [hno]; done)))
  refine nx_skip (nx_in _ (nx_then (nx_region (nv v_move (nv v_add (nv v_assign (nx_nil (nx_then ?_))))))))
  exact nn (next (k + 1) (all_yes hI hd xr (by simp; omega)) (by omega))
  refine nx_exit (nx_then_exit (nx_then_exit (nx_in_eq (nx_then (nx_seq (nx_seq (nx_region (nv v_assign (nx_nil (nx_then (nx_block ?_)))))))))))
  have h1 := all_end hI (by omega)
  refine nx_loop_v (σ := Nat) [0, 1, 3, 6, 7, 8, 9, 10, 11, 12, 13, 14, 15, 16, 17, 18, 19, 20, 21, 22, 23, 24, 25, 26, 27, 28, 29, 30, 31, 32] (fun k => [(4, .int .i64 (k : Int))]) (fun _ => G) (fun _ => _) (fun k => (p.elems.drop k).all (fun e => decide (e.name.size ≤ 100)) = p.elems.all (fun e => decide (e.name.size ≤ 100))) (fun k => n1 - k) 0 (.cons rfl (.cons rfl (.cons rfl (.cons rfl (.cons rfl (.cons rfl (.cons rfl (.cons rfl (.cons rfl (.cons rfl (.cons rfl (.cons rfl (.cons rfl (.cons rfl (.cons rfl (.cons rfl (.cons rfl (.cons rfl (.cons rfl (.cons rfl (.cons rfl (.cons rfl (.cons rfl (.cons rfl (.cons rfl (.cons rfl (.cons rfl (.cons rfl (.cons rfl (.cons rfl (.nil))))))))))))))))))))))))))))))) ⟨rfl, trivial⟩ rfl rfl rfl ?_
  intro k hI K next
  refine nx_seq (nx_seq (nx_region (nv v_move (nv v_fieldAddr (nv v_load1_o (nv v_len (nv v_lss (nx_nil (nx_then ?_)))))))))
  refine nx_cond_dec rfl (fun c57 => ?_) (fun c57 => ?_)
  obtain ⟨x, rest, hd, hx⟩ := drop_of_lt (xs := p.elems) (k := k) (by omega)
  obtain ⟨xb, xo, xe, xk, xr, xf0, xf1, xf2⟩ := next_Elem at_.h1 hd
  cases xe
  refine nx_skip (nx_then (nx_seq (nx_block (nx_seq (nx_region (nv v_fieldAddr (nv v_load1_o (nv v_move (nv (v_indexAddr_nat rfl rfl rfl (by omega)) (nv v_fieldAddr (nv v_load1_s ?_)))))))))))
  refine nv v_len_str (nv v_gtr (nx_nil (nx_then ?_)))
  refine nx_cond_dec rfl (fun c67 => ?_) (fun c67 => ?_)
  have hno : fewP p = false := by unfold fewP; rw [h0, h1, all_no hI hd (by simp; omega)]; rfl
  refine nx_seq (nx_region (nv v_assign (nx_nil (nx_then (nx_ret (nx_in_ret (nx_then_ret (nx_then_ret (nx_in_ret (nx_then_ret ?_))))))))))
  exact nx_ret1 rfl (.tmp rfl) (rs (by (rw [hno]; done)))
  refine nx_skip (nx_in _ (nx_then (nx_region (nv v_move (nv v_add (nv v_assign (nx_nil (nx_then ?_))))))))
  exact nn (next (k + 1) (all_yes hI hd xr (by simp; omega)) (by omega))
  refine nx_exit (nx_then_exit (nx_then_exit (nx_in_eq (nx_then (nx_seq (nx_seq (nx_region (nv v_assign (nx_nil (nx_then (nx_block ?_)))))))))))
  have h2 := all_end hI (by omega)
  refine nx_loop_v (σ := Nat) [0, 1, 3, 4, 6, 7, 8, 9, 10, 11, 12, 13, 14, 15, 16, 17, 18, 19, 20, 21, 22, 23, 24, 25, 26, 27, 28, 29, 30, 31, 32, 53, 54, 55, 56, 57] (fun k => [(5, .int .i64 (k : Int))]) (fun _ => G) (fun _ => _) (fun k => (p.signals.drop k).all (fun e => decide (e.name.size ≤ 100)) = p.signals.all (fun e => decide (e.name.size ≤ 100))) (fun k => n3 - k) 0 (.cons rfl (.cons rfl (.cons rfl (.cons rfl (.cons rfl (.cons rfl (.cons rfl (.cons rfl (.cons rfl (.cons rfl (.cons rfl (.cons rfl (.cons rfl (.cons rfl (.cons rfl (.cons rfl (.cons rfl (.cons rfl (.cons rfl (.cons rfl (.cons rfl (.cons rfl (.cons rfl (.cons rfl (.cons rfl (.cons rfl (.cons rfl (.cons rfl (.cons rfl (.cons rfl (.cons rfl (.cons rfl (.cons rfl (.cons rfl (.cons rfl (.cons rfl (.nil))))))))))))))))))))))))))))))))))))) ⟨rfl, trivial⟩ rfl rfl rfl ?_
  intro k hI K next
  refine nx_seq (nx_seq (nx_region (nv v_move (nv v_fieldAddr (nv v_load1_o (nv v_len (nv v_lss (nx_nil (nx_then ?_)))))))))
  refine nx_cond_dec rfl (fun c72 => ?_) (fun c72 => ?_)
  obtain ⟨x, rest, hd, hx⟩ := drop_of_lt (xs := p.signals) (k := k) (by omega)
  obtain ⟨xb, xo, xe, xk, xr, xf0, xf1, xf2, xf3⟩ := next_Signal at_.h3 hd
  cases xe
  refine nx_skip (nx_then (nx_seq (nx_block (nx_seq (nx_region (nv v_fieldAddr (nv v_load1_o (nv v_move (nv (v_indexAddr_nat rfl rfl rfl (by omega)) (nv v_fieldAddr (nv v_load1_s ?_)))))))))))
  refine nv v_len_str (nv v_gtr (nx_nil (nx_then ?_)))
  refine nx_cond_dec rfl (fun c82 => ?_) (fun c82 => ?_)
  have hno : fewP p = false := by unfold fewP; rw [h0, h1, h2, all_no hI hd (by simp; omega)]; rfl
  refine nx_seq (nx_region (nv v_assign (nx_nil (nx_then (nx_ret (nx_in_ret (nx_then_ret (nx_then_ret (nx_in_ret (nx_then_ret ?_))))))))))
  exact nx_ret1 rfl (.tmp rfl) (rs (by (rw [hno]; done)))
  refine nx_skip (nx_in _ (nx_then (nx_region (nv v_move (nv v_add (nv v_assign (nx_nil (nx_then ?_))))))))
  exact nn (next (k + 1) (all_yes hI hd xr (by simp; omega)) (by omega))
  refine nx_exit (nx_then_exit (nx_then_exit (nx_in_eq (nx_then (nx_seq (nx_region (nv v_assign (nx_nil (nx_then (nx_ret ?_))))))))))
  exact nx_ret1 rfl (.tmp rfl) (rs (by (unfold fewP; rw [h0, h1, h2, all_end hI (by omega)]; rfl)))
def rFine (p : Plan) : Bool := fewP p && decide (rCheck p = 0)
set_option maxRecDepth 20000 in
set_option maxHeartbeats 1000000 in
theorem rFine_ok {G : Gh} {H : List (Nat × Obj)} {W : World} (hp : Hp G H W) {A1 : Option Addr} {n1 c1 : Nat} {A2 : Option Addr} {n2 c2 : Nat} {A3 : Option Addr} {n3 c3 : Nat} {A4 : Option Addr} {n4 c4 : Nat} {p : Plan} (at_ : Plan.At G A1 n1 c1 A2 n2 c2 A3 n3 c3 A4 n4 c4 p) : Calls Tryz.prog 8 ⟨[.agg ⟨[.slice A1 n1 c1, .slice A2 n2 c2, .slice A3 n3 c3, .slice A4 n4 c4, .int .i64 p.top, .int .i64 p.brake, .int .i64 p.margin, .int .i64 p.throw_, .bool p.hard]⟩]⟩ W (RetD G H (fun _ v => v = .bool (rFine p))) := by
  refine enter Tryz.func8 rfl Tryz.ntmps8 (Nat.le_of_ble_eq_true rfl) hp (nx_seq (nx_region ?_))
  refine nx_op rfl (op_box rfl rfl (fun b1 => ?_))
  refine nv v_assign (nx_nil (nx_then (nx_seq (nx_region (nv v_load_o ?_)))))
  refine nx_op rfl (op_callS rfl rfl rfl (fun W hp => rFew_ok hp at_) ?_)
  refine nv v_move ?_
  refine nx_guard (t := 5) rfl (fun g5 => ?_) (fun g5 => ?_)
  refine nr v_load_o ?_
  refine nx_op_run rfl rfl rfl (op_callD rfl rfl rfl (fun W hp => rCheck_ok hp at_ (fewP_ok g5)) (fun v7 G7 le7 ph7 => ?_))
  subst ph7
  refine nr v_eql (nv v_pick_t (nv v_assign (nx_nil (nx_then (nx_ret ?_)))))
  exact nx_ret1 rfl (.tmp rfl) (rt (le7) (by unfold rFine; simp_all))
  refine nk (k := nk (k := nk (k := nv v_pick_f (nv v_assign (nx_nil (nx_then (nx_ret ?_)))))))
  exact nx_ret1 rfl (.tmp rfl) (rt ((Gh.le.refl _)) (by unfold rFine; simp_all))
end Go.Proofs.YtjckojnlapchoaaGreat
