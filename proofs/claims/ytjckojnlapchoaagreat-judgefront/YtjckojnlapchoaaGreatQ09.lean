/- Part 9 of a proof of a law over the program: Judge1, Judge2, Judge3, Judge4, Judge5, Stock. Conditions: none beyond what each statement says. -/
import Derived.Test.YtjckojnlapchoaaGreatQ07
set_option linter.unusedVariables false
set_option linter.unusedSimpArgs false
open Go Go.RowKit
namespace Go.Proofs.YtjckojnlapchoaaGreat
open Go.Proofs
theorem set_next {α : Type} (a : List α) (m : Nat) (z v : α) : (a ++ List.replicate (m + 1) z).set a.length v = (a ++ [v]) ++ List.replicate m z := by
  rw [List.replicate_succ, List.set_append_right _ _ (Nat.le_refl _), Nat.sub_self, List.set_cons_zero, List.append_assoc]; rfl
theorem rows_bool_map {G : Gh} (l : List Bool) : Rows tBool G (l.map fun x => .bool x) l := by
  have := rows_Bool (G := G) l
  rwa [flat_one] at this
set_option maxRecDepth 20000 in
set_option maxHeartbeats 1000000 in
theorem first1_ok {G : Gh} {H : List (Nat × Obj)} {W : World} (hp : Hp G H W) {A1 : Option Addr} {n1 c1 : Nat} {b : Body} (bt : Body.At G A1 n1 c1 b) {q : Nat} {at_ : Int} (hm : (q, row [.int .i64 at_] 3) ∈ H) : Calls Tryz.prog 96 ⟨[.agg ⟨[.int .i64 b.mode, .slice A1 n1 c1, .int .i64 b.left, .int .i64 b.over, .int .i64 b.v]⟩, .pointer (some ⟨q, 0, none⟩)]⟩ W (RetS G H (.bool (b.waiting && decide (b.gateAt = at_)))) := by
  refine enter Tryz.func96 rfl Tryz.ntmps96 (Nat.le_of_ble_eq_true rfl) hp (nx_seq (nx_region ?_))
  refine nx_op rfl (op_box rfl rfl (fun b2 => ?_))
  refine nv v_assign (nx_nil (nx_then (nx_seq (nx_region (nv v_load_o ?_)))))
  refine nx_op rfl (op_callS rfl rfl rfl (fun W hp => lgate_ok hp bt) ?_)
  refine nv v_move (nv (v_extract rfl rfl rfl) (nv (v_extract rfl rfl rfl) (nv v_assign (nv v_assign (nx_nil (nx_then (nx_seq (nx_region (nv v_move (nv v_move ?_))))))))))
  refine nx_guard (t := 12) rfl (fun g12 => ?_) (fun g12 => ?_)
  refine nr v_move (nr (v_load1 rfl rfl (Rd.own (List.mem_cons_of_mem _ hm) rfl)) (nr v_eql (nv v_pick_t (nv v_assign (nx_nil (nx_then (nx_ret ?_)))))))
  exact nx_ret1 rfl (.tmp rfl) (rs (by simp [*]))
  refine nk (k := nk (k := nk (k := nv v_pick_f (nv v_assign (nx_nil (nx_then (nx_ret ?_)))))))
  exact nx_ret1 rfl (.tmp rfl) (rs (by simp [*]))
def firstOk (pre : List Body) (b : Body) : Bool := !b.waiting || !(pre.any fun x => x.waiting && decide (x.gateAt = b.gateAt))
def firstF : List Body → List Body → List Bool
  | _, [] => []
  | pre, b :: r => firstOk pre b :: firstF (pre ++ [b]) r
def firstL (l : List Body) : List Bool := firstF [] l
theorem firstF_length : ∀ (l pre : List Body), (firstF pre l).length = l.length
  | [], _ => rfl
  | b :: r, pre => by simp [firstF, firstF_length r]
set_option maxRecDepth 20000 in
set_option maxHeartbeats 1000000 in
theorem first_ok {G : Gh} {H : List (Nat × Obj)} {W : World} (hp : Hp G H W) {A : Option Addr} {n c : Nat} {l : List Body} (hs : Sl tBody G A n c l) (hn : n ≤ 1000000) : Calls Tryz.prog 45 ⟨[.slice A n c]⟩ W (RetD G H (IsSl tBool (firstL l))) := by
  have hl := hs.length
  have hcap := hs.cap
  refine enter Tryz.func45 rfl Tryz.ntmps45 (Nat.le_of_ble_eq_true rfl) hp (nx_seq (nx_region (nv v_assign (nx_nil (nx_then (nx_seq (nx_region (nv v_move (nv v_len ?_)))))))))
  refine nx_op rfl (op_makeSlice rfl rfl rfl rfl (by omega) (by decide) (fun b10 => ?_))
  refine nv v_assign (nx_nil (nx_then (nx_seq (nx_seq (nx_region (nv v_move (nv v_len (nv v_move (nx_nil (nx_then (nx_block ?_)))))))))))
  refine nf (b := b10) (k := ?_)
  refine nx_loop_v (σ := Nat × List Bool × Gh) [0, 2, 3, 8, 9, 10, 11, 12] (fun s => [(13, .int .i64 (s.1 : Int))]) (fun s => s.2.2) (fun s => (b10, row (s.2.1.map (fun x => .bool x) ++ List.replicate (n - s.1) (.bool false)) 4) :: _) (fun s => G.le s.2.2 ∧ s.1 ≤ n ∧ s.2.1.length = s.1 ∧ s.2.1 ++ firstF (l.take s.1) (l.drop s.1) = firstL l) (fun s => n - s.1) (0, [], G) (.cons rfl (.cons rfl (.cons rfl (.cons rfl (.cons rfl (.cons rfl (.cons rfl (.cons rfl (.nil))))))))) ⟨rfl, trivial⟩ ⟨Gh.le.refl _, Nat.zero_le _, rfl, rfl⟩ rfl rfl ?_
  rintro ⟨k, ds, G1⟩ ⟨le1, hk, hd0, hI⟩ K next
  dsimp only at le1 hk hd0 hI ⊢
  refine nx_seq (nx_region (nv v_lss (nx_nil (nx_then (nx_seq ?_)))))
  refine nx_cond_dec rfl (fun c14 => ?_) (fun c14 => ?_)
  obtain ⟨x, rest, hd, hx⟩ := drop_of_lt (xs := l) (k := k) (by omega)
  obtain ⟨xb, xo, xA1, xn1, xc1, xe, xk, xr, xf0, xf1, xf2, xf3, xf4, xat⟩ := next_Body (hs.le le1) hd
  cases xe
  rw [hd] at hI
  refine nx_skip (nx_then (nx_seq (nx_block (nx_seq (nx_region (nv v_move (nv (v_indexAddr_nat rfl rfl rfl (by omega)) (nv v_load_s ?_))))))))
  refine nx_op rfl (op_alloc rfl (fun b5 => ?_))
  refine nv v_assign (st (k := nx_nil (nx_then (nx_seq (nx_region (nv v_load_o ?_))))))
  refine nx_op rfl (op_callS rfl rfl rfl (fun W hp => lgate_ok hp xat) ?_)
  refine nv v_move (nv (v_extract rfl rfl rfl) (nv (v_extract rfl rfl rfl) ?_))
  refine nx_op rfl (op_alloc rfl (fun b6 => ?_))
  refine st (k := nv v_assign (nx_nil (nx_then (nx_region (nv v_move (nv v_move (nv v_move (nv v_not (nv v_move ?_)))))))))
  refine nx_guard (t := 27) rfl (fun g27 => ?_) (fun g27 => ?_)
  refine nk (k := nk (k := nk (k := nk (k := nk (k := nk (k := nv v_pick_t (nv (v_indexAddr_nat (k := k) rfl rfl rfl (by omega)) ?_)))))))
  refine nx_op rfl (op_sto rfl rfl rfl rfl rfl (.cons (.cons (.here (setEs_one (by simp; omega))))) ?_)
  refine nx_nil (nx_in _ (nx_then (nx_region (nv v_add (nv v_move (nx_nil (nx_then ?_)))))))
  have hnx : n - k = (n - (k + 1)) + 1 := by omega
  have hst := set_next (ds.map Value.bool) (n - (k + 1)) (.bool false)
  rw [List.length_map, hd0, ← hnx] at hst
  simp only [Nat.zero_add, Nat.mul_one, hst]
  refine nf (b := b10) (k := ?_)
  refine nx_next (next (k + 1, ds ++ [firstOk (l.take k) x], _) ⟨le1, (by dsimp only; omega), (by simp [hd0]), (by rw [← hI, xr, take_snoc hx]; simp [firstF])⟩ (by dsimp only; omega)) (by repeat (first | exact trivial | refine ⟨rfl, ?_⟩)) ?_
  simp only [List.map_append, List.map_cons, List.map_nil]
  have hv : firstOk (l.take k) x = true := by unfold firstOk; rw [g27]; rfl
  rw [hv]
  exact (by repeat (first | exact Suf.refl | apply Suf.keep | apply Suf.cons | apply Suf.keepN | apply Suf.app))
  refine nr v_move (nr v_move (nr (v_slice_hi (h := k) rfl rfl rfl (by omega)) (nr v_makeFunc ?_)))
  refine nx_op_run rfl rfl rfl (op_callD rfl rfl rfl (fun W hp => containsFunc_Body hp ((hs.le le1).take hk) (fun y => y.waiting && decide (y.gateAt = x.gateAt)) (fst := []) (cap := [.pointer (some ⟨b6, 0, none⟩)]) (fun y _ A1 n1 c1 G1 le at_ => fun G' H' W' hl hs' hp' => RetS.toD (first1_ok hp' (at_.le hl) (hs'.sublist.subset List.mem_cons_self)))) (fun v32 G32 le32 ph32 => ?_))
  subst ph32
  refine nr v_not (nv v_pick_f (nv (v_indexAddr_nat (k := k) rfl rfl rfl (by omega)) ?_))
  refine nx_op rfl (op_sto rfl rfl rfl rfl rfl (.cons (.cons (.here (setEs_one (by simp; omega))))) ?_)
  refine nx_nil (nx_in _ (nx_then (nx_region (nv v_add (nv v_move (nx_nil (nx_then ?_)))))))
  have hnx : n - k = (n - (k + 1)) + 1 := by omega
  have hst := set_next (ds.map Value.bool) (n - (k + 1)) (.bool false)
  rw [List.length_map, hd0, ← hnx] at hst
  simp only [Nat.zero_add, Nat.mul_one, hst]
  refine nf (b := b10) (k := ?_)
  refine nx_next (next (k + 1, ds ++ [firstOk (l.take k) x], _) ⟨(Gh.le.trans le1 le32), (by dsimp only; omega), (by simp [hd0]), (by rw [← hI, xr, take_snoc hx]; simp [firstF])⟩ (by dsimp only; omega)) (by repeat (first | exact trivial | refine ⟨rfl, ?_⟩)) ?_
  simp only [List.map_append, List.map_cons, List.map_nil]
  have hv : firstOk (l.take k) x = !((l.take k).any fun y => y.waiting && decide (y.gateAt = x.gateAt)) := by unfold firstOk; rw [g27]; rfl
  rw [hv]
  exact (by repeat (first | exact Suf.refl | apply Suf.keep | apply Suf.cons | apply Suf.keepN | apply Suf.app))
  obtain rfl : k = n := by omega
  rw [List.drop_eq_nil_of_le (by omega)] at hI
  rw [Nat.sub_self]
  simp only [firstF, List.append_nil, List.replicate_zero] at hI ⊢
  subst hI
  refine nx_exit (nx_then_exit (nx_then_exit (nx_in_eq (nx_then (nx_seq (nx_region (nv v_move (nv v_assign (nx_nil (nx_then (nx_ret ?_)))))))))))
  refine nx_row (T := tBool) (l := firstL l) (b := b10) (by repeat (first | exact Take.here | apply Take.cons | apply Take.app)) (rows_bool_map _) (by rw [hd0]) (by simp [maxLen]; omega) (fun G9 le9 s9 => ?_)
  exact nx_ret1 rfl (.tmp rfl) (rt ((Gh.le.trans le1 le9)) (IsSl.of s9))
end Go.Proofs.YtjckojnlapchoaaGreat
open Go Go.RowKit
namespace Go.Proofs.YtjckojnlapchoaaGreat
open Go.Proofs
structure CourtAt (G : Gh) (g : Nat) (S1 : Option Addr) (sn sc : Nat) (F1 : Option Addr) (fn fc : Nat) (N : NetD) (stock : List Stock) (first : List Body) : Prop where
  net : NetAt G g N
  st : Sl tStock G S1 sn sc stock
  fs : Sl tBody G F1 fn fc first
theorem CourtAt.le {G G' : Gh} {g : Nat} {S1 : Option Addr} {sn sc : Nat} {F1 : Option Addr} {fn fc : Nat} {N : NetD} {stock : List Stock} {first : List Body} (h : CourtAt G g S1 sn sc F1 fn fc N stock first) (e : G.le G') : CourtAt G' g S1 sn sc F1 fn fc N stock first := ⟨h.net.le e, h.st.le e, h.fs.le e⟩
def notIn2 (x : Int) : Bool := decide (x < 0) || decide (2 < x)
def inOk (l : List Int) (n : Int) : Bool := decide ((l.length : Int) = n) && !(l.any notIn2)
set_option maxRecDepth 20000 in
set_option maxHeartbeats 1000000 in
theorem in1_ok {G : Gh} {H : List (Nat × Obj)} {W : World} (hp : Hp G H W) (x : Int) : Calls Tryz.prog 150 ⟨[.int .i64 x]⟩ W (RetS G H (.bool (notIn2 x))) := by
  refine enter Tryz.func150 rfl Tryz.ntmps150 (Nat.le_of_ble_eq_true rfl) hp (nx_seq (nx_region (nv v_assign (nx_nil (nx_then (nx_seq (nx_region (nv v_move (nv v_lss (nv v_move ?_))))))))))
  refine nx_guard_dec (t := 5) rfl (fun g5 => ?_) (fun g5 => ?_)
  refine nk (k := nk (k := nv v_pick_t (nv v_assign (nx_nil (nx_then (nx_ret ?_))))))
  exact nx_ret1 rfl (.tmp rfl) (rs (by unfold notIn2; (rw [decide_eq_true g5]; rfl)))
  refine nr v_move (nr v_gtr (nv v_pick_f (nv v_assign (nx_nil (nx_then (nx_ret ?_))))))
  exact nx_ret1 rfl (.tmp rfl) (rs (by unfold notIn2; (rw [decide_eq_false g5]; rfl)))
set_option maxRecDepth 20000 in
set_option maxHeartbeats 1000000 in
theorem in_ok {G : Gh} {H : List (Nat × Obj)} {W : World} (hp : Hp G H W) {A : Option Addr} {n c : Nat} {l : List Int} (hs : Sl tInt G A n c l) (m : Int) : Calls Tryz.prog 90 ⟨[.slice A n c, .int .i64 m]⟩ W (RetD G H (fun _ v => v = .bool (inOk l m))) := by
  have hl := hs.length
  refine enter Tryz.func90 rfl Tryz.ntmps90 (Nat.le_of_ble_eq_true rfl) hp (nx_seq (nx_region (nv v_assign (nx_nil (nx_then (nx_seq (nx_region (nv v_move (nv v_len (nv v_move (nv v_eql ?_)))))))))))
  refine nv v_move ?_
  refine nx_guard_dec (t := 9) rfl (fun g9 => ?_) (fun g9 => ?_)
  refine nr v_move ?_
  refine nx_op_run rfl rfl rfl (op_callD rfl rfl rfl (fun W hp => containsFunc_Int hp hs notIn2 (fst := []) (cap := []) (fun x _ => fun G' H' W' hl hs' hp' => RetS.toD (in1_ok hp' x))) (fun v11 G11 le11 ph11 => ?_))
  subst ph11
  refine nr v_not (nv v_pick_t (nv v_assign (nx_nil (nx_then (nx_ret ?_)))))
  exact nx_ret1 rfl (.tmp rfl) (rt (le11) (by unfold inOk; rw [hl]; (rw [decide_eq_true g9]; rfl)))
  refine nk (k := nk (k := nk (k := nv v_pick_f (nv v_assign (nx_nil (nx_then (nx_ret ?_)))))))
  exact nx_ret1 rfl (.tmp rfl) (rt ((Gh.le.refl _)) (by unfold inOk; rw [hl]; (rw [decide_eq_false g9]; rfl)))
def posBad (N : NetD) (i : Nat) (x : Int) : Bool := decide (¬ x = 0) && decide (¬ N.p.kind (i : Int) = 2)
def posAll (N : NetD) : List Int → Nat → Bool
  | [], _ => true
  | x :: r, i => if posBad N i x then false else posAll N r (i + 1)
def bodAll (N : NetD) : List Stock → List Body → Bool
  | s :: ss, b :: bs => if N.mayB s.len b then bodAll N ss bs else false
  | _, _ => true
def shapedOk (N : NetD) (stock : List Stock) (x : Note) : Bool :=
  inOk x.pos N.p.elems.length && inOk x.lamps N.p.signals.length && decide (x.bodies.length = stock.length) && posAll N x.pos 0 && bodAll N stock x.bodies
def Note.Few (x : Note) : Prop := ∀ b, b ∈ x.bodies → b.trail.length ≤ 1000
set_option maxRecDepth 20000 in
set_option maxHeartbeats 1000000 in
theorem shaped_ok {G : Gh} {H : List (Nat × Obj)} {W : World} (hp : Hp G H W) {g : Nat} {N : NetD} {S1 : Option Addr} {sn sc : Nat} {F1 : Option Addr} {fn fc : Nat} {stock : List Stock} {first : List Body} (ct : CourtAt G g S1 sn sc F1 fn fc N stock first) (hnum : numbersOk N.p = true) {A1 : Option Addr} {n1 c1 : Nat} {A2 : Option Addr} {n2 c2 : Nat} {A3 : Option Addr} {n3 c3 : Nat} {x : Note} (nt : Note.At G A1 n1 c1 A2 n2 c2 A3 n3 c3 x) (hfew : x.Few) : Calls Tryz.prog 44 ⟨[.agg ⟨[.pointer (some ⟨g, 0, none⟩), .slice S1 sn sc, .slice F1 fn fc]⟩, .agg ⟨[.slice A1 n1 c1, .slice A2 n2 c2, .slice A3 n3 c3]⟩]⟩ W (RetD G H (fun _ v => v = .bool (shapedOk N stock x))) := by
  have hl1 := nt.h1.length
  have hl2 := nt.h2.length
  have hl3 := nt.h3.length
  have hr1 := Nat.le_trans nt.h1.cap nt.h1.room
  have hr3 := Nat.le_trans nt.h3.cap nt.h3.room
  have hsl := ct.st.length
  refine enter Tryz.func44 rfl Tryz.ntmps44 (Nat.le_of_ble_eq_true rfl) hp (nx_seq (nx_region ?_))
  refine nx_op rfl (op_box rfl rfl (fun b2 => ?_))
  refine nx_op rfl (op_box rfl rfl (fun b3 => ?_))
  refine nv v_assign (nx_nil (nx_then (nx_seq (nx_seq (dr_begin 25 (.q 0 (.q 1 (.q 2 (.q 3 (.l 4 (.l 5 (.q 6 (.q 7 (.q 8 (.q 9 (.q 10 (.q 11 (.l 12 (.l 13 (.q 14 (.q 15 (.q 16 (.q 17 (.q 18 (.q 19 (.q 20 (.q 21 (.q 22 (.q 23 (.q 24 .done))))))))))))))))))))))))) rfl (by kernel_rfl) (dr_q rfl rfl v_fieldAddr ic (dr_q rfl rfl v_load1_o ic (dr_q rfl rfl v_fieldAddr ic (dr_q rfl rfl v_load1_o ic (dr_l rfl rfl ?_))))))))))
  refine op_callS rfl rfl rfl (fun W hp => len_ok hp (ct.net.le (Gh.le.refl _))) ?_
  refine dr_k ic (dr_l rfl rfl ?_)
  refine op_callD rfl rfl rfl (fun W hp => in_ok hp (nt.h1.le (Gh.le.refl _)) _) (fun v14 G14 le14 ph14 => ?_)
  subst ph14
  refine dr_k (ic.le le14) (dr_q rfl rfl v_not (ic.le le14) (dr_q rfl rfl v_move (ic.le le14) ?_))
  refine nx_guard (t := 16) rfl (fun g16 => ?_) (fun g16 => ?_)
  refine dr_q_skip rfl rfl rfl rfl rfl rfl (ic.le le14) (dr_q_skip rfl rfl rfl rfl rfl rfl (ic.le le14) (dr_q_skip rfl rfl rfl rfl rfl rfl (ic.le le14) (dr_q_skip rfl rfl rfl rfl rfl rfl (ic.le le14) (dr_l_skip rfl rfl rfl rfl rfl rfl (ic.le le14) (dr_l_skip rfl rfl rfl rfl rfl rfl (ic.le le14) (dr_q_skip rfl rfl rfl rfl rfl rfl (ic.le le14) (dr_q rfl rfl v_pick_t (ic.le le14) (dr_q rfl rfl v_move (ic.le le14) (dr_q_skip rfl rfl rfl rfl rfl rfl (ic.le le14) (dr_q_skip rfl rfl rfl rfl rfl rfl (ic.le le14) ?_))))))))))
  refine dr_q_skip rfl rfl rfl rfl rfl rfl (ic.le le14) (dr_q_skip rfl rfl rfl rfl rfl rfl (ic.le le14) (dr_q_skip rfl rfl rfl rfl rfl rfl (ic.le le14) (dr_q_skip rfl rfl rfl rfl rfl rfl (ic.le le14) (dr_q_skip rfl rfl rfl rfl rfl rfl (ic.le le14) (dr_q rfl rfl v_pick_t (ic.le le14) (dr_end rfl ?_))))))
  refine nx_nil (nx_np ?_)
  refine nx_then (nx_cond_t rfl ?_)
  have hno : shapedOk N stock x = false := by (unfold shapedOk; simp_all; done)
  refine nx_seq (nx_region (nv v_assign (nx_nil (nx_then (nx_ret (nx_then_ret ?_))))))
  exact nx_ret1 rfl (.tmp rfl) (rt (le14) (by rw [hno]))
  refine dr_q_run rfl rfl rfl rfl v_fieldAddr (ic.le le14) (dr_q_run rfl rfl rfl rfl v_load1_o (ic.le le14) (dr_q_run rfl rfl rfl rfl v_fieldAddr (ic.le le14) (dr_q_run rfl rfl rfl rfl v_load1_o (ic.le le14) (dr_l_run rfl rfl rfl rfl ?_))))
  refine op_callS rfl rfl rfl (fun W hp => signals_ok hp (ct.net.le le14)) ?_
  refine dr_k (ic.le le14) (dr_l_run rfl rfl rfl rfl ?_)
  refine op_callD rfl rfl rfl (fun W hp => in_ok hp (nt.h2.le le14) _) (fun v22 G22 le22 ph22 => ?_)
  subst ph22
  refine dr_k ((ic.le le14).le le22) (dr_q_run rfl rfl rfl rfl v_not ((ic.le le14).le le22) (dr_q rfl rfl v_pick_f ((ic.le le14).le le22) (dr_q rfl rfl v_move ((ic.le le14).le le22) ?_)))
  refine nx_guard (t := 25) rfl (fun g25 => ?_) (fun g25 => ?_)
  refine dr_q_skip rfl rfl rfl rfl rfl rfl ((ic.le le14).le le22) (dr_q_skip rfl rfl rfl rfl rfl rfl ((ic.le le14).le le22) (dr_q_skip rfl rfl rfl rfl rfl rfl ((ic.le le14).le le22) (dr_q_skip rfl rfl rfl rfl rfl rfl ((ic.le le14).le le22) (dr_q_skip rfl rfl rfl rfl rfl rfl ((ic.le le14).le le22) (dr_q_skip rfl rfl rfl rfl rfl rfl ((ic.le le14).le le22) (dr_q_skip rfl rfl rfl rfl rfl rfl ((ic.le le14).le le22) (dr_q rfl rfl v_pick_t ((ic.le le14).le le22) (dr_end rfl ?_))))))))
  refine nx_nil (nx_np ?_)
  refine nx_then (nx_cond_t rfl ?_)
  have hno : shapedOk N stock x = false := by (unfold shapedOk; simp_all; done)
  refine nx_seq (nx_region (nv v_assign (nx_nil (nx_then (nx_ret (nx_then_ret ?_))))))
  exact nx_ret1 rfl (.tmp rfl) (rt ((Gh.le.trans le14 le22)) (by rw [hno]))
  refine dr_q_run rfl rfl rfl rfl v_fieldAddr ((ic.le le14).le le22) (dr_q_run rfl rfl rfl rfl v_load1_o ((ic.le le14).le le22) (dr_q_run rfl rfl rfl rfl v_len ((ic.le le14).le le22) (dr_q_run rfl rfl rfl rfl v_fieldAddr ((ic.le le14).le le22) (dr_q_run rfl rfl rfl rfl v_load1_o ((ic.le le14).le le22) (dr_q_run rfl rfl rfl rfl v_len ((ic.le le14).le le22) (dr_q_run rfl rfl rfl rfl v_neq ((ic.le le14).le le22) (dr_q rfl rfl v_pick_f ((ic.le le14).le le22) (dr_end rfl ?_))))))))
  refine nx_nil (nx_np ?_)
  refine nx_then ?_
  refine nx_cond_dec rfl (fun c33 => ?_) (fun c33 => ?_)
  have hno : shapedOk N stock x = false := by (unfold shapedOk; simp_all; intros; omega)
  refine nx_seq (nx_region (nv v_assign (nx_nil (nx_then (nx_ret (nx_then_ret ?_))))))
  exact nx_ret1 rfl (.tmp rfl) (rt ((Gh.le.trans le14 le22)) (by rw [hno]))
  have h3 : inOk x.pos N.p.elems.length = true ∧ inOk x.lamps N.p.signals.length = true ∧ x.bodies.length = stock.length := by simp_all; omega
  obtain ⟨h31, h32, h33⟩ := h3
  have hyes : shapedOk N stock x = (posAll N x.pos 0 && bodAll N stock x.bodies) := by unfold shapedOk; rw [h31, h32, decide_eq_true h33]; rfl
  refine nx_skip (nx_then (nx_seq (nx_seq (nx_region (nv v_fieldAddr (nv v_load1_o (nv v_len (nv v_move (nx_nil (nx_then (nx_block ?_)))))))))))
  refine nx_loop_v (σ := Nat) [0, 1, 2, 3, 9, 10, 11, 12, 13, 14, 15, 16, 17, 18, 19, 20, 21, 22, 23, 24, 25, 26, 27, 28, 29, 30, 31, 32, 33, 34, 35, 36] (fun k => [(37, .int .i64 (k : Int))]) (fun _ => G22) (fun _ => _) (fun k => posAll N (x.pos.drop k) k = posAll N x.pos 0) (fun k => n1 - k) 0 (.cons rfl (.cons rfl (.cons rfl (.cons rfl (.cons rfl (.cons rfl (.cons rfl (.cons rfl (.cons rfl (.cons rfl (.cons rfl (.cons rfl (.cons rfl (.cons rfl (.cons rfl (.cons rfl (.cons rfl (.cons rfl (.cons rfl (.cons rfl (.cons rfl (.cons rfl (.cons rfl (.cons rfl (.cons rfl (.cons rfl (.cons rfl (.cons rfl (.cons rfl (.cons rfl (.cons rfl (.cons rfl (.nil))))))))))))))))))))))))))))))))) ⟨rfl, trivial⟩ rfl rfl rfl ?_
  intro k hI K next
  refine nx_seq (nx_region (nv v_lss (nx_nil (nx_then (nx_seq ?_)))))
  refine nx_cond_dec rfl (fun c38 => ?_) (fun c38 => ?_)
  obtain ⟨y, rest, hd, hy⟩ := drop_of_lt (xs := x.pos) (k := k) (by omega)
  obtain ⟨yb, yo, ye, yk, yr, yf0⟩ := next_Int (nt.h1.le (Gh.le.trans le14 le22)) hd
  cases ye
  rw [hd] at hI
  refine nx_skip (nx_then (nx_seq (nx_block (nx_seq (nx_region (nv v_move (nv (v_indexAddr_nat rfl rfl rfl (by omega)) (nv v_load1_s (nv v_assign (nv v_assign (nx_nil ?_)))))))))))
  refine nx_then (nx_seq (nx_region (nv v_move (nv v_neq (nv v_move ?_)))))
  refine nx_guard_dec (t := 44) rfl (fun g44 => ?_) (fun g44 => ?_)
  refine nr v_fieldAddr (nr v_load1_o (nr v_move ?_))
  refine nx_op_run rfl rfl rfl (op_callS rfl rfl rfl (fun W hp => kind_ok hp (ct.net.le (Gh.le.trans le14 le22)) (k : Int)) ?_)
  refine nr v_neq (nv v_pick_t (nx_nil (nx_then ?_)))
  refine nx_cond_dec rfl (fun c50 => ?_) (fun c50 => ?_)
  have hbad : posBad N k y = true := by unfold posBad; simp_all
  have hno : shapedOk N stock x = false := by rw [hyes, ← hI]; simp only [posAll]; rw [hbad]; rfl
  refine nx_seq (nx_region (nv v_assign (nx_nil (nx_then (nx_ret (nx_in_ret (nx_then_ret (nx_then_ret (nx_in_ret (nx_then_ret ?_))))))))))
  exact nx_ret1 rfl (.tmp rfl) (rt ((Gh.le.trans le14 le22)) (by rw [hno]))
  have hok : posBad N k y = false := by unfold posBad; simp_all
  refine nx_skip (nx_in _ (nx_then (nx_region (nv v_add (nv v_move (nx_nil (nx_then ?_)))))))
  exact nn (next (k + 1) (by rw [yr, ← hI]; simp only [posAll]; rw [hok]; rfl) (by omega))
  refine nk (k := nk (k := nk (k := nk (k := nk (k := nv v_pick_f (nx_nil (nx_then (nx_cond_f rfl ?_))))))))
  have hok : posBad N k y = false := by unfold posBad; simp_all
  refine nx_skip (nx_in _ (nx_then (nx_region (nv v_add (nv v_move (nx_nil (nx_then ?_)))))))
  exact nn (next (k + 1) (by rw [yr, ← hI]; simp only [posAll]; rw [hok]; rfl) (by omega))
  have hpos : posAll N x.pos 0 = true := by rw [← hI, List.drop_eq_nil_of_le (by omega)]; rfl
  rw [hpos, Bool.true_and] at hyes
  refine nx_exit (nx_then_exit (nx_then_exit (nx_in_eq (nx_then (nx_seq (nx_seq (nx_region (nv v_fieldAddr (nv v_load1_o (nv v_len (nv v_move ?_)))))))))))
  refine nx_nil (nx_then (nx_block ?_))
  refine nx_loop_v (σ := Nat × Gh) [0, 1, 2, 3, 9, 10, 11, 12, 13, 14, 15, 16, 17, 18, 19, 20, 21, 22, 23, 24, 25, 26, 27, 28, 29, 30, 31, 32, 33, 34, 35, 36, 37, 38, 52, 53, 54] (fun s => [(55, .int .i64 (s.1 : Int))]) (fun s => s.2) (fun _ => _) (fun s => G22.le s.2 ∧ bodAll N (stock.drop s.1) (x.bodies.drop s.1) = bodAll N stock x.bodies) (fun s => n3 - s.1) (0, G22) (.cons rfl (.cons rfl (.cons rfl (.cons rfl (.cons rfl (.cons rfl (.cons rfl (.cons rfl (.cons rfl (.cons rfl (.cons rfl (.cons rfl (.cons rfl (.cons rfl (.cons rfl (.cons rfl (.cons rfl (.cons rfl (.cons rfl (.cons rfl (.cons rfl (.cons rfl (.cons rfl (.cons rfl (.cons rfl (.cons rfl (.cons rfl (.cons rfl (.cons rfl (.cons rfl (.cons rfl (.cons rfl (.cons rfl (.cons rfl (.cons rfl (.cons rfl (.cons rfl (.nil)))))))))))))))))))))))))))))))))))))) ⟨rfl, trivial⟩ ⟨Gh.le.refl _, rfl⟩ rfl rfl ?_
  rintro ⟨k, G5⟩ ⟨le5, hI⟩ K next
  dsimp only at le5 hI ⊢
  refine nx_seq (nx_region (nv v_lss (nx_nil (nx_then (nx_seq ?_)))))
  refine nx_cond_dec rfl (fun c56 => ?_) (fun c56 => ?_)
  obtain ⟨y, rest, hd, hy⟩ := drop_of_lt (xs := x.bodies) (k := k) (by omega)
  obtain ⟨yb, yo, yA1, yn1, yc1, ye, yk, yr, yf0, yf1, yf2, yf3, yf4, yat⟩ := next_Body (nt.h3.le (Gh.le.trans le14 (Gh.le.trans le22 le5))) hd
  cases ye
  obtain ⟨s, srest, hds, hs⟩ := drop_of_lt (xs := stock) (k := k) (by omega)
  obtain ⟨sb, so, se, sk, sr, sf0, sf1, sf2, sf3, sf4⟩ := next_Stock (ct.st.le (Gh.le.trans le14 (Gh.le.trans le22 le5))) hds
  cases se
  rw [hd, hds] at hI
  have hyl := yat.h1.length
  have hyf := hfew y (List.mem_of_getElem? hy)
  refine nx_skip (nx_then (nx_seq (nx_block (nx_seq (nx_region (nv v_move (nv (v_indexAddr_nat rfl rfl rfl (by omega)) (nv v_load_s ?_))))))))
  refine nx_op rfl (op_alloc rfl (fun b8 => ?_))
  refine nv v_assign (st (k := nx_nil (nx_then (nx_seq (dr_begin 11 (.q 0 (.q 1 (.q 2 (.q 3 (.q 4 (.q 5 (.q 6 (.q 7 (.q 8 (.l 9 (.q 10 .done))))))))))) rfl (by kernel_rfl) (dr_q rfl rfl v_fieldAddr ic (dr_q rfl rfl v_load1_o ic (dr_q rfl rfl v_fieldAddr ic (dr_q rfl rfl v_load1_o ic (dr_q rfl rfl v_move ic (dr_q rfl rfl (v_indexAddr_nat (k := k) rfl rfl rfl (by omega)) ic ?_)))))))))))
  refine dr_q rfl rfl v_fieldAddr ic (dr_q rfl rfl v_load1_s ic (dr_q rfl rfl v_load_o ic (dr_l rfl rfl ?_)))
  refine op_callD rfl rfl rfl (fun W hp => mayB_ok hp (ct.net.le (Gh.le.trans le14 (Gh.le.trans le22 le5))) yat s.len hnum (by omega)) (fun v69 G69 le69 ph69 => ?_)
  subst ph69
  refine dr_k (ic.le le69) (dr_q rfl rfl v_not (ic.le le69) (dr_end rfl ?_))
  refine nx_nil (nx_np ?_)
  refine nx_then ?_
  refine nx_cond rfl (fun c70 => ?_) (fun c70 => ?_)
  have hm : N.mayB s.len y = false := by simpa using c70
  have hno : shapedOk N stock x = false := by rw [hyes, ← hI]; simp only [bodAll]; rw [hm]; rfl
  refine nx_seq (nx_region (nv v_assign (nx_nil (nx_then (nx_ret (nx_in_ret (nx_then_ret (nx_then_ret (nx_in_ret (nx_then_ret ?_))))))))))
  exact nx_ret1 rfl (.tmp rfl) (rt ((Gh.le.trans le14 (Gh.le.trans le22 (Gh.le.trans le5 le69)))) (by rw [hno]))
  have hm : N.mayB s.len y = true := by simpa using c70
  refine nx_skip (nx_in _ (nx_then (nx_region (nv v_add (nv v_move (nx_nil (nx_then ?_)))))))
  exact nn (next (k + 1, _) ⟨Gh.le.trans le5 le69, (by rw [yr, sr, ← hI]; simp only [bodAll]; rw [hm]; rfl)⟩ (by dsimp only; omega))
  have hyes2 : shapedOk N stock x = true := by rw [hyes, ← hI, List.drop_eq_nil_of_le (by omega), List.drop_eq_nil_of_le (by omega)]; rfl
  refine nx_exit (nx_then_exit (nx_then_exit (nx_in_eq (nx_then (nx_seq (nx_region (nv v_assign (nx_nil (nx_then (nx_ret ?_))))))))))
  exact nx_ret1 rfl (.tmp rfl) (rt ((Gh.le.trans le14 (Gh.le.trans le22 le5))) (by rw [hyes2]))
end Go.Proofs.YtjckojnlapchoaaGreat
open Go Go.RowKit
namespace Go.Proofs.YtjckojnlapchoaaGreat
open Go.Proofs
def meetsF (N : NetD) (own : List Int) (t : Int) : List Body → Nat → Bool
  | [], _ => false
  | b :: r, i => if (i : Int) = t then meetsF N own t r (i + 1) else if (lies N.p b).any (fun e => own.contains e) then true else meetsF N own t r (i + 1)
def meetsOk (N : NetD) (x : Note) (t : Nat) : Bool := meetsF N (lies N.p ((x.bodies[t]?).getD noBody)) t x.bodies 0
set_option maxRecDepth 20000 in
set_option maxHeartbeats 1000000 in
theorem meets_ok {G : Gh} {H : List (Nat × Obj)} {W : World} (hp : Hp G H W) {g : Nat} {N : NetD} {S1 : Option Addr} {sn sc : Nat} {F1 : Option Addr} {fn fc : Nat} {stock : List Stock} {first : List Body} (ct : CourtAt G g S1 sn sc F1 fn fc N stock first) {A1 : Option Addr} {n1 c1 : Nat} {A2 : Option Addr} {n2 c2 : Nat} {A3 : Option Addr} {n3 c3 : Nat} {x : Note} (nt : Note.At G A1 n1 c1 A2 n2 c2 A3 n3 c3 x) (hfew : x.Few) {t : Nat} (ht : t < x.bodies.length) : Calls Tryz.prog 97 ⟨[.agg ⟨[.pointer (some ⟨g, 0, none⟩), .slice S1 sn sc, .slice F1 fn fc]⟩, .agg ⟨[.slice A1 n1 c1, .slice A2 n2 c2, .slice A3 n3 c3]⟩, .int .i64 (t : Int)]⟩ W (RetD G H (fun _ v => v = .bool (meetsOk N x t))) := by
  have hl3 := nt.h3.length
  have hr3 := Nat.le_trans nt.h3.cap nt.h3.room
  obtain ⟨o, ho⟩ : ∃ o, x.bodies[t]? = some o := ⟨_, List.getElem?_eq_getElem ht⟩
  obtain ⟨ob, oo, oA1, on1, oc1, oe, ok, of0, of1, of2, of3, of4, oat⟩ := get_Body nt.h3 ho
  cases oe
  have hof := hfew o (List.mem_of_getElem? ho)
  have hol := oat.h1.length
  have hmeet : meetsOk N x t = meetsF N (lies N.p o) t x.bodies 0 := by unfold meetsOk; rw [ho]; rfl
  refine enter Tryz.func97 rfl Tryz.ntmps97 (Nat.le_of_ble_eq_true rfl) hp (nx_seq (nx_region ?_))
  refine nx_op rfl (op_box rfl rfl (fun b3 => ?_))
  refine nx_op rfl (op_box rfl rfl (fun b4 => ?_))
  refine nv v_assign (nx_nil (nx_then (nx_seq (dr_begin 9 (.q 0 (.q 1 (.q 2 (.q 3 (.q 4 (.q 5 (.q 6 (.l 7 (.q 8 .done))))))))) rfl (by kernel_rfl) (dr_q rfl rfl v_fieldAddr ic (dr_q rfl rfl v_load1_o ic (dr_q rfl rfl v_fieldAddr ic (dr_q rfl rfl v_load1_o ic (dr_q rfl rfl v_move ic (dr_q rfl rfl (v_indexAddr_nat (k := t) rfl rfl rfl (by omega)) ic (dr_q rfl rfl v_load_s ic ?_)))))))))))
  refine dr_l rfl rfl ?_
  refine op_callD rfl rfl rfl (fun W hp => lies_run hp (ct.net.le (Gh.le.refl _)) oat (by omega)) (fun v19 G19 le19 ph19 => ?_)
  obtain ⟨A19, c19, rfl, s19⟩ := ph19
  refine dr_k (ic.le le19) (dr_q rfl rfl v_assign (ic.le le19) (dr_end rfl ?_))
  refine nx_nil (nx_np ?_)
  refine nx_then (nx_seq (nx_seq (nx_region (nv v_fieldAddr (nv v_load1_o (nv v_len (nv v_move (nx_nil (nx_then (nx_block ?_))))))))))
  refine nx_loop_v (σ := Nat × Gh) [0, 1, 2, 3, 4, 7, 12, 13, 14, 15, 16, 17, 18, 19, 20, 21, 22] (fun s => [(23, .int .i64 (s.1 : Int))]) (fun s => s.2) (fun _ => _) (fun s => G19.le s.2 ∧ meetsF N (lies N.p o) t (x.bodies.drop s.1) s.1 = meetsF N (lies N.p o) t x.bodies 0) (fun s => n3 - s.1) (0, G19) (.cons rfl (.cons rfl (.cons rfl (.cons rfl (.cons rfl (.cons rfl (.cons rfl (.cons rfl (.cons rfl (.cons rfl (.cons rfl (.cons rfl (.cons rfl (.cons rfl (.cons rfl (.cons rfl (.cons rfl (.nil)))))))))))))))))) ⟨rfl, trivial⟩ ⟨Gh.le.refl _, rfl⟩ rfl rfl ?_
  rintro ⟨k, G5⟩ ⟨le5, hI⟩ K next
  dsimp only at le5 hI ⊢
  refine nx_seq (nx_region (nv v_lss (nx_nil (nx_then (nx_seq ?_)))))
  refine nx_cond_dec rfl (fun c24 => ?_) (fun c24 => ?_)
  obtain ⟨y, rest, hd, hy⟩ := drop_of_lt (xs := x.bodies) (k := k) (by omega)
  obtain ⟨yb, yo, yA1, yn1, yc1, ye, yk, yr, yf0, yf1, yf2, yf3, yf4, yat⟩ := next_Body (nt.h3.le (Gh.le.trans le19 le5)) hd
  cases ye
  rw [hd] at hI
  have hyl := yat.h1.length
  have hyf := hfew y (List.mem_of_getElem? hy)
  refine nx_skip (nx_then (nx_seq (nx_block (nx_seq (nx_region (nv v_move (nv (v_indexAddr_nat rfl rfl rfl (by omega)) (nv v_load_s ?_))))))))
  refine nx_op rfl (op_alloc rfl (fun b9 => ?_))
  refine nv v_assign (st (k := nx_nil (nx_then (nx_seq (nx_seq (nx_region (nv v_move (nv v_move (nv v_eql (nx_nil (nx_then ?_)))))))))))
  refine nx_cond_dec rfl (fun c30 => ?_) (fun c30 => ?_)
  refine nx_exit (nx_then_exit (nx_in_eq (nx_then (nx_region (nv v_add (nv v_move (nx_nil (nx_then ?_))))))))
  exact nn (next (k + 1, _) ⟨le5, (by rw [yr, ← hI]; simp only [meetsF]; rw [if_pos c30])⟩ (by dsimp only; omega))
  refine nx_skip (nx_then (nx_seq (nx_region (nv v_fieldAddr (nv v_load1_o (nv v_load_o ?_))))))
  refine nx_op rfl (op_callD rfl rfl rfl (fun W hp => lies_run hp (ct.net.le (Gh.le.trans le19 le5)) yat (by omega)) (fun v34 G34 le34 ph34 => ?_))
  obtain ⟨A34, c34, rfl, s34⟩ := ph34
  have hl34 := s34.cap
  have hr34 := s34.room
  refine nv v_len (nv v_move (nx_nil (nx_then (nx_block ?_))))
  refine nx_loop_v (σ := Nat) [0, 1, 2, 3, 4, 7, 8, 9, 12, 13, 14, 15, 16, 17, 18, 19, 20, 21, 22, 23, 24, 25, 26, 27, 28, 29, 30, 31, 32, 33, 34, 35] (fun k => [(36, .int .i64 (k : Int))]) (fun _ => G34) (fun _ => _) (fun j => ((lies N.p y).drop j).any (fun e => (lies N.p o).contains e) = (lies N.p y).any (fun e => (lies N.p o).contains e)) (fun j => (lies N.p y).length - j) 0 (.cons rfl (.cons rfl (.cons rfl (.cons rfl (.cons rfl (.cons rfl (.cons rfl (.cons rfl (.cons rfl (.cons rfl (.cons rfl (.cons rfl (.cons rfl (.cons rfl (.cons rfl (.cons rfl (.cons rfl (.cons rfl (.cons rfl (.cons rfl (.cons rfl (.cons rfl (.cons rfl (.cons rfl (.cons rfl (.cons rfl (.cons rfl (.cons rfl (.cons rfl (.cons rfl (.cons rfl (.cons rfl (.nil))))))))))))))))))))))))))))))))) ⟨rfl, trivial⟩ rfl rfl rfl ?_
  intro j hJ K2 next2
  refine nx_seq (nx_region (nv v_lss (nx_nil (nx_then (nx_seq ?_)))))
  refine nx_cond_dec rfl (fun c37 => ?_) (fun c37 => ?_)
  obtain ⟨e, erest, hde, he⟩ := drop_of_lt (xs := lies N.p y) (k := j) (by omega)
  obtain ⟨eb, eo, ee, ek, er, ef0⟩ := next_Int s34 hde
  cases ee
  refine nx_skip (nx_then (nx_seq (nx_block (nx_seq (nx_region (nv (v_indexAddr_nat rfl rfl rfl (by omega)) (nv v_load1_s (nv v_assign (nx_nil (nx_then (nx_seq ?_)))))))))))
  refine nx_region (nv v_move (nv v_move ?_))
  refine nx_op rfl (op_callS rfl rfl rfl (fun W hp => contains_Int hp (s19.le (Gh.le.trans le5 le34)) e) ?_)
  refine nx_nil (nx_then ?_)
  refine nx_cond rfl (fun c42 => ?_) (fun c42 => ?_)
  have hres : meetsOk N x t = true := by rw [hmeet, ← hI]; simp only [meetsF]; rw [if_neg c30, if_pos (by rw [← hJ, hde, List.any_cons, c42]; rfl)]
  refine nx_seq (nx_region (nv v_assign (nx_nil (nx_then (nx_ret (nx_in_ret (nx_then_ret (nx_then_ret (nx_in_ret (nx_in_ret (nx_then_ret ?_)))))))))))
  refine nx_then_ret (nx_in_ret (nx_then_ret ?_))
  exact nx_ret1 rfl (.tmp rfl) (rt ((Gh.le.trans le19 (Gh.le.trans le5 le34))) (by rw [hres]))
  refine nx_skip (nx_in _ (nx_then (nx_region (nv v_add (nv v_move (nx_nil (nx_then ?_)))))))
  exact nn (next2 (j + 1) (by rw [er, ← hJ, hde, List.any_cons, c42]; rfl) (by omega))
  have hany : (lies N.p y).any (fun e => (lies N.p o).contains e) = false := by rw [← hJ, List.drop_eq_nil_of_le (by omega)]; rfl
  refine nx_exit (nx_then_exit (nx_then_exit (nx_in_eq (nx_in _ (nx_then (nx_region (nv v_add (nv v_move (nx_nil (nx_then ?_))))))))))
  exact nn (next (k + 1, _) ⟨Gh.le.trans le5 le34, (by rw [yr, ← hI]; simp only [meetsF]; rw [if_neg c30, if_neg (by rw [hany]; simp)])⟩ (by dsimp only; omega))
  have hres : meetsOk N x t = false := by rw [hmeet, ← hI, List.drop_eq_nil_of_le (by omega)]; rfl
  refine nx_exit (nx_then_exit (nx_then_exit (nx_in_eq (nx_then (nx_seq (nx_region (nv v_assign (nx_nil (nx_then (nx_ret ?_))))))))))
  exact nx_ret1 rfl (.tmp rfl) (rt ((Gh.le.trans le19 le5)) (by rw [hres]))
end Go.Proofs.YtjckojnlapchoaaGreat
open Go Go.RowKit
namespace Go.Proofs.YtjckojnlapchoaaGreat
open Go.Proofs
structure Body.Fit (b : Body) : Prop where
  left : 0 ≤ b.left ∧ b.left ≤ 4000
  over : 0 ≤ b.over ∧ b.over ≤ 4000
  fin : ∀ x, x ∈ b.trail → 0 ≤ x.fin ∧ x.fin < 4
  few : b.trail.length ≤ 1000
structure Stock.Fit (s : Stock) : Prop where
  len : 1 ≤ s.len ∧ s.len ≤ 4000
  acc : 1 ≤ s.acc ∧ s.acc ≤ 10
  brake : 1 ≤ s.brake ∧ s.brake ≤ 10
def NetD.step (N : NetD) (pos lamps : List Int) (s : Stock) (b : Body) (want : Int) (first : Bool) : Body := N.move pos s.len b (paceNext s b.v want (N.forced lamps b first))
set_option maxRecDepth 20000 in
set_option maxHeartbeats 1000000 in
theorem step_ok {G : Gh} {H : List (Nat × Obj)} {W : World} (hp : Hp G H W) {g : Nat} {N : NetD} (h : NetAt G g N) (hN : N.Ok) {A : Option Addr} {n c : Nat} {pos : List Int} (hs : Sl tInt G A n c pos) {B : Option Addr} {m d : Nat} {lamps : List Int} (hl : Sl tInt G B m d lamps) (s : Stock) {A1 : Option Addr} {n1 c1 : Nat} {b : Body} (bt : Body.At G A1 n1 c1 b) (hb : b.Fit) (want : Int) (first : Bool) :
    Calls Tryz.prog 22 ⟨[.pointer (some ⟨g, 0, none⟩), .slice A n c, .slice B m d, .agg ⟨s.cells⟩, .agg ⟨[.int .i64 b.mode, .slice A1 n1 c1, .int .i64 b.left, .int .i64 b.over, .int .i64 b.v]⟩, .int .i64 want, .bool first]⟩ W (RetD G H (IsBody (N.step pos lamps s b want first))) := by
  have hbl := bt.h1.length
  have hbf := hb.few
  refine enter Tryz.func22 rfl Tryz.ntmps22 (Nat.le_of_ble_eq_true rfl) hp (nx_seq (nx_region ?_))
  refine nx_op rfl (op_box rfl rfl (fun b10 => ?_))
  refine nx_op rfl (op_box rfl rfl (fun b11 => ?_))
  refine nx_op rfl (op_alloc rfl (fun b14 => ?_))
  refine nx_nil (nx_then (nx_seq (dr_begin 16 (.q 0 (.q 1 (.q 2 (.q 3 (.q 4 (.q 5 (.q 6 (.q 7 (.q 8 (.q 9 (.q 10 (.q 11 (.q 12 (.l 13 (.l 14 (.l 15 .done)))))))))))))))) rfl (by kernel_rfl) (dr_q rfl rfl v_move ic (dr_q rfl rfl v_move ic (dr_q rfl rfl v_fieldAddr ic (dr_q rfl rfl v_load1_o ic (dr_q rfl rfl v_load_o ic (dr_q rfl rfl v_load_o ic (dr_q rfl rfl v_fieldAddr ic (dr_q rfl rfl v_load1_o ic ?_)))))))))))
  refine dr_q rfl rfl v_move ic (dr_q rfl rfl v_move ic (dr_q rfl rfl v_move ic (dr_q rfl rfl v_load_o ic (dr_q rfl rfl v_move ic (dr_l rfl rfl ?_)))))
  refine op_callD rfl rfl rfl (fun W hp => forced_ok hp (h.le (Gh.le.refl _)) hN.small (hl.le (Gh.le.refl _)) (bt.le (Gh.le.refl _)) first) (fun v28 G28 le28 ph28 => ?_)
  subst ph28
  refine dr_k (ic.le le28) (dr_l rfl rfl ?_)
  refine op_callS rfl rfl rfl (fun W hp => paceNext_ok hp s b.v want _) ?_
  refine dr_k (ic.le le28) (dr_l rfl rfl ?_)
  refine op_callD rfl rfl rfl (fun W hp => move_ok hp (h.le le28) hN (bt.le le28) (hs.le le28) s.len _ (by omega) hb.left hb.over) (fun v30 G30 le30 ph30 => ?_)
  obtain ⟨A30, n30, c30, rfl, at30⟩ := ph30
  refine dr_k ((ic.le le28).le le30) (dr_end rfl (st (k := ?_)))
  refine nx_nil (nx_np ?_)
  refine nx_then (nx_ret ?_)
  exact nx_ret1 rfl ro (rt ((Gh.le.trans le28 le30)) ⟨A30, n30, c30, rfl, at30⟩)
def wantAny (f : Int → Bool) : Nat → Int → Bool
  | 0, _ => false
  | k + 1, w => if f w then true else wantAny f k (w + 1)
def NetD.may (N : NetD) (pos lamps : List Int) (s : Stock) (was is : Body) (first : Bool) : Bool :=
  ((N.turn s.len was).isSome && decide ((N.turn s.len was).getD noBody = is)) || wantAny (fun w => decide (N.step pos lamps s was w first = is)) (min s.acc 10 - max (-s.brake) (-10) + 1).toNat (max (-s.brake) (-10))
set_option maxRecDepth 20000 in
set_option maxHeartbeats 1000000 in
theorem mayJ_ok {G : Gh} {H : List (Nat × Obj)} {W : World} (hp : Hp G H W) {g : Nat} {N : NetD} (h : NetAt G g N) (hN : N.Ok) {A : Option Addr} {n c : Nat} {pos : List Int} (hs : Sl tInt G A n c pos) {B : Option Addr} {m d : Nat} {lamps : List Int} (hl : Sl tInt G B m d lamps) (s : Stock) (hst : s.Fit) {A1 : Option Addr} {n1 c1 : Nat} {b : Body} (bt : Body.At G A1 n1 c1 b) (hb : b.Fit) {xA1 : Option Addr} {xn1 xc1 : Nat} {is : Body} (it : Body.At G xA1 xn1 xc1 is) (first : Bool) :
    Calls Tryz.prog 15 ⟨[.pointer (some ⟨g, 0, none⟩), .slice A n c, .slice B m d, .agg ⟨s.cells⟩, .agg ⟨[.int .i64 b.mode, .slice A1 n1 c1, .int .i64 b.left, .int .i64 b.over, .int .i64 b.v]⟩, .agg ⟨[.int .i64 is.mode, .slice xA1 xn1 xc1, .int .i64 is.left, .int .i64 is.over, .int .i64 is.v]⟩, .bool first]⟩ W (RetD G H (fun _ v => v = .bool (N.may pos lamps s b is first))) := by
  have hsb := hst.brake
  have hsa := hst.acc
  refine enter Tryz.func15 rfl Tryz.ntmps15 (Nat.le_of_ble_eq_true rfl) hp (nx_seq (nx_region ?_))
  refine nx_op rfl (op_box rfl rfl (fun b10 => ?_))
  refine nx_op rfl (op_box rfl rfl (fun b11 => ?_))
  refine nx_op rfl (op_box rfl rfl (fun b12 => ?_))
  refine nv v_assign (nx_nil (nx_then (nx_seq (nx_seq (nx_region (nv v_move (nv v_fieldAddr (nv v_load1_o (nv v_load_o ?_)))))))))
  refine nx_op rfl (op_callD rfl rfl rfl (fun W hp => turn_ok hp (h.le (Gh.le.refl _)) (bt.le (Gh.le.refl _)) s.len hN.num hst.len hb.left hb.fin) (fun v25 G25 le25 ph25 => ?_))
  obtain ⟨A25, n25, c25, rfl, at25⟩ := ph25
  refine nv v_move (nv (v_extract rfl rfl rfl) (nv (v_extract rfl rfl rfl) ?_))
  refine nx_op rfl (op_alloc rfl (fun b15 => ?_))
  refine st (k := nv v_assign (nx_nil (nx_then (nx_seq (nx_region (nv v_move (nv v_move ?_)))))))
  refine nx_guard (t := 29) rfl (fun g29 => ?_) (fun g29 => ?_)
  refine nr v_load_o (nr v_load_o ?_)
  refine nx_op_run rfl rfl rfl (op_callS rfl rfl rfl (fun W hp => sameB_ok hp at25 (it.le le25)) ?_)
  refine nv v_pick_t (nx_nil (nx_then ?_))
  refine nx_cond_dec rfl (fun c33 => ?_) (fun c33 => ?_)
  have hres : N.may pos lamps s b is first = true := by unfold NetD.may; rw [g29, c33]; simp
  refine nx_seq (nx_region (nv v_assign (nx_nil (nx_then (nx_ret (nx_then_ret ?_))))))
  exact nx_ret1 rfl (.tmp rfl) (rt (le25) (by rw [hres]))
  have hres : N.may pos lamps s b is first = wantAny (fun w => decide (N.step pos lamps s b w first = is)) (min s.acc 10 - max (-s.brake) (-10) + 1).toNat (max (-s.brake) (-10)) := by unfold NetD.may; simp_all
  refine nx_skip (nx_then (nx_seq (dr_begin 9 (.q 0 (.q 1 (.q 2 (.q 3 (.q 4 (.q 5 (.q 6 (.q 7 (.q 8 .done))))))))) rfl (by kernel_rfl) (dr_q rfl rfl v_fieldAddr ic (dr_q rfl rfl v_load1_o ic (dr_q rfl rfl v_neg ic (dr_q rfl rfl v_max ic (dr_q rfl rfl v_fieldAddr ic (dr_q rfl rfl v_load1_o ic (dr_q rfl rfl v_min ic (dr_q rfl rfl v_assign ic ?_)))))))))))
  refine dr_q rfl rfl v_assign ic (dr_end rfl ?_)
  refine nx_nil (nx_np ?_)
  refine nx_then (nx_seq (nx_seq (nx_region (nv v_move (nv v_assign (nx_nil (nx_then (nx_block ?_))))))))
  refine nx_loop_v (σ := Int × Gh) [0, 1, 2, 3, 4, 5, 6, 10, 11, 12, 15, 16, 17, 18, 20, 21, 22, 23, 24, 25, 26, 27, 28, 29, 30, 31, 32, 33, 34, 35, 36, 37, 38, 39, 40, 41] (fun s => [(19, .int .i64 s.1)]) (fun s => s.2) (fun _ => _) (fun q => G25.le q.2 ∧ -10 ≤ q.1 ∧ q.1 ≤ 11 ∧ wantAny (fun w => decide (N.step pos lamps s b w first = is)) (min s.acc 10 - q.1 + 1).toNat q.1 = N.may pos lamps s b is first) (fun q => (11 - q.1).toNat) (max (-s.brake) (-10), G25) (.cons rfl (.cons rfl (.cons rfl (.cons rfl (.cons rfl (.cons rfl (.cons rfl (.cons rfl (.cons rfl (.cons rfl (.cons rfl (.cons rfl (.cons rfl (.cons rfl (.cons rfl (.cons rfl (.cons rfl (.cons rfl (.cons rfl (.cons rfl (.cons rfl (.cons rfl (.cons rfl (.cons rfl (.cons rfl (.cons rfl (.cons rfl (.cons rfl (.cons rfl (.cons rfl (.cons rfl (.cons rfl (.cons rfl (.cons rfl (.cons rfl (.cons rfl (.nil))))))))))))))))))))))))))))))))))))) ⟨rfl, trivial⟩ ⟨Gh.le.refl _, by dsimp only; omega, by dsimp only; omega, hres.symm⟩ rfl rfl ?_
  rintro ⟨w, G5⟩ ⟨le5, hw1, hw2, hI⟩ K next
  dsimp only at le5 hw1 hw2 hI ⊢
  refine nx_seq (nx_seq (nx_region (nv v_move (nv v_move (nv v_leq (nx_nil (nx_then ?_)))))))
  refine nx_cond_dec rfl (fun c44 => ?_) (fun c44 => ?_)
  have hk : (min s.acc 10 - w + 1).toNat = (min s.acc 10 - (w + 1) + 1).toNat + 1 := by omega
  rw [hk] at hI
  simp only [wantAny] at hI
  refine nx_skip (nx_then (nx_seq (nx_block (nx_seq (dr_begin 10 (.q 0 (.q 1 (.q 2 (.q 3 (.q 4 (.q 5 (.q 6 (.q 8 (.l 7 (.l 9 .done)))))))))) rfl (by kernel_rfl) (dr_q rfl rfl v_move ic (dr_q rfl rfl v_move ic (dr_q rfl rfl v_move ic (dr_q rfl rfl v_load_o ic (dr_q rfl rfl v_load_o ic (dr_q rfl rfl v_move ic ?_)))))))))))
  refine dr_q rfl rfl v_move ic (dr_q rfl rfl v_load_o ic (dr_l rfl rfl ?_))
  refine op_callD rfl rfl rfl (fun W hp => step_ok hp (h.le (Gh.le.trans le25 le5)) hN (hs.le (Gh.le.trans le25 le5)) (hl.le (Gh.le.trans le25 le5)) s (bt.le (Gh.le.trans le25 le5)) hb w first) (fun v54 G54 le54 ph54 => ?_)
  obtain ⟨A54, n54, c54, rfl, at54⟩ := ph54
  refine dr_k (ic.le le54) (dr_l rfl rfl ?_)
  refine op_callS rfl rfl rfl (fun W hp => sameB_ok hp at54 (it.le (Gh.le.trans le25 (Gh.le.trans le5 le54)))) ?_
  refine dr_k (ic.le le54) (dr_end rfl ?_)
  refine nx_nil (nx_np ?_)
  refine nx_then ?_
  refine nx_cond_dec rfl (fun c56 => ?_) (fun c56 => ?_)
  have hres2 : N.may pos lamps s b is first = true := by rw [← hI, if_pos (decide_eq_true c56)]
  refine nx_seq (nx_region (nv v_assign (nx_nil (nx_then (nx_ret (nx_in_ret (nx_then_ret (nx_then_ret (nx_in_ret (nx_then_ret ?_))))))))))
  exact nx_ret1 rfl (.tmp rfl) (rt ((Gh.le.trans le25 (Gh.le.trans le5 le54))) (by rw [hres2]))
  rw [if_neg (by simpa using c56)] at hI
  refine nx_skip (nx_in _ (nx_then (nx_region (nv v_move (nv v_add (nv v_assign (nx_nil (nx_then ?_))))))))
  exact nn (next (w + 1, _) ⟨Gh.le.trans le5 le54, (by dsimp only; omega), (by dsimp only; omega), hI⟩ (by dsimp only; omega))
  have hres2 : N.may pos lamps s b is first = false := by
    rw [← hI, show (min s.acc 10 - w + 1).toNat = 0 by omega]; rfl
  refine nx_exit (nx_then_exit (nx_then_exit (nx_in_eq (nx_then (nx_seq (nx_region (nv v_assign (nx_nil (nx_then (nx_ret ?_))))))))))
  exact nx_ret1 rfl (.tmp rfl) (rt ((Gh.le.trans le25 le5)) (by rw [hres2]))
  refine nk (k := nk (k := nk (k := nv v_pick_f (nx_nil (nx_then (nx_cond_f rfl ?_))))))
  have hres : N.may pos lamps s b is first = wantAny (fun w => decide (N.step pos lamps s b w first = is)) (min s.acc 10 - max (-s.brake) (-10) + 1).toNat (max (-s.brake) (-10)) := by unfold NetD.may; simp_all
  refine nx_skip (nx_then (nx_seq (dr_begin 9 (.q 0 (.q 1 (.q 2 (.q 3 (.q 4 (.q 5 (.q 6 (.q 7 (.q 8 .done))))))))) rfl (by kernel_rfl) (dr_q rfl rfl v_fieldAddr ic (dr_q rfl rfl v_load1_o ic (dr_q rfl rfl v_neg ic (dr_q rfl rfl v_max ic (dr_q rfl rfl v_fieldAddr ic (dr_q rfl rfl v_load1_o ic (dr_q rfl rfl v_min ic (dr_q rfl rfl v_assign ic ?_)))))))))))
  refine dr_q rfl rfl v_assign ic (dr_end rfl ?_)
  refine nx_nil (nx_np ?_)
  refine nx_then (nx_seq (nx_seq (nx_region (nv v_move (nv v_assign (nx_nil (nx_then (nx_block ?_))))))))
  refine nx_loop_v (σ := Int × Gh) [0, 1, 2, 3, 4, 5, 6, 10, 11, 12, 15, 16, 17, 18, 20, 21, 22, 23, 24, 25, 26, 27, 28, 29, 30, 31, 32, 33, 34, 35, 36, 37, 38, 39, 40, 41] (fun s => [(19, .int .i64 s.1)]) (fun s => s.2) (fun _ => _) (fun q => G25.le q.2 ∧ -10 ≤ q.1 ∧ q.1 ≤ 11 ∧ wantAny (fun w => decide (N.step pos lamps s b w first = is)) (min s.acc 10 - q.1 + 1).toNat q.1 = N.may pos lamps s b is first) (fun q => (11 - q.1).toNat) (max (-s.brake) (-10), G25) (.cons rfl (.cons rfl (.cons rfl (.cons rfl (.cons rfl (.cons rfl (.cons rfl (.cons rfl (.cons rfl (.cons rfl (.cons rfl (.cons rfl (.cons rfl (.cons rfl (.cons rfl (.cons rfl (.cons rfl (.cons rfl (.cons rfl (.cons rfl (.cons rfl (.cons rfl (.cons rfl (.cons rfl (.cons rfl (.cons rfl (.cons rfl (.cons rfl (.cons rfl (.cons rfl (.cons rfl (.cons rfl (.cons rfl (.cons rfl (.cons rfl (.cons rfl (.nil))))))))))))))))))))))))))))))))))))) ⟨rfl, trivial⟩ ⟨Gh.le.refl _, by dsimp only; omega, by dsimp only; omega, hres.symm⟩ rfl rfl ?_
  rintro ⟨w, G5⟩ ⟨le5, hw1, hw2, hI⟩ K next
  dsimp only at le5 hw1 hw2 hI ⊢
  refine nx_seq (nx_seq (nx_region (nv v_move (nv v_move (nv v_leq (nx_nil (nx_then ?_)))))))
  refine nx_cond_dec rfl (fun c44 => ?_) (fun c44 => ?_)
  have hk : (min s.acc 10 - w + 1).toNat = (min s.acc 10 - (w + 1) + 1).toNat + 1 := by omega
  rw [hk] at hI
  simp only [wantAny] at hI
  refine nx_skip (nx_then (nx_seq (nx_block (nx_seq (dr_begin 10 (.q 0 (.q 1 (.q 2 (.q 3 (.q 4 (.q 5 (.q 6 (.q 8 (.l 7 (.l 9 .done)))))))))) rfl (by kernel_rfl) (dr_q rfl rfl v_move ic (dr_q rfl rfl v_move ic (dr_q rfl rfl v_move ic (dr_q rfl rfl v_load_o ic (dr_q rfl rfl v_load_o ic (dr_q rfl rfl v_move ic ?_)))))))))))
  refine dr_q rfl rfl v_move ic (dr_q rfl rfl v_load_o ic (dr_l rfl rfl ?_))
  refine op_callD rfl rfl rfl (fun W hp => step_ok hp (h.le (Gh.le.trans le25 le5)) hN (hs.le (Gh.le.trans le25 le5)) (hl.le (Gh.le.trans le25 le5)) s (bt.le (Gh.le.trans le25 le5)) hb w first) (fun v54 G54 le54 ph54 => ?_)
  obtain ⟨A54, n54, c54, rfl, at54⟩ := ph54
  refine dr_k (ic.le le54) (dr_l rfl rfl ?_)
  refine op_callS rfl rfl rfl (fun W hp => sameB_ok hp at54 (it.le (Gh.le.trans le25 (Gh.le.trans le5 le54)))) ?_
  refine dr_k (ic.le le54) (dr_end rfl ?_)
  refine nx_nil (nx_np ?_)
  refine nx_then ?_
  refine nx_cond_dec rfl (fun c56 => ?_) (fun c56 => ?_)
  have hres2 : N.may pos lamps s b is first = true := by rw [← hI, if_pos (decide_eq_true c56)]
  refine nx_seq (nx_region (nv v_assign (nx_nil (nx_then (nx_ret (nx_in_ret (nx_then_ret (nx_then_ret (nx_in_ret (nx_then_ret ?_))))))))))
  exact nx_ret1 rfl (.tmp rfl) (rt ((Gh.le.trans le25 (Gh.le.trans le5 le54))) (by rw [hres2]))
  rw [if_neg (by simpa using c56)] at hI
  refine nx_skip (nx_in _ (nx_then (nx_region (nv v_move (nv v_add (nv v_assign (nx_nil (nx_then ?_))))))))
  exact nn (next (w + 1, _) ⟨Gh.le.trans le5 le54, (by dsimp only; omega), (by dsimp only; omega), hI⟩ (by dsimp only; omega))
  have hres2 : N.may pos lamps s b is first = false := by
    rw [← hI, show (min s.acc 10 - w + 1).toNat = 0 by omega]; rfl
  refine nx_exit (nx_then_exit (nx_then_exit (nx_in_eq (nx_then (nx_seq (nx_region (nv v_assign (nx_nil (nx_then (nx_ret ?_))))))))))
  exact nx_ret1 rfl (.tmp rfl) (rt ((Gh.le.trans le25 le5)) (by rw [hres2]))
def posAt (x : Note) (e : Int) : Int := (x.pos[e.toNat]?).getD 0
def underOk (N : NetD) (was is : Note) (t : Nat) : Bool := (lies N.p ((was.bodies[t]?).getD noBody)).any (fun e => decide (¬ posAt was e = posAt is e))
set_option maxRecDepth 20000 in
set_option maxHeartbeats 1000000 in
theorem under1_ok {G : Gh} {H : List (Nat × Obj)} {W : World} (hp : Hp G H W) {A1 : Option Addr} {n1 c1 : Nat} {A2 : Option Addr} {n2 c2 : Nat} {A3 : Option Addr} {n3 c3 : Nat} {x : Note} (nt : Note.At G A1 n1 c1 A2 n2 c2 A3 n3 c3 x) {yA1 : Option Addr} {yn1 yc1 : Nat} {yA2 : Option Addr} {yn2 yc2 : Nat} {yA3 : Option Addr} {yn3 yc3 : Nat} {y : Note} (mt : Note.At G yA1 yn1 yc1 yA2 yn2 yc2 yA3 yn3 yc3 y) {q1 q2 : Nat} (hm1 : (q1, row [.slice A1 n1 c1, .slice A2 n2 c2, .slice A3 n3 c3] 76) ∈ H) (hm2 : (q2, row [.slice yA1 yn1 yc1, .slice yA2 yn2 yc2, .slice yA3 yn3 yc3] 76) ∈ H) (e : Int) (he : 0 ≤ e ∧ e < (x.pos.length : Int) ∧ e < (y.pos.length : Int)) :
    Calls Tryz.prog 157 ⟨[.int .i64 e, .pointer (some ⟨q1, 0, none⟩), .pointer (some ⟨q2, 0, none⟩)]⟩ W (RetS G H (.bool (decide (¬ posAt x e = posAt y e)))) := by
  have hl1 := nt.h1.length
  have hl2 := mt.h1.length
  obtain ⟨q, hq⟩ : ∃ q : Nat, e = q := ⟨e.toNat, by omega⟩
  obtain ⟨u, hu⟩ : ∃ u, x.pos[q]? = some u := ⟨_, List.getElem?_eq_getElem (by omega)⟩
  obtain ⟨v, hv⟩ : ∃ v, y.pos[q]? = some v := ⟨_, List.getElem?_eq_getElem (by omega)⟩
  obtain ⟨ub, uo, ue, uk, uf0⟩ := get_Int nt.h1 hu
  cases ue
  obtain ⟨vb, vo, ve, vk, vf0⟩ := get_Int mt.h1 hv
  cases ve
  refine enter Tryz.func157 rfl Tryz.ntmps157 (Nat.le_of_ble_eq_true rfl) hp (nx_seq (nx_region (nv v_assign (nx_nil (nx_then (nx_seq (dr_begin 12 (.q 0 (.q 1 (.q 2 (.q 3 (.q 4 (.q 5 (.q 6 (.q 7 (.q 8 (.q 9 (.q 10 (.q 11 .done)))))))))))) rfl (by kernel_rfl) (dr_q rfl rfl v_fieldAddr ic (dr_q rfl rfl (v_load1 rfl rfl (Rd.own hm1 rfl)) ic (dr_q rfl rfl v_move ic ?_))))))))))
  refine dr_q rfl rfl (v_indexAddr_nat (k := q) rfl rfl (by rw [← hq]; rfl) (by omega)) ic ?_
  refine dr_q rfl rfl v_load1_s ic (dr_q rfl rfl v_fieldAddr ic (dr_q rfl rfl (v_load1 rfl rfl (Rd.own hm2 rfl)) ic (dr_q rfl rfl v_move ic ?_)))
  refine dr_q rfl rfl (v_indexAddr_nat (k := q) rfl rfl (by rw [← hq]; rfl) (by omega)) ic ?_
  refine dr_q rfl rfl v_load1_s ic (dr_q rfl rfl v_neq ic (dr_q rfl rfl v_assign ic (dr_end rfl ?_)))
  refine nx_nil (nx_np ?_)
  refine nx_then (nx_ret ?_)
  exact nx_ret1 rfl (.tmp rfl) (rs (by unfold posAt; rw [hq, Int.toNat_natCast, hu, hv]; rfl))
set_option maxRecDepth 20000 in
set_option maxHeartbeats 1000000 in
theorem under_ok {G : Gh} {H : List (Nat × Obj)} {W : World} (hp : Hp G H W) {g : Nat} {N : NetD} {S1 : Option Addr} {sn sc : Nat} {F1 : Option Addr} {fn fc : Nat} {stock : List Stock} {first : List Body} (ct : CourtAt G g S1 sn sc F1 fn fc N stock first) {A1 : Option Addr} {n1 c1 : Nat} {A2 : Option Addr} {n2 c2 : Nat} {A3 : Option Addr} {n3 c3 : Nat} {x : Note} (nt : Note.At G A1 n1 c1 A2 n2 c2 A3 n3 c3 x) {yA1 : Option Addr} {yn1 yc1 : Nat} {yA2 : Option Addr} {yn2 yc2 : Nat} {yA3 : Option Addr} {yn3 yc3 : Nat} {y : Note} (mt : Note.At G yA1 yn1 yc1 yA2 yn2 yc2 yA3 yn3 yc3 y) {t : Nat} {o : Body} (ho : x.bodies[t]? = some o) (hof : o.trail.length ≤ 1000)
    (hel : ∀ e, e ∈ lies N.p o → 0 ≤ e ∧ e < (x.pos.length : Int) ∧ e < (y.pos.length : Int)) : Calls Tryz.prog 98 ⟨[.agg ⟨[.pointer (some ⟨g, 0, none⟩), .slice S1 sn sc, .slice F1 fn fc]⟩, .agg ⟨[.slice A1 n1 c1, .slice A2 n2 c2, .slice A3 n3 c3]⟩, .agg ⟨[.slice yA1 yn1 yc1, .slice yA2 yn2 yc2, .slice yA3 yn3 yc3]⟩, .int .i64 (t : Int)]⟩ W (RetD G H (fun _ v => v = .bool (underOk N x y t))) := by
  have hl3 := nt.h3.length
  have hlt := (List.getElem?_eq_some_iff.1 ho).1
  obtain ⟨ob, oo, oA1, on1, oc1, oe, ok, of0, of1, of2, of3, of4, oat⟩ := get_Body nt.h3 ho
  cases oe
  have hol := oat.h1.length
  refine enter Tryz.func98 rfl Tryz.ntmps98 (Nat.le_of_ble_eq_true rfl) hp (nx_seq (nx_region ?_))
  refine nx_op rfl (op_box rfl rfl (fun b4 => ?_))
  refine nx_op rfl (op_box rfl rfl (fun b5 => ?_))
  refine nx_op rfl (op_box rfl rfl (fun b6 => ?_))
  refine nv v_assign (nx_nil (nx_then (nx_seq (dr_begin 11 (.q 0 (.q 1 (.q 2 (.q 3 (.q 4 (.q 5 (.q 6 (.q 8 (.l 7 (.l 9 (.q 10 .done))))))))))) rfl (by kernel_rfl) (dr_q rfl rfl v_fieldAddr ic (dr_q rfl rfl v_load1_o ic (dr_q rfl rfl v_fieldAddr ic (dr_q rfl rfl v_load1_o ic (dr_q rfl rfl v_move ic (dr_q rfl rfl (v_indexAddr_nat (k := t) rfl rfl rfl (by omega)) ic (dr_q rfl rfl v_load_s ic ?_)))))))))))
  refine dr_q rfl rfl v_makeFunc ic (dr_l rfl rfl ?_)
  refine op_callD rfl rfl rfl (fun W hp => lies_run hp (ct.net.le (Gh.le.refl _)) oat (by omega)) (fun v16 G16 le16 ph16 => ?_)
  obtain ⟨A16, c16, rfl, s16⟩ := ph16
  refine dr_k (ic.le le16) (dr_l rfl rfl ?_)
  refine op_callD rfl rfl rfl (fun W hp => containsFunc_Int hp s16 (fun e => decide (¬ posAt x e = posAt y e)) (fst := []) (cap := [.pointer (some ⟨b5, 0, none⟩), .pointer (some ⟨b6, 0, none⟩)]) (fun e he => fun G' H' W' hl hs' hp' => RetS.toD (under1_ok hp' (nt.le (Gh.le.trans le16 hl)) (mt.le (Gh.le.trans le16 hl)) (hs'.sublist.subset (List.mem_cons_of_mem _ List.mem_cons_self)) (hs'.sublist.subset List.mem_cons_self) e (hel e he)))) (fun v18 G18 le18 ph18 => ?_)
  subst ph18
  refine dr_k ((ic.le le16).le le18) (dr_q rfl rfl v_assign ((ic.le le16).le le18) (dr_end rfl ?_))
  refine nx_nil (nx_np ?_)
  refine nx_then (nx_ret ?_)
  exact nx_ret1 rfl (.tmp rfl) (rt ((Gh.le.trans le16 le18)) (by unfold underOk; rw [ho]; rfl))
end Go.Proofs.YtjckojnlapchoaaGreat
open Go Go.RowKit
namespace Go.Proofs.YtjckojnlapchoaaGreat
open Go.Proofs
def noNote : Note := ⟨[], [], []⟩
def noStock : Stock := ⟨⟨#[]⟩, 0, 0, 0, 0⟩
def wrongOk (N : NetD) (stock : List Stock) (first : List Body) (l : List Note) (fs : List Bool) (k : Int) (i t : Nat) : Bool :=
  let x := (l[i]?).getD noNote
  let y := (l[i - 1]?).getD noNote
  let b := (x.bodies[t]?).getD noBody
  if k = 3 then decide ((i : Int) = 0) && !decide (b = (first[t]?).getD noBody)
  else if k = 4 then meetsOk N x t
  else if k = 5 then decide (b.mode = 4)
  else if k = 6 then decide (0 < (i : Int)) && underOk N y x t
  else if k = 7 then decide (0 < (i : Int)) && !N.may x.pos x.lamps ((stock[t]?).getD noStock) ((y.bodies[t]?).getD noBody) b ((fs[t]?).getD false)
  else false
structure WrongI (N : NetD) (stock : List Stock) (first : List Body) (l : List Note) (fs : List Bool) (i t : Nat) (x : Note) (b f : Body) (s : Stock) (hot : Bool) : Prop where
  hx : l[i]? = some x
  hb : x.bodies[t]? = some b
  few : x.Few
  hf : first[t]? = some f
  hs : stock[t]? = some s
  sfit : s.Fit
  hg : fs[t]? = some hot
  prev : 0 < i → ∃ y c, l[i - 1]? = some y ∧ y.bodies[t]? = some c ∧ c.Fit ∧ ∀ e, e ∈ lies N.p c → 0 ≤ e ∧ e < (y.pos.length : Int) ∧ e < (x.pos.length : Int)
set_option maxRecDepth 20000 in
set_option maxHeartbeats 1000000 in
theorem wrong_ok {G : Gh} {H : List (Nat × Obj)} {W : World} (hp : Hp G H W) {g : Nat} {N : NetD} {S1 : Option Addr} {sn sc : Nat} {F1 : Option Addr} {fn fc : Nat} {stock : List Stock} {first : List Body} (ct : CourtAt G g S1 sn sc F1 fn fc N stock first) (hN : N.Ok) {A : Option Addr} {n c : Nat} {l : List Note} (hs : Sl tNote G A n c l) {B : Option Addr} {m d : Nat} {fs : List Bool} (hf : Sl tBool G B m d fs) (k : Int) {i t : Nat} {x : Note} {b f : Body} {s : Stock} {hot : Bool} (I : WrongI N stock first l fs i t x b f s hot) :
    Calls Tryz.prog 46 ⟨[.agg ⟨[.pointer (some ⟨g, 0, none⟩), .slice S1 sn sc, .slice F1 fn fc]⟩, .int .i64 k, .slice A n c, .int .i64 (i : Int), .int .i64 (t : Int), .slice B m d]⟩ W (RetD G H (fun _ v => v = .bool (wrongOk N stock first l fs k i t))) := by
  have hl := hs.length
  have hlr := Nat.le_trans hs.cap hs.room
  have hix := (List.getElem?_eq_some_iff.1 I.hx).1
  have htx := (List.getElem?_eq_some_iff.1 I.hb).1
  have htf := (List.getElem?_eq_some_iff.1 I.hf).1
  have hts := (List.getElem?_eq_some_iff.1 I.hs).1
  have htg := (List.getElem?_eq_some_iff.1 I.hg).1
  have hfl := ct.fs.length
  have hsl := ct.st.length
  have hgl := hf.length
  obtain ⟨xb, xo, xA1, xn1, xc1, xA2, xn2, xc2, xA3, xn3, xc3, xe, xk, xf0, xf1, xf2, xat⟩ := get_Note hs I.hx
  cases xe
  have hxl := xat.h3.length
  obtain ⟨bb, bo, bA1, bn1, bc1, be, bk, bf0, bf1, bf2, bf3, bf4, bat⟩ := get_Body xat.h3 I.hb
  cases be
  obtain ⟨fb, fo, fA1, fn1, fc1, fe, fk, ff0, ff1, ff2, ff3, ff4, fat⟩ := get_Body ct.fs I.hf
  cases fe
  obtain ⟨sb, so, se, sk, sf0, sf1, sf2, sf3, sf4⟩ := get_Stock ct.st I.hs
  cases se
  obtain ⟨ggb, ggo, gge, ggk, ggf0⟩ := get_Bool hf I.hg
  cases gge
  have e1 : (l[i]?).getD noNote = x := by rw [I.hx]; rfl
  have e2 : (x.bodies[t]?).getD noBody = b := by rw [I.hb]; rfl
  have e3 : (first[t]?).getD noBody = f := by rw [I.hf]; rfl
  have e4 : (stock[t]?).getD noStock = s := by rw [I.hs]; rfl
  have e5 : (fs[t]?).getD false = hot := by rw [I.hg]; rfl
  refine enter Tryz.func46 rfl Tryz.ntmps46 (Nat.le_of_ble_eq_true rfl) hp (nx_seq (nx_region ?_))
  refine nx_op rfl (op_box rfl rfl (fun b6 => ?_))
  refine nv v_assign (nx_nil (nx_then (nx_seq (nx_region (nv v_move (nv v_move (nv (v_indexAddr_nat (k := i) rfl rfl rfl (by omega)) (nv v_load_s ?_))))))))
  refine nx_op rfl (op_alloc rfl (fun b13 => ?_))
  refine st (k := nx_nil (nx_then (nx_seq (nx_seq (nx_region (nv v_move (nx_nil (nx_then (nx_block (nx_seq (nx_region ?_)))))))))))
  refine nv v_eql (nv v_assign (nx_nil (nx_then ?_)))
  refine nx_cond_dec rfl (fun c19 => ?_) (fun c19 => ?_)
  refine nx_seq (dr_begin 17 (.q 0 (.q 1 (.q 2 (.q 3 (.q 4 (.q 5 (.q 6 (.q 7 (.q 8 (.q 9 (.q 10 (.q 11 (.q 12 (.l 13 (.q 14 (.q 15 (.q 16 .done))))))))))))))))) rfl (by kernel_rfl) (dr_q rfl rfl v_move ic (dr_q rfl rfl v_eql ic (dr_q rfl rfl v_move ic ?_))))
  refine nx_guard_dec (t := 23) rfl (fun g23 => ?_) (fun g23 => ?_)
  refine dr_q_run rfl rfl rfl rfl v_fieldAddr ic (dr_q_run rfl rfl rfl rfl v_load1_o ic (dr_q_run rfl rfl rfl rfl v_move ic (dr_q_run rfl rfl rfl rfl (v_indexAddr_nat (k := t) rfl rfl rfl (by omega)) ic (dr_q_run rfl rfl rfl rfl v_load_s ic (dr_q_run rfl rfl rfl rfl v_fieldAddr ic (dr_q_run rfl rfl rfl rfl v_load1_o ic (dr_q_run rfl rfl rfl rfl v_move ic (dr_q_run rfl rfl rfl rfl (v_indexAddr_nat (k := t) rfl rfl rfl (by omega)) ic (dr_q_run rfl rfl rfl rfl v_load_s ic (dr_l_run rfl rfl rfl rfl ?_))))))))))
  refine op_callS rfl rfl rfl (fun W hp => sameB_ok hp bat fat) ?_
  refine dr_k ic (dr_q_run rfl rfl rfl rfl v_not_dec ic (dr_q rfl rfl v_pick_t ic (dr_q rfl rfl v_assign ic (dr_end rfl ?_))))
  refine nx_nil (nx_np ?_)
  refine nx_then (nx_ret (nx_in_ret (nx_then_ret ?_)))
  exact nx_ret1 rfl (.tmp rfl) (rt ((Gh.le.refl _)) (by unfold wrongOk; simp only [e1, e2, e3, e4, e5]; first
    | (rw [if_pos c19, decide_eq_true g23, Bool.true_and, decide_not]; done)
    | (rw [if_pos c19, decide_eq_false g23]; rfl)
    | (rw [if_neg c19, if_pos c37]; done)
    | (rw [if_neg c19, if_neg c37, if_pos c43]; done)
    | (simp only [e6]; rw [if_neg c19, if_neg c37, if_neg c43, if_pos c52, decide_eq_true g56]; rfl)
    | (rw [if_neg c19, if_neg c37, if_neg c43, if_pos c52, decide_eq_false g56]; rfl)
    | (simp only [e6, e7]; rw [if_neg c19, if_neg c37, if_neg c43, if_neg c52, if_pos c67, decide_eq_true g71]; rfl)
    | (rw [if_neg c19, if_neg c37, if_neg c43, if_neg c52, if_pos c67, decide_eq_false g71]; rfl)
    | (rw [if_neg c19, if_neg c37, if_neg c43, if_neg c52, if_neg c67]; done)))
  refine dk (k := dk (k := dk (k := dk (k := dk (k := dk (k := dk (k := dk (k := dk (k := dk (k := dr_l_skip rfl rfl rfl rfl rfl rfl ic (dk (k := ?_))))))))))))
  refine dr_q rfl rfl v_pick_f ic (dr_q rfl rfl v_assign ic (dr_end rfl ?_))
  refine nx_nil (nx_np ?_)
  refine nx_then (nx_ret (nx_in_ret (nx_then_ret ?_)))
  exact nx_ret1 rfl (.tmp rfl) (rt ((Gh.le.refl _)) (by unfold wrongOk; simp only [e1, e2, e3, e4, e5]; first
    | (rw [if_pos c19, decide_eq_true g23, Bool.true_and, decide_not]; done)
    | (rw [if_pos c19, decide_eq_false g23]; rfl)
    | (rw [if_neg c19, if_pos c37]; done)
    | (rw [if_neg c19, if_neg c37, if_pos c43]; done)
    | (simp only [e6]; rw [if_neg c19, if_neg c37, if_neg c43, if_pos c52, decide_eq_true g56]; rfl)
    | (rw [if_neg c19, if_neg c37, if_neg c43, if_pos c52, decide_eq_false g56]; rfl)
    | (simp only [e6, e7]; rw [if_neg c19, if_neg c37, if_neg c43, if_neg c52, if_pos c67, decide_eq_true g71]; rfl)
    | (rw [if_neg c19, if_neg c37, if_neg c43, if_neg c52, if_pos c67, decide_eq_false g71]; rfl)
    | (rw [if_neg c19, if_neg c37, if_neg c43, if_neg c52, if_neg c67]; done)))
  refine nx_seq (nx_region (nv v_eql (nv v_assign (nx_nil (nx_then ?_)))))
  refine nx_cond_dec rfl (fun c37 => ?_) (fun c37 => ?_)
  refine nx_seq (nx_region (nv v_load_o (nv v_load_o (nv v_move ?_))))
  refine nx_op rfl (op_callD rfl rfl rfl (fun W hp => meets_ok hp ct xat I.few (t := t) htx) (fun v42 G42 le42 ph42 => ?_))
  subst ph42
  refine nv v_assign (nx_nil (nx_then (nx_ret (nx_in_ret (nx_then_ret ?_)))))
  exact nx_ret1 rfl (.tmp rfl) (rt (le42) (by unfold wrongOk; simp only [e1, e2, e3, e4, e5]; first
    | (rw [if_pos c19, decide_eq_true g23, Bool.true_and, decide_not]; done)
    | (rw [if_pos c19, decide_eq_false g23]; rfl)
    | (rw [if_neg c19, if_pos c37]; done)
    | (rw [if_neg c19, if_neg c37, if_pos c43]; done)
    | (simp only [e6]; rw [if_neg c19, if_neg c37, if_neg c43, if_pos c52, decide_eq_true g56]; rfl)
    | (rw [if_neg c19, if_neg c37, if_neg c43, if_pos c52, decide_eq_false g56]; rfl)
    | (simp only [e6, e7]; rw [if_neg c19, if_neg c37, if_neg c43, if_neg c52, if_pos c67, decide_eq_true g71]; rfl)
    | (rw [if_neg c19, if_neg c37, if_neg c43, if_neg c52, if_pos c67, decide_eq_false g71]; rfl)
    | (rw [if_neg c19, if_neg c37, if_neg c43, if_neg c52, if_neg c67]; done)))
  refine nx_seq (nx_region (nv v_eql (nv v_assign (nx_nil (nx_then ?_)))))
  refine nx_cond_dec rfl (fun c43 => ?_) (fun c43 => ?_)
  refine nx_seq (nx_region (nv v_fieldAddr (nv v_load1_o (nv v_move (nv (v_indexAddr_nat (k := t) rfl rfl rfl (by omega)) (nv v_fieldAddr (nv v_load1_s (nv v_eql (nv v_assign (nx_nil (nx_then ?_)))))))))))
  refine nx_ret (nx_in_ret (nx_then_ret ?_))
  exact nx_ret1 rfl (.tmp rfl) (rt ((Gh.le.refl _)) (by unfold wrongOk; simp only [e1, e2, e3, e4, e5]; first
    | (rw [if_pos c19, decide_eq_true g23, Bool.true_and, decide_not]; done)
    | (rw [if_pos c19, decide_eq_false g23]; rfl)
    | (rw [if_neg c19, if_pos c37]; done)
    | (rw [if_neg c19, if_neg c37, if_pos c43]; done)
    | (simp only [e6]; rw [if_neg c19, if_neg c37, if_neg c43, if_pos c52, decide_eq_true g56]; rfl)
    | (rw [if_neg c19, if_neg c37, if_neg c43, if_pos c52, decide_eq_false g56]; rfl)
    | (simp only [e6, e7]; rw [if_neg c19, if_neg c37, if_neg c43, if_neg c52, if_pos c67, decide_eq_true g71]; rfl)
    | (rw [if_neg c19, if_neg c37, if_neg c43, if_neg c52, if_pos c67, decide_eq_false g71]; rfl)
    | (rw [if_neg c19, if_neg c37, if_neg c43, if_neg c52, if_neg c67]; done)))
  refine nx_seq (nx_region (nv v_eql (nv v_assign (nx_nil (nx_then ?_)))))
  refine nx_cond_dec rfl (fun c52 => ?_) (fun c52 => ?_)
  refine nx_seq (dr_begin 14 (.q 0 (.q 1 (.q 2 (.q 3 (.q 4 (.q 5 (.q 6 (.q 7 (.q 8 (.q 9 (.q 10 (.l 11 (.q 12 (.q 13 .done)))))))))))))) rfl (by kernel_rfl) (dr_q rfl rfl v_move ic (dr_q rfl rfl v_gtr ic (dr_q rfl rfl v_move ic ?_))))
  refine nx_guard_dec (t := 56) rfl (fun g56 => ?_) (fun g56 => ?_)
  obtain ⟨y, z, hy, hz, hzf, hze⟩ := I.prev (by omega)
  obtain ⟨yb, yo, yA1, yn1, yc1, yA2, yn2, yc2, yA3, yn3, yc3, ye, yk, yf0, yf1, yf2, yat⟩ := get_Note hs hy
  cases ye
  obtain ⟨zb, zo, zA1, zn1, zc1, ze, zk, zf0, zf1, zf2, zf3, zf4, zat⟩ := get_Body yat.h3 hz
  cases ze
  have hyl := yat.h3.length
  have hzt := (List.getElem?_eq_some_iff.1 hz).1
  have e6 : (l[i - 1]?).getD noNote = y := by rw [hy]; rfl
  refine dr_q_run rfl rfl rfl rfl v_load_o ic (dr_q_run rfl rfl rfl rfl v_move ic (dr_q_run rfl rfl rfl rfl v_move ic (dr_q_run rfl rfl rfl rfl v_sub ic ?_)))
  refine dr_q_run rfl rfl rfl rfl (v_indexAddr_nat (k := i - 1) rfl rfl (by rw [show ((i - 1 : Nat) : Int) = (i : Int) - 1 by omega]; rfl) (by omega)) ic ?_
  refine dr_q_run rfl rfl rfl rfl v_load_s ic (dr_q_run rfl rfl rfl rfl v_load_o ic (dr_q_run rfl rfl rfl rfl v_move ic (dr_l_run rfl rfl rfl rfl ?_)))
  refine op_callD rfl rfl rfl (fun W hp => under_ok hp (ct.le (Gh.le.refl _)) (yat.le (Gh.le.refl _)) (xat.le (Gh.le.refl _)) hz hzf.few hze) (fun v65 G65 le65 ph65 => ?_)
  subst ph65
  refine dr_k (ic.le le65) (dr_q rfl rfl v_pick_t (ic.le le65) (dr_q rfl rfl v_assign (ic.le le65) (dr_end rfl ?_)))
  refine nx_nil (nx_np ?_)
  refine nx_then (nx_ret (nx_in_ret (nx_then_ret ?_)))
  exact nx_ret1 rfl (.tmp rfl) (rt (le65) (by unfold wrongOk; simp only [e1, e2, e3, e4, e5]; first
    | (rw [if_pos c19, decide_eq_true g23, Bool.true_and, decide_not]; done)
    | (rw [if_pos c19, decide_eq_false g23]; rfl)
    | (rw [if_neg c19, if_pos c37]; done)
    | (rw [if_neg c19, if_neg c37, if_pos c43]; done)
    | (simp only [e6]; rw [if_neg c19, if_neg c37, if_neg c43, if_pos c52, decide_eq_true g56]; rfl)
    | (rw [if_neg c19, if_neg c37, if_neg c43, if_pos c52, decide_eq_false g56]; rfl)
    | (simp only [e6, e7]; rw [if_neg c19, if_neg c37, if_neg c43, if_neg c52, if_pos c67, decide_eq_true g71]; rfl)
    | (rw [if_neg c19, if_neg c37, if_neg c43, if_neg c52, if_pos c67, decide_eq_false g71]; rfl)
    | (rw [if_neg c19, if_neg c37, if_neg c43, if_neg c52, if_neg c67]; done)))
  refine dk (k := dk (k := dk (k := dk (k := dk (k := dk (k := dk (k := dk (k := dr_l_skip rfl rfl rfl rfl rfl rfl ic (dr_q rfl rfl v_pick_f ic (dr_q rfl rfl v_assign ic (dr_end rfl ?_)))))))))))
  refine nx_nil (nx_np ?_)
  refine nx_then (nx_ret (nx_in_ret (nx_then_ret ?_)))
  exact nx_ret1 rfl (.tmp rfl) (rt ((Gh.le.refl _)) (by unfold wrongOk; simp only [e1, e2, e3, e4, e5]; first
    | (rw [if_pos c19, decide_eq_true g23, Bool.true_and, decide_not]; done)
    | (rw [if_pos c19, decide_eq_false g23]; rfl)
    | (rw [if_neg c19, if_pos c37]; done)
    | (rw [if_neg c19, if_neg c37, if_pos c43]; done)
    | (simp only [e6]; rw [if_neg c19, if_neg c37, if_neg c43, if_pos c52, decide_eq_true g56]; rfl)
    | (rw [if_neg c19, if_neg c37, if_neg c43, if_pos c52, decide_eq_false g56]; rfl)
    | (simp only [e6, e7]; rw [if_neg c19, if_neg c37, if_neg c43, if_neg c52, if_pos c67, decide_eq_true g71]; rfl)
    | (rw [if_neg c19, if_neg c37, if_neg c43, if_neg c52, if_pos c67, decide_eq_false g71]; rfl)
    | (rw [if_neg c19, if_neg c37, if_neg c43, if_neg c52, if_neg c67]; done)))
  refine nx_seq (nx_region (nv v_eql (nv v_assign (nx_nil (nx_then ?_)))))
  refine nx_cond_dec rfl (fun c67 => ?_) (fun c67 => ?_)
  refine nx_seq (dr_begin 36 (.q 0 (.q 1 (.q 2 (.q 3 (.q 4 (.q 5 (.q 6 (.q 7 (.q 8 (.q 9 (.q 10 (.q 11 (.q 12 (.q 13 (.q 14 (.q 15 (.q 16 (.q 17 (.q 18 (.q 19 (.q 20 (.q 21 (.q 22 (.q 23 (.q 24 (.q 25 (.q 26 (.q 27 (.q 28 (.q 29 (.q 30 (.q 31 (.l 32 (.q 33 (.q 34 (.q 35 .done)))))))))))))))))))))))))))))))))))) rfl (by kernel_rfl) (dr_q rfl rfl v_move ic (dr_q rfl rfl v_gtr ic (dr_q rfl rfl v_move ic ?_))))
  refine nx_guard_dec (t := 71) rfl (fun g71 => ?_) (fun g71 => ?_)
  obtain ⟨y, z, hy, hz, hzf, hze⟩ := I.prev (by omega)
  obtain ⟨yb, yo, yA1, yn1, yc1, yA2, yn2, yc2, yA3, yn3, yc3, ye, yk, yf0, yf1, yf2, yat⟩ := get_Note hs hy
  cases ye
  obtain ⟨zb, zo, zA1, zn1, zc1, ze, zk, zf0, zf1, zf2, zf3, zf4, zat⟩ := get_Body yat.h3 hz
  cases ze
  have hyl := yat.h3.length
  have hzt := (List.getElem?_eq_some_iff.1 hz).1
  have e6 : (l[i - 1]?).getD noNote = y := by rw [hy]; rfl
  have e7 : (y.bodies[t]?).getD noBody = z := by rw [hz]; rfl
  refine dr_q_run rfl rfl rfl rfl v_fieldAddr ic (dr_q_run rfl rfl rfl rfl v_load1_o ic (dr_q_run rfl rfl rfl rfl v_fieldAddr ic (dr_q_run rfl rfl rfl rfl v_load1_o ic (dr_q_run rfl rfl rfl rfl v_fieldAddr ic (dr_q_run rfl rfl rfl rfl v_load1_o ic (dr_q_run rfl rfl rfl rfl v_fieldAddr ic (dr_q_run rfl rfl rfl rfl v_load1_o ic (dr_q_run rfl rfl rfl rfl v_move ic (dr_q_run rfl rfl rfl rfl (v_indexAddr_nat (k := t) rfl rfl rfl (by omega)) ic (dr_q_run rfl rfl rfl rfl v_load_s ic (dr_q_run rfl rfl rfl rfl v_move ic ?_)))))))))))
  refine dr_q_run rfl rfl rfl rfl v_move ic (dr_q_run rfl rfl rfl rfl v_sub ic ?_)
  refine dr_q_run rfl rfl rfl rfl (v_indexAddr_nat (k := i - 1) rfl rfl (by rw [show ((i - 1 : Nat) : Int) = (i : Int) - 1 by omega]; rfl) (by omega)) ic ?_
  refine dr_q_run rfl rfl rfl rfl v_fieldAddr ic (dr_q_run rfl rfl rfl rfl v_load1_s ic (dr_q_run rfl rfl rfl rfl v_move ic (dr_q_run rfl rfl rfl rfl (v_indexAddr_nat (k := t) rfl rfl rfl (by omega)) ic (dr_q_run rfl rfl rfl rfl v_load_s ic (dr_q_run rfl rfl rfl rfl v_fieldAddr ic (dr_q_run rfl rfl rfl rfl v_load1_o ic (dr_q_run rfl rfl rfl rfl v_move ic (dr_q_run rfl rfl rfl rfl (v_indexAddr_nat (k := t) rfl rfl rfl (by omega)) ic (dr_q_run rfl rfl rfl rfl v_load_s ic (dr_q_run rfl rfl rfl rfl v_move ic (dr_q_run rfl rfl rfl rfl v_move ic ?_)))))))))))
  refine dr_q_run rfl rfl rfl rfl (v_indexAddr_nat (k := t) rfl rfl rfl (by omega)) ic (dr_q_run rfl rfl rfl rfl v_load1_s ic (dr_l_run rfl rfl rfl rfl ?_))
  refine op_callD rfl rfl rfl (fun W hp => mayJ_ok hp (ct.net.le (Gh.le.refl _)) hN (xat.h1.le (Gh.le.refl _)) (xat.h2.le (Gh.le.refl _)) s I.sfit (zat.le (Gh.le.refl _)) hzf (bat.le (Gh.le.refl _)) hot) (fun v101 G101 le101 ph101 => ?_)
  subst ph101
  refine dr_k (ic.le le101) (dr_q_run rfl rfl rfl rfl v_not (ic.le le101) (dr_q rfl rfl v_pick_t (ic.le le101) (dr_q rfl rfl v_assign (ic.le le101) (dr_end rfl ?_))))
  refine nx_nil (nx_np ?_)
  refine nx_then (nx_ret (nx_in_ret (nx_then_ret ?_)))
  exact nx_ret1 rfl (.tmp rfl) (rt (le101) (by unfold wrongOk; simp only [e1, e2, e3, e4, e5]; first
    | (rw [if_pos c19, decide_eq_true g23, Bool.true_and, decide_not]; done)
    | (rw [if_pos c19, decide_eq_false g23]; rfl)
    | (rw [if_neg c19, if_pos c37]; done)
    | (rw [if_neg c19, if_neg c37, if_pos c43]; done)
    | (simp only [e6]; rw [if_neg c19, if_neg c37, if_neg c43, if_pos c52, decide_eq_true g56]; rfl)
    | (rw [if_neg c19, if_neg c37, if_neg c43, if_pos c52, decide_eq_false g56]; rfl)
    | (simp only [e6, e7]; rw [if_neg c19, if_neg c37, if_neg c43, if_neg c52, if_pos c67, decide_eq_true g71]; rfl)
    | (rw [if_neg c19, if_neg c37, if_neg c43, if_neg c52, if_pos c67, decide_eq_false g71]; rfl)
    | (rw [if_neg c19, if_neg c37, if_neg c43, if_neg c52, if_neg c67]; done)))
  refine dk (k := dk (k := dk (k := dk (k := dk (k := dk (k := dk (k := dk (k := dk (k := dk (k := dk (k := dk (k := ?_))))))))))))
  refine dk (k := dk (k := dk (k := dk (k := dk (k := dk (k := dk (k := dk (k := dk (k := dk (k := dk (k := dk (k := ?_))))))))))))
  refine dk (k := dk (k := dk (k := dk (k := dk (k := dr_l_skip rfl rfl rfl rfl rfl rfl ic (dk (k := dr_q rfl rfl v_pick_f ic (dr_q rfl rfl v_assign ic (dr_end rfl ?_)))))))))
  refine nx_nil (nx_np ?_)
  refine nx_then (nx_ret (nx_in_ret (nx_then_ret ?_)))
  exact nx_ret1 rfl (.tmp rfl) (rt ((Gh.le.refl _)) (by unfold wrongOk; simp only [e1, e2, e3, e4, e5]; first
    | (rw [if_pos c19, decide_eq_true g23, Bool.true_and, decide_not]; done)
    | (rw [if_pos c19, decide_eq_false g23]; rfl)
    | (rw [if_neg c19, if_pos c37]; done)
    | (rw [if_neg c19, if_neg c37, if_pos c43]; done)
    | (simp only [e6]; rw [if_neg c19, if_neg c37, if_neg c43, if_pos c52, decide_eq_true g56]; rfl)
    | (rw [if_neg c19, if_neg c37, if_neg c43, if_pos c52, decide_eq_false g56]; rfl)
    | (simp only [e6, e7]; rw [if_neg c19, if_neg c37, if_neg c43, if_neg c52, if_pos c67, decide_eq_true g71]; rfl)
    | (rw [if_neg c19, if_neg c37, if_neg c43, if_neg c52, if_pos c67, decide_eq_false g71]; rfl)
    | (rw [if_neg c19, if_neg c37, if_neg c43, if_neg c52, if_neg c67]; done)))
  refine nx_skip (nx_in _ (nx_then (nx_seq (nx_region (nv v_assign (nx_nil (nx_then (nx_ret ?_))))))))
  exact nx_ret1 rfl (.tmp rfl) (rt ((Gh.le.refl _)) (by unfold wrongOk; simp only [e1, e2, e3, e4, e5]; first
    | (rw [if_pos c19, decide_eq_true g23, Bool.true_and, decide_not]; done)
    | (rw [if_pos c19, decide_eq_false g23]; rfl)
    | (rw [if_neg c19, if_pos c37]; done)
    | (rw [if_neg c19, if_neg c37, if_pos c43]; done)
    | (simp only [e6]; rw [if_neg c19, if_neg c37, if_neg c43, if_pos c52, decide_eq_true g56]; rfl)
    | (rw [if_neg c19, if_neg c37, if_neg c43, if_pos c52, decide_eq_false g56]; rfl)
    | (simp only [e6, e7]; rw [if_neg c19, if_neg c37, if_neg c43, if_neg c52, if_pos c67, decide_eq_true g71]; rfl)
    | (rw [if_neg c19, if_neg c37, if_neg c43, if_neg c52, if_pos c67, decide_eq_false g71]; rfl)
    | (rw [if_neg c19, if_neg c37, if_neg c43, if_neg c52, if_neg c67]; done)))
end Go.Proofs.YtjckojnlapchoaaGreat
open Go Go.RowKit
namespace Go.Proofs.YtjckojnlapchoaaGreat
open Go.Proofs
def rng (n m : Int) : Bool := decide (1 ≤ n) && decide (n ≤ m)
def stockMay (s : Stock) : Bool := nameOk s.name && rng s.len 4000 && rng s.top 60 && rng s.acc 10 && rng s.brake 10
theorem stockMay_fit {s : Stock} (h : stockMay s = true) : s.Fit := by
  simp only [stockMay, rng, Bool.and_eq_true, decide_eq_true_eq] at h
  exact ⟨by omega, by omega, by omega⟩
theorem any_step {α : Type} {f : α → Bool} {l : List α} {k : Nat} {x : α} {rest : List α} (hI : (l.drop k).any f = l.any f) (hd : l.drop k = x :: rest) (hr : l.drop (k + 1) = rest) (h : f x = false) : (l.drop (k + 1)).any f = l.any f := by rw [← hI, hd, List.any_cons, h, hr]; rfl
theorem any_yes {α : Type} {f : α → Bool} {l : List α} {k : Nat} {x : α} {rest : List α} (hI : (l.drop k).any f = l.any f) (hd : l.drop k = x :: rest) (h : f x = true) : l.any f = true := by rw [← hI, hd, List.any_cons, h]; rfl
theorem any_end {α : Type} {f : α → Bool} {l : List α} {k : Nat} (hI : (l.drop k).any f = l.any f) (h : l.length ≤ k) : l.any f = false := by rw [← hI, List.drop_eq_nil_of_le h]; rfl
set_option maxRecDepth 20000 in
set_option maxHeartbeats 1000000 in
theorem smay_ok {G : Gh} {H : List (Nat × Obj)} {W : World} (hp : Hp G H W) (n m : Int) : Calls Tryz.prog 197 ⟨[.int .i64 n, .int .i64 m]⟩ W (RetS G H (.bool (rng n m))) := by
  refine enter Tryz.func197 rfl Tryz.ntmps197 (Nat.le_of_ble_eq_true rfl) hp (nx_seq (nx_region (nv v_assign (nx_nil (nx_then (nx_seq (nx_region (nv v_move (nv v_geq (nv v_move ?_))))))))))
  refine nx_guard_dec (t := 7) rfl (fun g7 => ?_) (fun g7 => ?_)
  refine nr v_move (nr v_move (nr v_leq (nv v_pick_t (nv v_assign (nx_nil (nx_then (nx_ret ?_)))))))
  exact nx_ret1 rfl (.tmp rfl) (rs (by unfold rng; (rw [decide_eq_true g7]; rfl)))
  refine nk (k := nk (k := nk (k := nv v_pick_f (nv v_assign (nx_nil (nx_then (nx_ret ?_)))))))
  exact nx_ret1 rfl (.tmp rfl) (rs (by unfold rng; (rw [decide_eq_false g7]; rfl)))
set_option maxRecDepth 20000 in
set_option maxHeartbeats 1000000 in
theorem stockMay_ok {G : Gh} {H : List (Nat × Obj)} {W : World} (hp : Hp G H W) (s : Stock) : Calls Tryz.prog 161 ⟨[.agg ⟨s.cells⟩]⟩ W (RetS G H (.bool (stockMay s))) := by
  refine enter Tryz.func161 rfl Tryz.ntmps161 (Nat.le_of_ble_eq_true rfl) hp (nx_seq (nx_region ?_))
  refine nx_op rfl (op_box rfl rfl (fun b1 => ?_))
  refine nv v_assign (nx_nil (nx_then (nx_seq (nx_region (nv v_fieldAddr (nv v_load1_o ?_))))))
  refine nx_op rfl (op_callS rfl rfl rfl (fun W hp => name_ok hp s.name) ?_)
  refine nv v_move ?_
  refine nx_guard (t := 6) rfl (fun g6 => ?_) (fun g6 => ?_)
  refine nr v_fieldAddr (nr v_load1_o ?_)
  refine nx_op_run rfl rfl rfl (op_callS rfl rfl rfl (fun W hp => smay_ok hp s.len 4000) ?_)
  refine nv v_pick_t (nv v_move ?_)
  refine nx_guard (t := 11) rfl (fun g11 => ?_) (fun g11 => ?_)
  refine nr v_fieldAddr (nr v_load1_o ?_)
  refine nx_op_run rfl rfl rfl (op_callS rfl rfl rfl (fun W hp => smay_ok hp s.top 60) ?_)
  refine nv v_pick_t (nv v_move ?_)
  refine nx_guard (t := 16) rfl (fun g16 => ?_) (fun g16 => ?_)
  refine nr v_fieldAddr (nr v_load1_o ?_)
  refine nx_op_run rfl rfl rfl (op_callS rfl rfl rfl (fun W hp => smay_ok hp s.acc 10) ?_)
  refine nv v_pick_t (nv v_move ?_)
  refine nx_guard (t := 21) rfl (fun g21 => ?_) (fun g21 => ?_)
  refine nr v_fieldAddr (nr v_load1_o ?_)
  refine nx_op_run rfl rfl rfl (op_callS rfl rfl rfl (fun W hp => smay_ok hp s.brake 10) ?_)
  refine nv v_pick_t (nv v_assign (nx_nil (nx_then (nx_ret ?_))))
  exact nx_ret1 rfl (.tmp rfl) (rs (by simp [stockMay, *]))
  refine nk (k := nk (k := nk (k := nv v_pick_f (nv v_assign (nx_nil (nx_then (nx_ret ?_)))))))
  exact nx_ret1 rfl (.tmp rfl) (rs (by simp [stockMay, *]))
  refine nk (k := nk (k := nk (k := nv v_pick_f (nv v_move (nk (k := nk (k := nk (k := nv v_pick_f (nv v_assign (nx_nil (nx_then ?_)))))))))))
  refine nx_ret ?_
  exact nx_ret1 rfl (.tmp rfl) (rs (by simp [stockMay, *]))
  refine nk (k := nk (k := nk (k := nv v_pick_f (nv v_move (nk (k := nk (k := nk (k := nv v_pick_f (nv v_move (nk (k := nk (k := ?_))))))))))))
  refine nk (k := nv v_pick_f (nv v_assign (nx_nil (nx_then (nx_ret ?_)))))
  exact nx_ret1 rfl (.tmp rfl) (rs (by simp [stockMay, *]))
  refine nk (k := nk (k := nk (k := nv v_pick_f (nv v_move (nk (k := nk (k := nk (k := nv v_pick_f (nv v_move (nk (k := nk (k := ?_))))))))))))
  refine nk (k := nv v_pick_f (nv v_move (nk (k := nk (k := nk (k := nv v_pick_f (nv v_assign (nx_nil (nx_then (nx_ret ?_))))))))))
  exact nx_ret1 rfl (.tmp rfl) (rs (by simp [stockMay, *]))
def stockWF : List Stock → List Stock → Int → Int
  | _, [], e => e
  | pre, s :: r, e => if !stockMay s then 1 else stockWF (pre ++ [s]) r (if pre.any (fun x => decide (x.name = s.name)) then 4 else e)
def stockW (l : List Stock) : Int := if 4 < l.length then 3 else stockWF [] l 0
set_option maxRecDepth 20000 in
set_option maxHeartbeats 1000000 in
theorem stockW_ok {G : Gh} {H : List (Nat × Obj)} {W : World} (hp : Hp G H W) {A : Option Addr} {n c : Nat} {l : List Stock} (hs : Sl tStock G A n c l) : Calls Tryz.prog 102 ⟨[.slice A n c]⟩ W (RetS G H (.int .i64 (stockW l))) := by
  have hl := hs.length
  have hcap := hs.cap
  refine enter Tryz.func102 rfl Tryz.ntmps102 (Nat.le_of_ble_eq_true rfl) hp (nx_seq (nx_region (nv v_assign (nx_nil (nx_then (nx_scope (nx_seq (nx_seq (nx_region (nv v_move (nv v_len ?_)))))))))))
  refine nv v_gtr (nx_nil (nx_then ?_))
  refine nx_cond_dec rfl (fun c10 => ?_) (fun c10 => ?_)
  have hres : stockW l = 3 := if_pos (by omega)
  refine nx_seq (nx_region (nv v_assign (nx_nil (nx_then (nx_ret (nx_then_ret (nx_ng_ret ?_)))))))
  exact nx_ret1 rfl (.tmp rfl) (rs (by rw [hres]))
  have hyes : stockW l = stockWF [] l 0 := if_neg (by omega)
  refine nx_skip (nx_then (nx_seq (nx_region (nv v_assign (nx_nil (nx_then (nx_seq (nx_label (nx_then (nx_seq (nx_seq ?_)))))))))))
  refine nx_region (nv v_move (nv v_len (nv v_move (nx_nil (nx_then (nx_block ?_))))))
  refine nx_loop_v (σ := Nat × Int) [0, 8, 9, 10, 11, 12] (fun s => [(13, .int .i64 (s.1 : Int)), (3, .int .i64 s.2)]) (fun _ => G) (fun _ => _) (fun s => s.1 ≤ n ∧ stockWF (l.take s.1) (l.drop s.1) s.2 = stockW l) (fun s => n - s.1) (0, 0) (.cons rfl (.cons rfl (.cons rfl (.cons rfl (.cons rfl (.cons rfl (.nil))))))) ⟨rfl, rfl, trivial⟩ ⟨Nat.zero_le _, hyes.symm⟩ rfl rfl ?_
  rintro ⟨k, e⟩ ⟨hk, hI⟩ K next
  dsimp only at hk hI ⊢
  refine nx_seq (nx_region (nv v_lss (nx_nil (nx_then (nx_seq ?_)))))
  refine nx_cond_dec rfl (fun c14 => ?_) (fun c14 => ?_)
  obtain ⟨x, rest, hd, hx⟩ := drop_of_lt (xs := l) (k := k) (by omega)
  obtain ⟨xb, xo, xe, xk, xr, xf0, xf1, xf2, xf3, xf4⟩ := next_Stock hs hd
  cases xe
  rw [hd] at hI
  simp only [stockWF] at hI
  refine nx_skip (nx_then (nx_seq (nx_block (nx_seq (nx_region (nv v_move (nv (v_indexAddr_nat rfl rfl rfl (by omega)) (nv v_load_s ?_))))))))
  refine nx_op rfl (op_alloc rfl (fun b5 => ?_))
  refine nv v_assign (st (k := nx_nil (nx_then (nx_seq (nx_seq (nx_region (nv v_load_o ?_)))))))
  refine nx_op rfl (op_callS rfl rfl rfl (fun W hp => stockMay_ok hp x) ?_)
  refine nv v_not (nx_nil (nx_then ?_))
  refine nx_cond rfl (fun c20 => ?_) (fun c20 => ?_)
  have hres : stockW l = 1 := by rw [← hI]; simp_all
  refine nx_seq (nx_region (nv v_assign (nx_nil (nx_then (nx_ret (nx_then_ret (nx_in_ret (nx_then_ret (nx_then_ret (nx_in_ret (nx_then_ret ?_)))))))))))
  refine nx_ng_ret ?_
  exact nx_ret1 rfl (.tmp rfl) (rs (by rw [hres]))
  rw [if_neg (by simpa using c20)] at hI
  have htl : (l.take k).length = k := by rw [List.length_take]; omega
  refine nx_skip (nx_then (nx_seq (nx_region (nv v_move (nv v_move (nv (v_slice_hi (h := k) rfl rfl rfl (by omega)) (nv v_len (nv v_move (nx_nil (nx_then (nx_block ?_)))))))))))
  refine nx_loop_v (σ := Nat) [0, 4, 5, 8, 9, 10, 11, 12, 13, 14, 15, 16, 17, 18, 19, 20, 21, 22, 23, 24] (fun k => [(25, .int .i64 (k : Int)), (3, .int .i64 e)]) (fun _ => G) (fun _ => _) (fun j => ((l.take k).drop j).any (fun y => decide (y.name = x.name)) = (l.take k).any (fun y => decide (y.name = x.name))) (fun j => k - j) 0 (.cons rfl (.cons rfl (.cons rfl (.cons rfl (.cons rfl (.cons rfl (.cons rfl (.cons rfl (.cons rfl (.cons rfl (.cons rfl (.cons rfl (.cons rfl (.cons rfl (.cons rfl (.cons rfl (.cons rfl (.cons rfl (.cons rfl (.cons rfl (.nil))))))))))))))))))))) ⟨rfl, rfl, trivial⟩ rfl rfl rfl ?_
  intro j hJ K2 next2
  refine nx_seq (nx_region (nv v_lss (nx_nil (nx_then (nx_seq ?_)))))
  refine nx_cond_dec rfl (fun c26 => ?_) (fun c26 => ?_)
  obtain ⟨y, rest2, hde, hy⟩ := drop_of_lt (xs := l.take k) (k := j) (by omega)
  obtain ⟨yb, yo, ye, yk, yr, yf0, yf1, yf2, yf3, yf4⟩ := next_Stock (hs.take hk) hde
  cases ye
  refine nx_skip (nx_then (nx_seq (nx_block (nx_seq (nx_region (nv (v_indexAddr_nat rfl rfl rfl (by omega)) (nv v_load_s ?_)))))))
  refine nx_op rfl (op_alloc rfl (fun b7 => ?_))
  refine st (k := nx_nil (nx_then (nx_seq (nx_region (nv v_fieldAddr (nv v_load1_o (nv v_fieldAddr (nv v_load1_o (nv v_eql_str (nx_nil (nx_then ?_)))))))))))
  refine nx_cond_dec rfl (fun c33 => ?_) (fun c33 => ?_)
  refine nx_seq (nx_region (nv v_assign (nx_nil (nx_then (nx_exit (nx_in_ne rfl (nx_then_exit (nx_then_exit (nx_in_ne rfl (nx_in_eq (nx_then ?_)))))))))))
  refine nx_region (nv v_add (nv v_move (nx_nil (nx_then ?_))))
  rw [if_pos (any_yes hJ hde (decide_eq_true c33))] at hI
  exact nn (next (k + 1, 4) ⟨(by dsimp only; omega), (by rw [xr, take_snoc hx]; exact hI)⟩ (by dsimp only; omega))
  refine nx_skip (nx_in _ (nx_then (nx_region (nv v_add (nv v_move (nx_nil (nx_then ?_)))))))
  exact nn (next2 (j + 1) (any_step hJ hde yr (decide_eq_false c33)) (by omega))
  refine nx_exit (nx_then_exit (nx_then_exit (nx_in_eq (nx_in _ (nx_then (nx_region (nv v_add (nv v_move (nx_nil (nx_then ?_))))))))))
  rw [if_neg (by rw [any_end hJ (by omega)]; simp)] at hI
  exact nn (next (k + 1, e) ⟨(by dsimp only; omega), (by rw [xr, take_snoc hx]; exact hI)⟩ (by dsimp only; omega))
  have hres : stockW l = e := by rw [← hI, List.drop_eq_nil_of_le (by omega)]; rfl
  refine nx_exit (nx_then_exit (nx_then_exit (nx_in_eq (nx_then (nx_seq (nx_region (nv v_move (nv v_assign (nx_nil (nx_then (nx_ret ?_)))))))))))
  refine nx_ng_ret ?_
  exact nx_ret1 rfl (.tmp rfl) (rs (by rw [hres]))
def stockShort (p : Plan) (s : Stock) : Bool := decide (p.top < s.top) || decide (s.brake < p.brake)
def stockCheck (p : Plan) (l : List Stock) : Int := if ¬ stockW l = 0 then stockW l else if l.any (stockShort p) then 9 else 0
set_option maxRecDepth 20000 in
set_option maxHeartbeats 1000000 in
theorem stock1_ok {G : Gh} {H : List (Nat × Obj)} {W : World} (hp : Hp G H W) (s : Stock) {q : Nat} {A1 : Option Addr} {n1 c1 : Nat} {A2 : Option Addr} {n2 c2 : Nat} {A3 : Option Addr} {n3 c3 : Nat} {A4 : Option Addr} {n4 c4 : Nat} {p : Plan} (hm : (q, row [.slice A1 n1 c1, .slice A2 n2 c2, .slice A3 n3 c3, .slice A4 n4 c4, .int .i64 p.top, .int .i64 p.brake, .int .i64 p.margin, .int .i64 p.throw_, .bool p.hard] 27) ∈ H) : Calls Tryz.prog 104 ⟨[.agg ⟨s.cells⟩, .pointer (some ⟨q, 0, none⟩)]⟩ W (RetS G H (.bool (stockShort p s))) := by
  refine enter Tryz.func104 rfl Tryz.ntmps104 (Nat.le_of_ble_eq_true rfl) hp (nx_seq (nx_region ?_))
  refine nx_op rfl (op_box rfl rfl (fun b2 => ?_))
  refine nv v_assign (nx_nil (nx_then (nx_seq (nx_region (nv v_fieldAddr (nv v_load1_o (nv v_fieldAddr (nv (v_load1 rfl rfl (Rd.own (List.mem_cons_of_mem _ hm) rfl)) (nv v_gtr (nv v_move ?_))))))))))
  refine nx_guard_dec (t := 9) rfl (fun g9 => ?_) (fun g9 => ?_)
  refine nk (k := nk (k := nk (k := nk (k := nk (k := nv v_pick_t (nv v_assign (nx_nil (nx_then (nx_ret ?_)))))))))
  exact nx_ret1 rfl (.tmp rfl) (rs (by unfold stockShort; (rw [decide_eq_true g9]; rfl)))
  refine nr v_fieldAddr (nr v_load1_o (nr v_fieldAddr (nr (v_load1 rfl rfl (Rd.own (List.mem_cons_of_mem _ hm) rfl)) (nr v_lss (nv v_pick_f (nv v_assign (nx_nil (nx_then (nx_ret ?_)))))))))
  exact nx_ret1 rfl (.tmp rfl) (rs (by unfold stockShort; (rw [decide_eq_false g9]; rfl)))
set_option maxRecDepth 20000 in
set_option maxHeartbeats 1000000 in
theorem stockCheck_ok {G : Gh} {H : List (Nat × Obj)} {W : World} (hp : Hp G H W) {A1 : Option Addr} {n1 c1 : Nat} {A2 : Option Addr} {n2 c2 : Nat} {A3 : Option Addr} {n3 c3 : Nat} {A4 : Option Addr} {n4 c4 : Nat} {p : Plan} (at_ : Plan.At G A1 n1 c1 A2 n2 c2 A3 n3 c3 A4 n4 c4 p) {A : Option Addr} {n c : Nat} {l : List Stock} (hs : Sl tStock G A n c l) : Calls Tryz.prog 48 ⟨[.agg ⟨[.slice A1 n1 c1, .slice A2 n2 c2, .slice A3 n3 c3, .slice A4 n4 c4, .int .i64 p.top, .int .i64 p.brake, .int .i64 p.margin, .int .i64 p.throw_, .bool p.hard]⟩, .slice A n c]⟩ W (RetD G H (fun _ v => v = .int .i64 (stockCheck p l))) := by
  refine enter Tryz.func48 rfl Tryz.ntmps48 (Nat.le_of_ble_eq_true rfl) hp (nx_seq (nx_region ?_))
  refine nx_op rfl (op_box rfl rfl (fun b2 => ?_))
  refine nv v_assign (nx_nil (nx_then (nx_seq (nx_seq (nx_region (nv v_move ?_))))))
  refine nx_op rfl (op_callS rfl rfl rfl (fun W hp => stockW_ok hp hs) ?_)
  refine nv v_assign (nx_nil (nx_then (nx_seq (nx_region (nv v_move (nv v_neq (nx_nil (nx_then ?_))))))))
  refine nx_cond_dec rfl (fun c9 => ?_) (fun c9 => ?_)
  have hres : stockCheck p l = stockW l := if_pos c9
  refine nx_seq (nx_region (nv v_move (nv v_assign (nx_nil (nx_then (nx_ret (nx_then_ret ?_)))))))
  exact nx_ret1 rfl (.tmp rfl) (rt ((Gh.le.refl _)) (by rw [hres]))
  have hyes : stockCheck p l = if l.any (stockShort p) then 9 else 0 := if_neg c9
  refine nx_skip (nx_then (nx_seq (nx_seq (nx_region (nv v_move (nv v_makeFunc ?_))))))
  refine nx_op rfl (op_callD rfl rfl rfl (fun W hp => containsFunc_Stock hp hs (stockShort p) (fst := []) (cap := [.pointer (some ⟨b2, 0, none⟩)]) (fun s _ => fun G' H' W' hl hs' hp' => RetS.toD (stock1_ok hp' s (hs'.sublist.subset List.mem_cons_self)))) (fun v13 G13 le13 ph13 => ?_))
  subst ph13
  refine nx_nil (nx_then ?_)
  refine nx_cond rfl (fun c13 => ?_) (fun c13 => ?_)
  have hres : stockCheck p l = 9 := by rw [hyes, if_pos c13]
  refine nx_seq (nx_region (nv v_assign (nx_nil (nx_then (nx_ret (nx_then_ret ?_))))))
  exact nx_ret1 rfl (.tmp rfl) (rt (le13) (by rw [hres]))
  have hres : stockCheck p l = 0 := by rw [hyes, if_neg (by simpa using c13)]
  refine nx_skip (nx_then (nx_seq (nx_region (nv v_assign (nx_nil (nx_then (nx_ret ?_)))))))
  exact nx_ret1 rfl (.tmp rfl) (rt (le13) (by rw [hres]))
end Go.Proofs.YtjckojnlapchoaaGreat
