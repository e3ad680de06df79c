/- Part 11 of a proof of a law over the program: Road1, Road2, Road3, Road4, Road5, Side. Conditions: none beyond what each statement says. -/
import Derived.Test.YtjckojnlapchoaaGreatQ10
import Derived.Test.YtjckojnlapchoaaGreatQ01
set_option linter.unusedVariables false
set_option linter.unusedSimpArgs false
open Go Go.RowKit
namespace Go.Proofs.YtjckojnlapchoaaGreat
open Go.Proofs
theorem Src.sub {α : Type} {T : Tell α} {G : Gh} {H H' : List (Nat × Obj)} {v : Value} {l : List α} (h : Src T G H v l) (hm : ∀ x, x ∈ H → x ∈ H') : Src T G H' v l := by
  obtain ⟨A, c, hv, hx⟩ := h.ex
  refine ⟨⟨A, c, hv, fun hl => ?_⟩⟩
  obtain ⟨b, o, xs, h1, h2, h3⟩ := hx hl
  refine ⟨b, o, xs, h1, h2, ?_⟩
  cases h3 with
  | own hm' hr => exact .own (hm _ hm') hr
  | still hr => exact .still hr
set_option maxRecDepth 20000 in
set_option maxHeartbeats 1000000 in
theorem cloneS_Step {G : Gh} {H : List (Nat × Obj)} {W : World} (hp : Hp G H W) {A : Option Addr} {n c : Nat} {l : List Step} (hs : Src tStep G H (.slice A n c) l) (hb : l.length * 24 ≤ 140737488355328) : Calls Tryz.prog 139 ⟨[.slice A n c]⟩ W (RetD G H (IsSl tStep l)) := by
  have hs0 := hs
  obtain ⟨A0, c0, hv, hA⟩ := hs0.ex
  cases hv
  refine enter Tryz.func139 rfl Tryz.ntmps139 (Nat.le_of_ble_eq_true rfl) hp (nx_seq (nx_region (nv v_assign (nx_nil (nx_then (nx_seq (nx_seq (nx_region (nv v_move (nv v_eql_nil (nx_nil ?_)))))))))))
  refine nx_then ?_
  refine nx_cond rfl (fun c4 => ?_) (fun c4 => ?_)
  have hl0 : l = [] := by
    rcases Decidable.em (l = []) with h | h
    · exact h
    · obtain ⟨b, o, xs, rfl, _⟩ := hA h; simp at c4
  subst hl0
  refine nx_seq (nx_region (nv v_assign (nx_nil (nx_then (nx_ret (nx_then_ret ?_))))))
  exact nx_ret1 rfl (.tmp rfl) (rt ((Gh.le.refl _)) (IsSl.nil _))
  refine nx_skip (nx_then (nx_seq (nx_region ?_)))
  refine nx_op rfl (op_buildSlice0 rfl (fun b5 => ?_))
  refine nv v_move ?_
  refine nx_op rfl (op_append (T := tStep) rfl rfl rfl (OwnS.row0 (b := b5)) (N := [(b5, row [] _)]) (by exact Pull.here) (hs.sub fun x hx => List.mem_cons_of_mem _ hx) (by simp; omega) (by simp [maxLen]; omega) (fun v7 N7 o7 => ?_))
  refine nv v_assign (nx_nil (nx_then (nx_ret ?_)))
  refine nx_still o7 (by repeat (first | exact Pull.here | apply Pull.cons | apply Pull.app)) (fun G8 A8 c8 le8 hv hs8 => ?_)
  subst hv
  exact nx_ret1 rfl (.tmp rfl) (rt (Gh.le.trans (Gh.le.refl _) le8) (IsSl.of hs8))
structure PT where
  s : List Step
  q : List Int
  w : List (List Way)
  A1 : Option Addr
  c1 : Nat
  N1 : List (Nat × Obj)
  A2 : Option Addr
  c2 : Nat
  N2 : List (Nat × Obj)
  A3 : Option Addr
  c3 : Nat
  N3 : List (Nat × Obj)
def PT.own (t : PT) (bp : Nat) (b : Int) (H : List (Nat × Obj)) : List (Nat × Obj) := (bp, row [.int .i64 b, .slice t.A1 t.s.length t.c1, .slice t.A2 t.q.length t.c2, .slice t.A3 t.w.length t.c3] 257) :: (t.N1 ++ (t.N2 ++ (t.N3 ++ H)))
structure PT.Ok (t : PT) (G : Gh) : Prop where
  o1 : OwnS tStep 216 G t.s (.slice t.A1 t.s.length t.c1) t.N1
  o2 : OwnS tInt 3 G t.q (.slice t.A2 t.q.length t.c2) t.N2
  o3 : OwnS (tSl tWay) 142 G t.w (.slice t.A3 t.w.length t.c3) t.N3
theorem PT.Ok.le {t : PT} {G G' : Gh} (h : t.Ok G) (e : G.le G') : t.Ok G' := ⟨h.o1.le e, h.o2.le e, h.o3.le e⟩
def pathMay (b : Int) (s : List Step) (e : Int) : Bool := decide ((s.length : Int) < 12) && decide (¬ e = b) && !(s.any fun t => decide (t.elem = e))
def needsOf : List Step → List Int → List Need
  | s :: ss, p :: ps => if ¬ p = 0 then ⟨s.elem, p⟩ :: needsOf ss ps else needsOf ss ps
  | _, _ => []
def mkRoad (from_ to fin : Int) (s : List Step) (q : List Int) : Road := ⟨from_, to, fin, s, needsOf s q, [], [], [], false⟩
set_option maxRecDepth 20000 in
set_option maxHeartbeats 1000000 in
theorem pmay1_ok {G : Gh} {H : List (Nat × Obj)} {W : World} (hp : Hp G H W) (s : Step) {q : Nat} {e : Int} (hm : (q, row [.int .i64 e] 3) ∈ H) : Calls Tryz.prog 200 ⟨[.agg ⟨s.cells⟩, .pointer (some ⟨q, 0, none⟩)]⟩ W (RetS G H (.bool (decide (s.elem = e)))) := by
  refine enter Tryz.func200 rfl Tryz.ntmps200 (Nat.le_of_ble_eq_true rfl) hp (nx_seq (nx_region ?_))
  refine nx_op rfl (op_box rfl rfl (fun b2 => ?_))
  refine nv v_assign (nx_nil (nx_then (nx_seq (nx_region (nv v_fieldAddr (nv v_load1_o (nv (v_load1 rfl rfl (Rd.own (List.mem_cons_of_mem _ hm) rfl)) (nv v_eql (nv v_assign (nx_nil (nx_then ?_)))))))))))
  refine nx_ret ?_
  exact nx_ret1 rfl (.tmp rfl) (rs (rfl))
set_option maxRecDepth 20000 in
set_option maxHeartbeats 1000000 in
theorem pmay_ok {G : Gh} {H : List (Nat × Obj)} {W : World} {t : PT} {bp : Nat} {b : Int} (hp : Hp G (t.own bp b H) W) (ht : t.Ok G) (hl : t.s.length ≤ 1000) (e : Int) : Calls Tryz.prog 178 ⟨[.pointer (some ⟨bp, 0, none⟩), .int .i64 e]⟩ W (RetD G (t.own bp b H) (fun _ v => v = .bool (pathMay b t.s e))) := by
  unfold PT.own at hp ⊢
  refine enter Tryz.func178 rfl Tryz.ntmps178 (Nat.le_of_ble_eq_true rfl) hp (nx_seq (nx_region ?_))
  refine nx_op rfl (op_box1 rfl rfl rfl (fun b3 => ?_))
  refine nv v_assign (nx_nil (nx_then (nx_seq (dr_begin 24 (.q 0 (.q 1 (.q 2 (.q 3 (.q 4 (.q 5 (.q 6 (.q 7 (.q 8 (.q 9 (.q 10 (.q 11 (.q 12 (.q 13 (.q 14 (.q 15 (.q 16 (.q 17 (.q 18 (.q 19 (.l 20 (.q 21 (.q 22 (.q 23 .done)))))))))))))))))))))))) rfl (by kernel_rfl) (dr_q rfl rfl v_move ic (dr_q rfl rfl v_nilCheck ic (dr_q rfl rfl v_fieldAddr ic (dr_q rfl rfl v_load1_o ic (dr_q rfl rfl v_len ic (dr_q rfl rfl v_lss ic (dr_q rfl rfl v_move ic ?_)))))))))))
  refine nx_guard_dec (t := 11) rfl (fun g11 => ?_) (fun g11 => ?_)
  refine dr_q_run rfl rfl rfl rfl v_load1_o ic (dr_q_run rfl rfl rfl rfl v_move ic (dr_q_run rfl rfl rfl rfl v_nilCheck ic (dr_q_run rfl rfl rfl rfl v_fieldAddr ic (dr_q_run rfl rfl rfl rfl v_load1_o ic (dr_q_run rfl rfl rfl rfl v_neq ic (dr_q rfl rfl v_pick_t ic (dr_q rfl rfl v_move ic ?_)))))))
  refine nx_guard_dec (t := 19) rfl (fun g19 => ?_) (fun g19 => ?_)
  refine dr_q_run rfl rfl rfl rfl v_move ic (dr_q_run rfl rfl rfl rfl v_nilCheck ic (dr_q_run rfl rfl rfl rfl v_fieldAddr ic (dr_q_run rfl rfl rfl rfl v_load1_o ic (dr_q_run rfl rfl rfl rfl v_makeFunc ic (dr_l_run rfl rfl rfl rfl ?_)))))
  refine op_callOD ht.o1 (by repeat (first | exact Pull.here | apply Pull.cons | apply Pull.app)) rfl rfl rfl (fun G1 W leo so hp => containsFunc_Step hp so (fun s => decide (s.elem = e)) (fst := []) (cap := [.pointer (some ⟨b3, 0, none⟩)]) (fun s _ => fun G' H' W' hl hs' hp' => RetS.toD (pmay1_ok hp' s (hs'.sublist.subset List.mem_cons_self)))) (fun v25 G25 le25 ph25 => ?_)
  subst ph25
  refine dr_k (Inc.pull ic (by repeat (first | exact Pull.here | apply Pull.cons | apply Pull.app)) le25) ?_
  refine dr_q_run rfl rfl rfl rfl v_not (Inc.pull ic (by repeat (first | exact Pull.here | apply Pull.cons | apply Pull.app)) le25) ?_
  refine dr_q rfl rfl v_pick_t (Inc.pull ic (by repeat (first | exact Pull.here | apply Pull.cons | apply Pull.app)) le25) ?_
  refine dr_q rfl rfl v_assign (Inc.pull ic (by repeat (first | exact Pull.here | apply Pull.cons | apply Pull.app)) le25) ?_
  refine dr_end rfl ?_
  refine nx_nil (nx_np ?_)
  refine nx_then (nx_ret (nf (b := bp) (k := ?_)))
  exact nx_ret1 rfl (.tmp rfl) (rt (le25) (by unfold pathMay; simp [*]))
  refine dk (k := dk (k := dk (k := dk (k := dk (k := dr_l_skip rfl rfl rfl rfl rfl rfl ic (dk (k := dr_q rfl rfl v_pick_f ic (dr_q rfl rfl v_assign ic (dr_end rfl ?_)))))))))
  refine nx_nil (nx_np ?_)
  refine nx_then (nx_ret ?_)
  exact nx_ret1 rfl (.tmp rfl) (rt ((Gh.le.refl _)) (by unfold pathMay; simp [*]))
  refine dk (k := dk (k := dk (k := dk (k := dk (k := dk (k := dr_q rfl rfl v_pick_f ic (dr_q rfl rfl v_move ic (dk (k := dk (k := dk (k := dk (k := ?_))))))))))))
  refine dk (k := dr_l_skip rfl rfl rfl rfl rfl rfl ic (dk (k := dr_q rfl rfl v_pick_f ic (dr_q rfl rfl v_assign ic (dr_end rfl ?_)))))
  refine nx_nil (nx_np ?_)
  refine nx_then (nx_ret ?_)
  exact nx_ret1 rfl (.tmp rfl) (rt ((Gh.le.refl _)) (by unfold pathMay; simp [*]))
end Go.Proofs.YtjckojnlapchoaaGreat
open Go Go.RowKit
namespace Go.Proofs.YtjckojnlapchoaaGreat
open Go.Proofs
theorem outs_length (p : Plan) (e i : Int) : (outs p e i).length ≤ 2 := by
  unfold outs
  split; · simp
  split; · simp
  split; · simp
  split
  · split <;> simp
  · simp
set_option maxRecDepth 20000 in
set_option maxHeartbeats 1000000 in
theorem push_ok {G : Gh} {H : List (Nat × Obj)} {W : World} {t : PT} {bp : Nat} {b : Int} (hp : Hp G (t.own bp b H) W) (ht : t.Ok G) (hl1 : t.s.length ≤ 1000) (hl2 : t.q.length ≤ 1000) (hl3 : t.w.length ≤ 1000) {g : Nat} {N : NetD} (h : NetAt G g N) (x : Port) :
    Calls Tryz.prog 179 ⟨[.pointer (some ⟨bp, 0, none⟩), .pointer (some ⟨g, 0, none⟩), .agg ⟨x.cells⟩]⟩ W (Ret G (fun G' H' v => v = .tuple #[] ∧ ∃ t' : PT, t'.s = t.s ++ [⟨x.elem, x.fin, -1⟩] ∧ t'.q = t.q ++ [0] ∧ t'.w = t.w ++ [outs N.p x.elem x.fin] ∧ H' = t'.own bp b H ∧ t'.Ok G')) := by
  unfold PT.own at hp
  refine enter Tryz.func179 rfl Tryz.ntmps179 (Nat.le_of_ble_eq_true rfl) hp (nx_seq (nx_region ?_))
  refine nx_op rfl (op_box rfl rfl (fun b5 => ?_))
  refine nx_nil (nx_then (nx_seq ?_))
  refine nx_pull (N := t.N1) (by repeat (first | exact Pull.here | apply Pull.cons | apply Pull.app)) ?_
  refine dr_begin_app 14 (.q 0 (.q 1 (.q 2 (.q 3 (.q 4 (.q 5 (.q 6 (.q 7 (.q 8 (.q 9 (.l 10 (.l 11 (.q 12 (.q 13 .done)))))))))))))) rfl (by kernel_rfl) (dr_q rfl rfl v_move (ic.app _) (dr_q rfl rfl v_move (ic.app _) (dr_q rfl rfl v_nilCheck (ic.app _) (dr_q rfl rfl v_fieldAddr (ic.app _) (dr_q rfl rfl v_load1_o (ic.app _) (dr_q rfl rfl v_fieldAddr (ic.app _) (dr_q rfl rfl v_load1_o (ic.app _) (dr_q rfl rfl v_fieldAddr (ic.app _) (dr_q rfl rfl v_load1_o (ic.app _) (dr_q rfl rfl (v_build rfl rfl rfl) (ic.app _) (dr_l rfl rfl ?_)))))))))))
  refine op_buildSlice rfl rfl rfl rfl rfl (fun b16 => ?_)
  refine dr_k ((ic.app _).cons _) (dr_l rfl rfl ?_)
  refine op_app (T := tStep) rfl rfl rfl ht.o1 (by repeat (first | exact Pull.here | apply Pull.cons | apply Pull.app)) (Src.row List.mem_cons_self (rows_Step [⟨x.elem, x.fin, -1⟩]) rfl) (by simp; omega) (by simp [maxLen]; omega) (fun A17 c17 N17 o17 hc17 => ?_)
  refine dr_k (Inc.suf (Gh.le.refl _) (by repeat (first | exact Suf.refl | apply Suf.keep | apply Suf.cons | apply Suf.keepN | apply Suf.app))) ?_
  refine dr_q rfl rfl v_nilCheck (Inc.suf (Gh.le.refl _) (by repeat (first | exact Suf.refl | apply Suf.keep | apply Suf.cons | apply Suf.keepN | apply Suf.app))) ?_
  refine dr_q rfl rfl v_fieldAddr (Inc.suf (Gh.le.refl _) (by repeat (first | exact Suf.refl | apply Suf.keep | apply Suf.cons | apply Suf.keepN | apply Suf.app))) ?_
  refine dr_end rfl (st (k := ?_))
  refine nx_nil (nx_np ?_)
  refine nx_then (nx_seq (nx_region (nv v_move (nv v_move (nv v_nilCheck (nv v_fieldAddr (nv v_load1_o ?_)))))))
  refine nx_op rfl (op_buildSlice rfl rfl rfl rfl rfl (fun b25 => ?_))
  refine nx_op rfl (op_app (T := tInt) rfl rfl rfl ht.o2 (by repeat (first | exact Pull.here | apply Pull.cons | apply Pull.app)) (Src.row List.mem_cons_self (rows_Int [0]) rfl) (by simp; omega) (by simp [maxLen]; omega) (fun A26 c26 N26 o26 hc26 => ?_))
  refine nv v_nilCheck (nv v_fieldAddr (st (k := nx_nil (nx_then ?_))))
  refine nx_pull (N := t.N3) (by repeat (first | exact Pull.here | apply Pull.cons | apply Pull.app)) ?_
  refine dr_begin_app 15 (.q 0 (.q 1 (.q 2 (.q 3 (.q 4 (.q 5 (.q 6 (.q 7 (.q 8 (.q 9 (.l 10 (.l 11 (.l 12 (.q 13 (.q 14 .done))))))))))))))) rfl (by kernel_rfl) (dr_q rfl rfl v_move (ic.app _) (dr_q rfl rfl v_move (ic.app _) (dr_q rfl rfl v_nilCheck (ic.app _) (dr_q rfl rfl v_fieldAddr (ic.app _) (dr_q rfl rfl v_load1_o (ic.app _) (dr_q rfl rfl v_move (ic.app _) (dr_q rfl rfl v_fieldAddr (ic.app _) (dr_q rfl rfl v_load1_o (ic.app _) (dr_q rfl rfl v_fieldAddr (ic.app _) (dr_q rfl rfl v_load1_o (ic.app _) (dr_l rfl rfl ?_)))))))))))
  refine op_callD rfl rfl rfl (fun W hp => outs_ok hp h x.elem x.fin) (fun v39 G39 le39 ph39 => ?_)
  obtain ⟨A39, c39, rfl, s39⟩ := ph39
  refine dr_k ((ic.app _).le le39) (dr_l rfl rfl ?_)
  refine op_buildSlice rfl rfl rfl rfl rfl (fun b40 => ?_)
  refine dr_k (((ic.app _).le le39).cons _) (dr_l rfl rfl ?_)
  refine op_app (T := tSl tWay) rfl rfl rfl (ht.o3.le le39) (by repeat (first | exact Pull.here | apply Pull.cons | apply Pull.app)) (Src.row List.mem_cons_self (Rows.one ⟨A39, _, c39, rfl, s39⟩) rfl) (by simp; omega) (by simp [maxLen]; omega) (fun A41 c41 N41 o41 hc41 => ?_)
  refine dr_k (Inc.suf le39 (by repeat (first | exact Suf.refl | apply Suf.keep | apply Suf.cons | apply Suf.keepN | apply Suf.app))) ?_
  refine dr_q rfl rfl v_nilCheck (Inc.suf le39 (by repeat (first | exact Suf.refl | apply Suf.keep | apply Suf.cons | apply Suf.keepN | apply Suf.app))) ?_
  refine dr_q rfl rfl v_fieldAddr (Inc.suf le39 (by repeat (first | exact Suf.refl | apply Suf.keep | apply Suf.cons | apply Suf.keepN | apply Suf.app))) ?_
  refine dr_end rfl (st (k := ?_))
  refine nx_nil (nx_np ?_)
  refine np (N := N41) (k := np (N := N26) (k := np (N := N17) (k := nf (b := bp) (k := ?_))))
  exact nx_end0 rfl (fun W hp => ⟨_, _, _, rfl, le39, ⟨rfl, ⟨t.s ++ [⟨x.elem, x.fin, -1⟩], t.q ++ [0], t.w ++ [outs N.p x.elem x.fin], A17, c17, N17, A26, c26, N26, A41, c41, N41⟩, rfl, rfl, rfl, rfl, ⟨o17.le le39, o26.le le39, o41⟩⟩, Suf.hp (by repeat (first | exact Suf.refl | apply Suf.keep | apply Suf.cons | apply Suf.keepN | apply Suf.app)) hp⟩)
set_option maxRecDepth 20000 in
set_option maxHeartbeats 1000000 in
theorem pop_ok {G : Gh} {H : List (Nat × Obj)} {W : World} {t : PT} {bp : Nat} {b : Int} (hp : Hp G (t.own bp b H) W) (ht : t.Ok G) {k : Nat} (hl1 : t.s.length = k + 1) (hl2 : t.q.length = k + 1) (hl3 : t.w.length = k + 1) (hk : k ≤ 1000) :
    Calls Tryz.prog 181 ⟨[.pointer (some ⟨bp, 0, none⟩)]⟩ W (Ret G (fun G' H' v => v = .tuple #[] ∧ ∃ t' : PT, t'.s = t.s.take k ∧ t'.q = t.q.take k ∧ t'.w = t.w.take k ∧ H' = t'.own bp b H ∧ t'.Ok G')) := by
  unfold PT.own at hp
  have k1 := ht.o1.val
  have k2 := ht.o2.val
  have k3 := ht.o3.val
  obtain ⟨_, _, e1, k1⟩ := k1
  obtain ⟨_, _, e2, k2⟩ := k2
  obtain ⟨_, _, e3, k3⟩ := k3
  cases e1; cases e2; cases e3
  have hk1 : (((t.s.length : Nat) : Int) - 1) = (k : Int) := by omega
  have z1 : (t.s.take k).length = k := by rw [List.length_take]; omega
  have z2 : (t.q.take k).length = k := by rw [List.length_take]; omega
  have z3 : (t.w.take k).length = k := by rw [List.length_take]; omega
  refine enter Tryz.func181 rfl Tryz.ntmps181 (Nat.le_of_ble_eq_true rfl) hp (nx_seq (nx_region (nv v_move (nv v_nilCheck (nv v_fieldAddr (nv v_load1_o (nv v_len (nv v_sub (nv v_assign (nx_nil (nx_then ?_)))))))))))
  refine dz_begin [23, 26] 29 (.p 0 (.p 1 (.p 2 (.p 3 (.p 4 (.p 5 (.q 6 (.p 7 (.p 8 (.p 9 (.p 10 (.p 11 (.q 12 (.p 13 (.p 14 (.p 15 (.p 16 (.p 17 (.q 18 (.p 19 (.p 20 (.p 21 (.p 22 (.l 23 (.p 24 (.p 25 (.l 26 (.p 27 (.p 28 .done))))))))))))))))))))))))))))) rfl (by kernel_rfl) ?_
  refine dz_p rfl rfl (fun _ _ => v_move) ?_
  refine dz_p rfl rfl (fun _ _ => v_move) ?_
  refine dz_p rfl rfl (fun _ _ => v_move) ?_
  refine dz_p rfl rfl (fun _ _ => v_move) ?_
  refine dz_p rfl rfl (fun _ _ => v_nilCheck) ?_
  refine dz_p rfl rfl (fun _ _ => v_fieldAddr) ?_
  refine dz_q rfl rfl v_load1_o ?_
  refine dz_p rfl rfl (fun _ _ => v_move) ?_
  refine dz_p rfl rfl (fun _ _ => v_slice_hi (h := k) rfl rfl (by show some (Value.int .i64 ((t.s.length : Int) - 1)) = _; rw [hk1]) (by omega)) ?_
  refine dz_p rfl rfl (fun _ _ => v_move) ?_
  refine dz_p rfl rfl (fun _ _ => v_nilCheck) ?_
  refine dz_p rfl rfl (fun _ _ => v_fieldAddr) ?_
  refine dz_q rfl rfl v_load1_o ?_
  refine dz_p rfl rfl (fun _ _ => v_move) ?_
  refine dz_p rfl rfl (fun _ _ => v_slice_hi (h := k) rfl rfl (by show some (Value.int .i64 ((t.s.length : Int) - 1)) = _; rw [hk1]) (by omega)) ?_
  refine dz_p rfl rfl (fun _ _ => v_move) ?_
  refine dz_p rfl rfl (fun _ _ => v_nilCheck) ?_
  refine dz_p rfl rfl (fun _ _ => v_fieldAddr) ?_
  refine dz_q rfl rfl v_load1_o ?_
  refine dz_p rfl rfl (fun _ _ => v_move) ?_
  refine dz_p rfl rfl (fun _ _ => v_slice_hi (h := k) rfl rfl (by show some (Value.int .i64 ((t.s.length : Int) - 1)) = _; rw [hk1]) (by omega)) ?_
  refine dz_p rfl rfl (fun _ _ => v_nilCheck) ?_
  refine dz_p rfl rfl (fun _ _ => v_fieldAddr) ?_
  refine dz_l rfl rfl ?_
  refine op_sto rfl rfl rfl rfl rfl (by repeat (first | exact UpdS.here rfl | apply UpdS.cons | apply UpdS.app)) ?_
  refine dz_x rfl ?_
  refine dz_p rfl rfl (fun _ _ => v_nilCheck) ?_
  refine dz_p rfl rfl (fun _ _ => v_fieldAddr) ?_
  refine dz_l rfl rfl ?_
  refine op_sto rfl rfl rfl rfl rfl (by repeat (first | exact UpdS.here rfl | apply UpdS.cons | apply UpdS.app)) ?_
  refine dz_x rfl ?_
  refine dz_p rfl rfl (fun _ _ => v_nilCheck) ?_
  refine dz_p rfl rfl (fun _ _ => v_fieldAddr) ?_
  refine dz_end rfl (st (k := ?_))
  refine nx_nil (nx_np ?_)
  exact nx_end0 rfl (fun W hp => ⟨_, G, (PT.mk (t.s.take k) (t.q.take k) (t.w.take k) t.A1 t.c1 t.N1 t.A2 t.c2 t.N2 t.A3 t.c3 t.N3).own bp b H, rfl, (Gh.le.refl _), ⟨rfl, _, rfl, rfl, rfl, rfl, ⟨by rw [z1]; exact ht.o1.take (by omega), by rw [z2]; exact ht.o2.take (by omega), by rw [z3]; exact ht.o3.take (by omega)⟩⟩, (by unfold PT.own; simp only [z1, z2, z3]; exact Suf.hp (by repeat (first | exact Suf.refl | apply Suf.keep | apply Suf.cons | apply Suf.keepN | apply Suf.app)) hp)⟩)
end Go.Proofs.YtjckojnlapchoaaGreat
open Go Go.RowKit
namespace Go.Proofs.YtjckojnlapchoaaGreat
open Go.Proofs
def IsRoad (r : Road) (G : Gh) (v : Value) : Prop := ∃ A1 n1 c1 A2 n2 c2 A3 n3 c3 A4 n4 c4 A5 n5 c5, v = .agg ⟨[.int .i64 r.from_, .int .i64 r.to, .int .i64 r.fin, .slice A1 n1 c1, .slice A2 n2 c2, .slice A3 n3 c3, .slice A4 n4 c4, .slice A5 n5 c5, .bool r.bare]⟩ ∧ Road.At G A1 n1 c1 A2 n2 c2 A3 n3 c3 A4 n4 c4 A5 n5 c5 r
theorem needsOf_cons {s : Step} {ss : List Step} {p : Int} {ps : List Int} : needsOf (s :: ss) (p :: ps) = if ¬ p = 0 then ⟨s.elem, p⟩ :: needsOf ss ps else needsOf ss ps := rfl
theorem drop_succ {α : Type} {l : List α} {k : Nat} {x : α} (h : l[k]? = some x) : l.drop k = x :: l.drop (k + 1) := by
  obtain ⟨h1, h2⟩ := List.getElem?_eq_some_iff.1 h
  rw [List.drop_eq_getElem_cons h1, h2]
set_option maxRecDepth 20000 in
set_option maxHeartbeats 1000000 in
theorem proad_ok {G : Gh} {H : List (Nat × Obj)} {W : World} {t : PT} {bp : Nat} {b : Int} (hp : Hp G (t.own bp b H) W) (ht : t.Ok G) (hl1 : t.s.length ≤ 1000) (hl2 : t.q.length = t.s.length) (from_ to fin : Int) :
    Calls Tryz.prog 180 ⟨[.pointer (some ⟨bp, 0, none⟩), .int .i64 from_, .int .i64 to, .int .i64 fin]⟩ W (RetD G (t.own bp b H) (IsRoad (mkRoad from_ to fin t.s t.q))) := by
  obtain ⟨s, q, w, A1, c1, N1, A2, c2, N2, A3, c3, N3⟩ := t
  obtain ⟨o1, o2, o3⟩ := ht
  unfold PT.own at hp ⊢
  dsimp only at o1 o2 o3 hl1 hl2 hp ⊢
  refine enter Tryz.func180 rfl Tryz.ntmps180 (Nat.le_of_ble_eq_true rfl) hp (nx_seq (nx_region ?_))
  refine nx_op rfl (op_alloc rfl (fun b8 => ?_))
  refine nx_nil (nx_then (nx_seq (nx_region (nv v_move (nv v_move (nv v_move (nv v_move (nv v_nilCheck (nv v_fieldAddr (nv v_load1_o ?_))))))))))
  refine nx_op rfl (op_callD rfl rfl rfl (fun W hp => cloneS_Step hp (OwnS.src o1 (Pull.mem (by repeat (first | exact Pull.here | apply Pull.cons | apply Pull.app)))) (by omega)) (fun v19 G19 le19 ph19 => ?_))
  obtain ⟨A19, c19, rfl, s19⟩ := ph19
  refine nv (v_build rfl rfl rfl) ?_
  refine nx_op rfl (op_alloc rfl (fun b9 => ?_))
  refine st (k := nx_nil (nx_then (nx_seq (nx_seq (nx_region (nv v_move (nv v_nilCheck (nv v_fieldAddr (nv v_load1_o (nv v_len (nv v_move ?_)))))))))))
  refine nx_nil (nx_then (nx_block (nf (b := b9) (k := ?_))))
  refine nx_loop_v (σ := Nat × List Need × Option Addr × Nat × List (Nat × Obj)) [0, 1, 2, 3, 8, 9, 12, 13, 14, 15, 16, 17, 18, 19, 20, 21, 22, 23, 24, 25] (fun s => [(26, .int .i64 (s.1 : Int))]) (fun _ => G19) (fun z => (b9, row [.int .i64 from_, .int .i64 to, .int .i64 fin, .slice A19 s.length c19, .slice z.2.2.1 z.2.1.length z.2.2.2.1, .slice none 0 0, .slice none 0 0, .slice none 0 0, .bool false] 164) :: (z.2.2.2.2 ++ _)) (fun z => z.1 ≤ s.length ∧ z.2.1.length ≤ z.1 ∧ OwnS tNeed 219 G19 z.2.1 (.slice z.2.2.1 z.2.1.length z.2.2.2.1) z.2.2.2.2 ∧ z.2.1 ++ needsOf (s.drop z.1) (q.drop z.1) = needsOf s q) (fun z => s.length - z.1) (0, [], none, 0, []) (.cons rfl (.cons rfl (.cons rfl (.cons rfl (.cons rfl (.cons rfl (.cons rfl (.cons rfl (.cons rfl (.cons rfl (.cons rfl (.cons rfl (.cons rfl (.cons rfl (.cons rfl (.cons rfl (.cons rfl (.cons rfl (.cons rfl (.cons rfl (.nil))))))))))))))))))))) ⟨rfl, trivial⟩ ⟨Nat.zero_le _, Nat.zero_le _, .nil rfl, rfl⟩ rfl rfl ?_
  rintro ⟨k, ns, An, cn, Nn⟩ ⟨hk, hkn, on, hI⟩ K next
  dsimp only at hk hkn on hI ⊢
  refine nx_seq (nx_region (nv v_lss (nx_nil (nx_then (nx_seq ?_)))))
  refine nx_cond_dec rfl (fun c27 => ?_) (fun c27 => ?_)
  obtain ⟨x, hx⟩ : ∃ x, s[k]? = some x := ⟨_, List.getElem?_eq_getElem (by omega)⟩
  obtain ⟨y, hy⟩ : ∃ y, q[k]? = some y := ⟨_, List.getElem?_eq_getElem (by omega)⟩
  rw [drop_succ hx, drop_succ hy, needsOf_cons] at hI
  obtain ⟨tb, tc, tcs, tr, tv, rfl, tR, tl, tf, tcs'⟩ := o1.get hx
  cases tv
  obtain rfl : tcs = x.cells := tR
  obtain ⟨ub, uc, ucs, ur, uv, rfl, uR, ul, uf, ucs'⟩ := o2.get hy
  cases uv
  obtain rfl : ucs = [.int .i64 y] := uR
  have hu0 : ur[0 + k * 1]? = some (.int .i64 y) := by rw [Nat.zero_add]; exact ucs' 0 _ rfl
  refine nx_skip (nx_then (nx_seq (nx_block (nx_seq (nx_region (nv v_move (nv (v_indexAddr_nat (k := k) rfl rfl rfl (by omega)) ?_)))))))
  refine nv (v_load_o rfl rfl (.cons (.app (.cons (.cons (OwnAt.of (r := x.cells) tcs' (by rw [Nat.zero_add]; rfl))))))) ?_
  refine nx_op rfl (op_alloc rfl (fun b11 => ?_))
  refine nv v_assign (st (k := nx_nil (nx_then (nx_seq (nx_region (nv v_move (nv v_nilCheck (nv v_fieldAddr (nv v_load1_o (nv v_move (nv (v_indexAddr_nat (k := k) rfl rfl rfl (by omega)) ?_)))))))))))
  refine nv (v_load1_o rfl rfl (by repeat (first | exact OwnAt.one hu0 | apply OwnAt.cons | apply OwnAt.app))) ?_
  refine nv v_neq (nx_nil (nx_then ?_))
  refine nx_cond_dec rfl (fun c38 => ?_) (fun c38 => ?_)
  rw [if_pos c38] at hI
  refine np (N := Nn) (k := dr_begin_app 13 (.q 0 (.q 1 (.q 2 (.q 3 (.q 4 (.q 5 (.q 6 (.q 7 (.q 8 (.q 9 (.q 10 (.q 11 (.l 12 .done))))))))))))) rfl (by kernel_rfl) (dr_q rfl rfl v_fieldAddr (ic.app _) (dr_q rfl rfl v_load1_o (ic.app _) (dr_q rfl rfl v_fieldAddr (ic.app _) (dr_q rfl rfl v_load1_o (ic.app _) (dr_q rfl rfl v_move (ic.app _) (dr_q rfl rfl v_nilCheck (ic.app _) (dr_q rfl rfl v_fieldAddr (ic.app _) (dr_q rfl rfl v_load1_o (ic.app _) (dr_q rfl rfl v_move (ic.app _) ?_))))))))))
  refine dr_q rfl rfl (v_indexAddr_nat (k := k) rfl rfl rfl (by omega)) (ic.app _) ?_
  refine dr_q rfl rfl (v_load1_o rfl rfl (by repeat (first | exact OwnAt.one hu0 | apply OwnAt.cons | apply OwnAt.app))) (ic.app _) ?_
  refine dr_q rfl rfl (v_build rfl rfl rfl) (ic.app _) (dr_l rfl rfl ?_)
  refine op_buildSlice rfl rfl rfl rfl rfl (fun b51 => ?_)
  refine dr_k ((ic.app _).cons _) (dr_end rfl ?_)
  refine nx_op rfl (op_app (T := tNeed) rfl rfl rfl on (by repeat (first | exact Pull.here | apply Pull.cons | apply Pull.app)) (Src.row List.mem_cons_self (rows_Need [⟨x.elem, y⟩]) rfl) (by simp; omega) (by simp [maxLen]; omega) (fun A52 c52 N52 o52 hc52 => ?_))
  refine nv v_fieldAddr (st (k := ?_))
  refine nx_nil (nx_np ?_)
  refine nx_in _ (nx_then (nx_region (nv v_add (nv v_move (nx_nil (nx_then (nf (b := b9) (k := ?_))))))))
  exact nn (next (k + 1, ns ++ [⟨x.elem, y⟩], A52, c52, N52) ⟨(by dsimp only; omega), (by simp; omega), o52, (by rw [← hI]; simp)⟩ (by dsimp only; omega))
  rw [if_neg c38] at hI
  refine nx_skip (nx_in _ (nx_then (nx_region (nv v_add (nv v_move (nx_nil (nx_then (nf (b := b9) (k := ?_)))))))))
  exact nn (next (k + 1, ns, An, cn, Nn) ⟨(by dsimp only; omega), (by dsimp only; omega), on, hI⟩ (by dsimp only; omega))
  have hE : ns = needsOf s q := by rw [← hI, List.drop_eq_nil_of_le (by omega)]; simp [needsOf]
  refine nx_exit (nx_then_exit (nx_then_exit (nx_in_eq (nx_then (nx_seq (nx_region (nv v_load_o (st (k := nx_nil (nx_then (nx_ret ?_)))))))))))
  refine nx_still on (by repeat (first | exact Pull.here | apply Pull.cons | apply Pull.app)) (fun G9 A9 d9 le9 hv9 hs9 => ?_)
  cases hv9
  exact nx_ret1 rfl ro (rt (Gh.le.trans le19 le9) ⟨_, _, _, _, _, _, _, _, _, _, _, _, _, _, _, rfl, ⟨s19.le le9, (by rw [show (mkRoad from_ to fin s q).needs = ns from hE.symm]; exact hs9), Sl.nil _ _, Sl.nil _ _, Sl.nil _ _⟩⟩)
end Go.Proofs.YtjckojnlapchoaaGreat
open Go Go.RowKit
namespace Go.Proofs.YtjckojnlapchoaaGreat
open Go.Proofs
def Tf : Nat → Nat
  | 0 => 1
  | r + 1 => 4 + 2 * Tf r
theorem Tf_pos : ∀ r, 1 ≤ Tf r
  | 0 => Nat.le_refl _
  | r + 1 => by simp only [Tf]; omega
def fw (i : Nat) (l : List Way) : Nat := 1 + l.length * (1 + Tf (11 - i))
def wtW : Nat → List (List Way) → Nat
  | _, [] => 0
  | i, l :: r => fw i l + wtW (i + 1) r
theorem wtW_app : ∀ (a b : List (List Way)) (i : Nat), wtW i (a ++ b) = wtW i a + wtW (i + a.length) b
  | [], b, i => by simp [wtW]
  | x :: a, b, i => by
    rw [List.cons_append, wtW, wtW, wtW_app a b (i + 1), List.length_cons, show i + (a.length + 1) = i + 1 + a.length by omega]
    omega
theorem wtW_snoc (w : List (List Way)) (l : List Way) : wtW 0 (w ++ [l]) = wtW 0 w + fw w.length l := by
  rw [wtW_app, Nat.zero_add]; rfl
theorem last_split {α : Type} {w : List α} {k : Nat} {l : α} (h : w.length = k + 1) (hl : w[k]? = some l) : w = w.take k ++ [l] := by
  have := take_snoc hl
  rw [List.take_of_length_le (by omega)] at this
  exact this
theorem set_last {α : Type} {w : List α} {k : Nat} (h : w.length = k + 1) (r : α) : w.set k r = w.take k ++ [r] := by
  have hk : k < w.length := by omega
  obtain ⟨l, hl⟩ : ∃ l, w[k]? = some l := ⟨_, List.getElem?_eq_getElem hk⟩
  have h1 := last_split h hl
  have h2 : (w.take k).length = k := by rw [List.length_take]; omega
  calc w.set k r = (w.take k ++ [l]).set k r := by rw [← h1]
    _ = w.take k ++ [r] := by rw [List.set_append_right _ _ (by omega), h2, Nat.sub_self]; rfl
theorem wtW_push {w : List (List Way)} {l : List Way} (hw : w.length ≤ 11) (hl : l.length ≤ 2) : wtW 0 (w ++ [l]) + 1 ≤ wtW 0 w + Tf (12 - w.length) := by
  rw [wtW_snoc, show 12 - w.length = (11 - w.length) + 1 by omega]
  simp only [fw, Tf]
  have : l.length * (1 + Tf (11 - w.length)) ≤ 2 * (1 + Tf (11 - w.length)) := Nat.mul_le_mul_right _ hl
  omega
theorem wtW_pop {w : List (List Way)} {k : Nat} (h : w.length = k + 1) (hl : w[k]? = some []) : wtW 0 w = wtW 0 (w.take k) + 1 := by
  have h1 := last_split h hl
  have h2 : wtW 0 w = wtW 0 (w.take k ++ [[]]) := by rw [← h1]
  rw [h2, wtW_snoc]; simp [fw]
theorem wtW_set {w : List (List Way)} {k : Nat} {y : Way} {r : List Way} (h : w.length = k + 1) (hl : w[k]? = some (y :: r)) : wtW 0 w = wtW 0 (w.set k r) + 1 + Tf (11 - k) := by
  have h1 := last_split h hl
  have h2 : wtW 0 w = wtW 0 (w.take k ++ [y :: r]) := by rw [← h1]
  have h3 : (w.take k).length = k := by rw [List.length_take]; omega
  rw [h2, set_last h, wtW_snoc, wtW_snoc, h3]
  simp only [fw, List.length_cons]
  rw [Nat.add_mul, Nat.one_mul]; omega
def dfs (N : NetD) (b sig : Int) : Nat → List Step → List Int → List (List Way) → List Road → Option Port → List Road
  | 0, _, _, _, out, _ => out
  | f + 1, s, q, w, out, some x =>
    if pathMay b s x.elem then
      dfs N b sig f (s ++ [⟨x.elem, x.fin, -1⟩]) (q ++ [0]) (w ++ [outs N.p x.elem x.fin]) (if N.p.kind x.elem = 4 then out ++ [mkRoad sig (-1) 2 (s ++ [⟨x.elem, x.fin, -1⟩]) (q ++ [0])] else out) none
    else dfs N b sig f s q w out none
  | f + 1, s, q, w, out, none =>
    if s.length = 0 then out else
    match (w[s.length - 1]?).getD [] with
    | [] => dfs N b sig f (s.take (s.length - 1)) (q.take (s.length - 1)) (w.take (s.length - 1)) out none
    | y :: r =>
      let c := (s[s.length - 1]?).getD ⟨0, 0, 0⟩
      let s' := s.set (s.length - 1) ⟨c.elem, c.inn, y.out⟩
      let q' := q.set (s.length - 1) y.pos
      let w' := w.set (s.length - 1) r
      if 0 ≤ N.readsAt ⟨c.elem, y.out⟩ then dfs N b sig f s' q' w' (out ++ [mkRoad sig (N.readsAt ⟨c.elem, y.out⟩) 1 s' q']) none
      else match getK N.next ⟨c.elem, y.out⟩ with
        | none => dfs N b sig f s' q' w' (out ++ [mkRoad sig (-1) 3 s' q']) none
        | some z => dfs N b sig f s' q' w' out (some z)
def roadsOf (N : NetD) (sig : Int) : List Road := match N.p.signalAt sig with
  | none => []
  | some a => match getK N.next a with
    | none => []
    | some x => dfs N a.elem sig 20480 [] [] [] [] (some x)
def wo (o : Option Port) (r : Nat) : Nat := match o with
  | some _ => Tf r
  | none => 0
structure OfS where
  f : Nat
  t : PT
  out : List Road
  A : Option Addr
  c : Nat
  No : List (Nat × Obj)
  G : Gh
structure OfI (N : NetD) (b sig : Int) (R : List Road) (G0 : Gh) (z : OfS) (o : Option Port) : Prop where
  le : G0.le z.G
  ok : z.t.Ok z.G
  own : OwnS tRoad 164 z.G z.out (.slice z.A z.out.length z.c) z.No
  spec : dfs N b sig z.f z.t.s z.t.q z.t.w z.out o = R
  lq : z.t.q.length = z.t.s.length
  lw : z.t.w.length = z.t.s.length
  l12 : z.t.s.length ≤ 12
  wt : wtW 0 z.t.w + wo o (12 - z.t.s.length) + 1 ≤ z.f
  cnt : z.out.length + z.f ≤ 20480
end Go.Proofs.YtjckojnlapchoaaGreat
open Go Go.RowKit
namespace Go.Proofs.YtjckojnlapchoaaGreat
open Go.Proofs
set_option maxRecDepth 20000 in
set_option maxHeartbeats 1000000 in
theorem roadOf_ok {G : Gh} {H : List (Nat × Obj)} {W : World} (hp : Hp G H W) {g : Nat} {N : NetD} (h : NetAt G g N) (hN : N.Ok) (sig : Int) : Calls Tryz.prog 138 ⟨[.pointer (some ⟨g, 0, none⟩), .int .i64 sig]⟩ W (Ret G (fun G' H' v => (∃ Nn, H' = Nn ++ H ∧ OwnS tRoad 164 G' (roadsOf N sig) v Nn) ∧ (roadsOf N sig).length ≤ 20480)) := by
  refine enter Tryz.func138 rfl Tryz.ntmps138 (Nat.le_of_ble_eq_true rfl) hp (nx_seq (nx_region (nv v_assign (nx_nil (nx_then (nx_scope (nx_seq (nx_region (nv v_move (nv v_move ?_))))))))))
  refine nx_op rfl (op_callS rfl rfl rfl (fun W hp => at_ok hp h sig) ?_)
  refine nv v_move (nv (v_extract rfl rfl rfl) (nv (v_extract rfl rfl rfl) ?_))
  refine nx_op rfl (op_alloc rfl (fun b5 => ?_))
  refine st (k := nv v_assign (nx_nil (nx_then (nx_seq (nx_seq (nx_region (nv v_move (nv v_not (nx_nil (nx_then ?_))))))))))
  refine nx_cond rfl (fun c23 => ?_) (fun c23 => ?_)
  have hE : roadsOf N sig = [] := by unfold roadsOf; cases hs : N.p.signalAt sig with | none => rfl | some a => rw [hs] at c23; simp at c23
  refine nx_seq (nx_region (nv v_assign (nx_nil (nx_then (nx_ret (nx_then_ret (nx_ng_ret ?_)))))))
  first
  | exact nx_ret1 rfl (.tmp rfl) (fun W hp => ⟨_, G, [] ++ H, rfl, Gh.le.refl _, ⟨⟨[], rfl, .nil hE⟩, (by rw [hE]; exact Nat.zero_le _)⟩, Suf.hp (by repeat (first | exact Suf.refl | apply Suf.keep | apply Suf.cons | apply Suf.keepN | apply Suf.app)) hp⟩)
  | exact nx_ret1 rfl (.tmp rfl) (fun W hp => ⟨_, _, No3 ++ H, rfl, (Gh.le.refl _), ⟨⟨No3, rfl, (by rw [hE]; exact oo3)⟩, (by rw [hE]; omega)⟩, Suf.hp (by repeat (first | exact Suf.refl | apply Suf.keep | apply Suf.cons | apply Suf.keepN | apply Suf.app)) hp⟩)
  obtain ⟨a, ha⟩ : ∃ a, N.p.signalAt sig = some a := by cases hs : N.p.signalAt sig with | none => rw [hs] at c23; simp at c23 | some a => exact ⟨a, rfl⟩
  rw [ha]
  simp only [Option.getD_some]
  refine nx_skip (nx_then (nx_seq (nx_region (nv v_move (nv v_load_o ?_)))))
  refine nx_op rfl (op_callS rfl rfl rfl (fun W hp => next_ok hp h a) ?_)
  refine nv v_move (nv (v_extract rfl rfl rfl) (nv (v_extract rfl rfl rfl) ?_))
  refine nx_op rfl (op_alloc rfl (fun b7 => ?_))
  refine st (k := nv v_assign (nx_nil (nx_then (nx_seq (nx_seq (nx_region (nv v_move (nv v_not (nx_nil (nx_then ?_))))))))))
  refine nx_cond rfl (fun c31 => ?_) (fun c31 => ?_)
  have hE : roadsOf N sig = [] := by unfold roadsOf; rw [ha]; cases hs : getK N.next a with | none => simp [hs] | some a => rw [hs] at c31; simp at c31
  refine nx_seq (nx_region (nv v_assign (nx_nil (nx_then (nx_ret (nx_then_ret (nx_ng_ret ?_)))))))
  first
  | exact nx_ret1 rfl (.tmp rfl) (fun W hp => ⟨_, G, [] ++ H, rfl, Gh.le.refl _, ⟨⟨[], rfl, .nil hE⟩, (by rw [hE]; exact Nat.zero_le _)⟩, Suf.hp (by repeat (first | exact Suf.refl | apply Suf.keep | apply Suf.cons | apply Suf.keepN | apply Suf.app)) hp⟩)
  | exact nx_ret1 rfl (.tmp rfl) (fun W hp => ⟨_, _, No3 ++ H, rfl, (Gh.le.refl _), ⟨⟨No3, rfl, (by rw [hE]; exact oo3)⟩, (by rw [hE]; omega)⟩, Suf.hp (by repeat (first | exact Suf.refl | apply Suf.keep | apply Suf.cons | apply Suf.keepN | apply Suf.app)) hp⟩)
  obtain ⟨x0, hx0⟩ : ∃ x, getK N.next a = some x := by cases hs : getK N.next a with | none => rw [hs] at c31; simp at c31 | some a => exact ⟨a, rfl⟩
  rw [hx0]
  simp only [Option.getD_some]
  have hR : roadsOf N sig = dfs N a.elem sig 20480 [] [] [] [] (some x0) := by unfold roadsOf; rw [ha]; simp only; rw [hx0]
  refine nx_skip (nx_then (nx_seq (nx_region (nv v_assign (nx_nil (nx_then (nx_seq (nx_region (nv v_fieldAddr (nv v_load1_o (nv (v_build rfl rfl rfl) ?_)))))))))))
  refine nx_op rfl (op_box rfl rfl (fun b35 => ?_))
  refine nv v_assign (nx_nil (nx_then (nx_seq (nx_label (nx_then (nx_seq (nx_block ?_)))))))
  refine nx_loop_v (σ := OfS × Port) [0, 1, 4, 5, 6, 7, 9, 16, 17, 18, 19, 20, 21, 22, 23, 24, 25, 26, 27, 28, 29, 30, 31, 32, 33, 34, 35] (fun s => [(8, .slice s.1.A s.1.out.length s.1.c)]) (fun s => s.1.G) (fun s => s.1.t.own b35 a.elem ((b7, row s.2.cells 71) :: (s.1.No ++ _))) (fun s => OfI N a.elem sig (roadsOf N sig) G s.1 (some s.2)) (fun s => s.1.f) (⟨20480, ⟨[], [], [], none, 0, [], none, 0, [], none, 0, []⟩, [], none, 0, [], G⟩, x0) (.cons rfl (.cons rfl (.cons rfl (.cons rfl (.cons rfl (.cons rfl (.cons rfl (.cons rfl (.cons rfl (.cons rfl (.cons rfl (.cons rfl (.cons rfl (.cons rfl (.cons rfl (.cons rfl (.cons rfl (.cons rfl (.cons rfl (.cons rfl (.cons rfl (.cons rfl (.cons rfl (.cons rfl (.cons rfl (.cons rfl (.cons rfl (.nil)))))))))))))))))))))))))))) ⟨rfl, trivial⟩ ⟨Gh.le.refl _, ⟨.nil rfl, .nil rfl, .nil rfl⟩, .nil rfl, hR.symm, rfl, rfl, Nat.zero_le _, (by show 0 + Tf 12 + 1 ≤ 20480; decide), (by show 0 + 20480 ≤ 20480; omega)⟩ rfl rfl ?_
  rintro ⟨⟨f, t, out, Ao, co, No, G1⟩, x⟩ ⟨le1, ok1, oo1, hI, lq, lw, l12, wt, cnt⟩ K next
  unfold PT.own
  dsimp only [Port.cells, wo] at le1 ok1 oo1 hI lq lw l12 wt cnt ⊢
  obtain ⟨f, rfl⟩ : ∃ j, f = j + 1 := ⟨f - 1, by omega⟩
  simp only [dfs] at hI
  refine nx_block (nx_scope (nx_seq (nx_seq (nx_region (nv v_move (nv v_fieldAddr (nv v_load1_o ?_)))))))
  refine nx_op rfl (op_callD rfl rfl rfl (fun W hp => pmay_ok (t := t) hp ok1 (by omega) x.elem) (fun v39 G39 le39 ph39 => ?_))
  subst ph39
  refine nx_nil (nx_then ?_)
  refine nx_join (σ := OfS) [0, 1, 4, 5, 6, 7, 9, 16, 17, 18, 19, 20, 21, 22, 23, 24, 25, 26, 27, 28, 29, 30, 31, 32, 33, 34, 35, 36, 37, 38] (fun z => [(8, .slice z.A z.out.length z.c)]) (fun z => z.G) (fun z => z.t.own b35 a.elem ((b7, row [.int .i64 x.elem, .int .i64 x.fin] 71) :: (z.No ++ (b5, row [.int .i64 a.elem, .int .i64 a.fin] 71) :: H))) (fun z => OfI N a.elem sig (roadsOf N sig) G z none ∧ z.f ≤ f) (.cons rfl (.cons rfl (.cons rfl (.cons rfl (.cons rfl (.cons rfl (.cons rfl (.cons rfl (.cons rfl (.cons rfl (.cons rfl (.cons rfl (.cons rfl (.cons rfl (.cons rfl (.cons rfl (.cons rfl (.cons rfl (.cons rfl (.cons rfl (.cons rfl (.cons rfl (.cons rfl (.cons rfl (.cons rfl (.cons rfl (.cons rfl (.cons rfl (.cons rfl (.cons rfl (.nil))))))))))))))))))))))))))))))) ?_ ?_
  intro K4 next4
  refine nx_cond rfl (fun c39 => ?_) (fun c39 => ?_)
  rw [if_pos c39] at hI
  have hlt : t.s.length ≤ 11 := by have h0 := c39; simp only [pathMay, Bool.and_eq_true, decide_eq_true_eq] at h0; omega
  refine nx_seq (nx_region (nv v_move (nv v_move (nv v_load_o ?_))))
  refine nx_op rfl (op_callR rfl rfl rfl (fun W hp => push_ok (t := t) hp (ok1.le le39) (by omega) (by omega) (by omega) (h.le (Gh.le.trans le1 le39)) x) (fun v43 G43 H43 le43 ph43 => ?_))
  obtain ⟨rfl, t', e1, e2, e3, rfl, ok2⟩ := ph43
  unfold PT.own
  have hwp := wtW_push (w := t.w) (l := outs N.p x.elem x.fin) (by omega) (outs_length _ _ _)
  rw [← e1, ← e2, ← e3] at hI
  have lq2 : t'.q.length = t'.s.length := by rw [e1, e2]; simp; omega
  have lw2 : t'.w.length = t'.s.length := by rw [e1, e3]; simp; omega
  have l122 : t'.s.length ≤ 12 := by rw [e1]; simp; omega
  have wt2 : wtW 0 t'.w + 0 + 1 ≤ f := by rw [e3]; rw [lw] at hwp; omega
  refine nx_nil (nx_then (nx_seq (nx_region (nv v_move (nv v_fieldAddr (nv v_load1_o ?_))))))
  refine nx_op rfl (op_callS rfl rfl rfl (fun W hp => kind_ok hp (h.le (Gh.le.trans le1 (Gh.le.trans le39 le43))) x.elem) ?_)
  refine nv v_eql (nx_nil (nx_then ?_))
  refine nx_cond_dec rfl (fun c48 => ?_) (fun c48 => ?_)
  rw [if_pos c48] at hI
  refine nx_region (nv v_move (nv v_move (nv v_move ?_)))
  refine nx_op rfl (op_callD rfl rfl rfl (fun W hp => proad_ok (t := t') hp ok2 (by omega) lq2 sig (-1) 2) (fun v52 G52 le52 ph52 => ?_))
  obtain ⟨B1, m1, d1, B2, m2, d2, B3, m3, d3, B4, m4, d4, B5, m5, d5, rfl, rat⟩ := ph52
  refine nx_op rfl (op_buildSlice rfl rfl rfl rfl rfl (fun b53 => ?_))
  refine nx_op rfl (op_app (T := tRoad) rfl rfl rfl (oo1.le (Gh.le.trans le39 (Gh.le.trans le43 le52))) (by repeat (first | exact Pull.here | apply Pull.cons | apply Pull.app)) (Src.row List.mem_cons_self (Rows.one ⟨B1, m1, d1, B2, m2, d2, B3, m3, d3, B4, m4, d4, B5, m5, d5, rfl, rat⟩) rfl) (by simp; omega) (by simp [maxLen]; omega) (fun A54 c54 N54 o54 hc54 => ?_))
  refine nv v_assign (nx_nil (nx_then (nf (b := b7) (k := ?_))))
  refine nx_pull (N := t'.N3) (by repeat (first | exact Pull.here | apply Pull.cons | apply Pull.app)) ?_
  refine nx_pull (N := t'.N2) (by repeat (first | exact Pull.here | apply Pull.cons | apply Pull.app)) ?_
  refine nx_pull (N := t'.N1) (by repeat (first | exact Pull.here | apply Pull.cons | apply Pull.app)) ?_
  refine nf (b := b35) (k := ?_)
  refine nx_next (next4 ⟨f, t', _, A54, c54, N54, _⟩ ⟨⟨(Gh.le.trans le1 (Gh.le.trans le39 (Gh.le.trans le43 le52))), ok2.le le52, o54, (by rw [e1, e2] at hI ⊢; exact hI), lq2, lw2, l122, wt2, (by simp; omega)⟩, Nat.le_refl _⟩) (by repeat (first | exact trivial | refine ⟨rfl, ?_⟩)) ?_
  dsimp only [PT.own]
  exact (by repeat (first | exact Suf.refl | apply Suf.keep | apply Suf.cons | apply Suf.keepN | apply Suf.app))
  rw [if_neg c48] at hI
  refine nx_skip (nx_then ?_)
  refine nx_next (next4 ⟨f, t', out, Ao, co, No, _⟩ ⟨⟨(Gh.le.trans le1 (Gh.le.trans le39 le43)), ok2, oo1.le (Gh.le.trans le39 le43), hI, lq2, lw2, l122, wt2, (by dsimp only; omega)⟩, Nat.le_refl _⟩) (by repeat (first | exact trivial | refine ⟨rfl, ?_⟩)) ?_
  dsimp only [PT.own]
  exact (by repeat (first | exact Suf.refl | apply Suf.keep | apply Suf.cons | apply Suf.keepN | apply Suf.app))
  rw [if_neg (by rw [c39]; simp)] at hI
  have htp := Tf_pos (12 - t.s.length)
  refine nx_skip (nx_then ?_)
  refine nx_next (next4 ⟨f, t, out, Ao, co, No, _⟩ ⟨⟨(Gh.le.trans le1 le39), ok1.le le39, oo1.le le39, hI, lq, lw, l12, (by dsimp only [wo]; omega), (by dsimp only; omega)⟩, Nat.le_refl _⟩) (by repeat (first | exact trivial | refine ⟨rfl, ?_⟩)) ?_
  dsimp only [PT.own]
  exact (by repeat (first | exact Suf.refl | apply Suf.keep | apply Suf.cons | apply Suf.keepN | apply Suf.app))
  rintro ⟨f2, t2, out2, A2, c2, No2, G2⟩ ⟨I2, hf2⟩
  unfold PT.own
  dsimp only at hf2 ⊢
  refine nx_seq (nx_label (nx_then (nx_seq (nx_block ?_))))
  refine nx_loop_v (σ := OfS) [0, 1, 4, 5, 6, 7, 9, 16, 17, 18, 19, 20, 21, 22, 23, 24, 25, 26, 27, 28, 29, 30, 31, 32, 33, 34, 35, 36, 37, 38] (fun z => [(8, .slice z.A z.out.length z.c)]) (fun z => z.G) (fun z => z.t.own b35 a.elem ((b7, row [.int .i64 x.elem, .int .i64 x.fin] 71) :: (z.No ++ (b5, row [.int .i64 a.elem, .int .i64 a.fin] 71) :: H))) (fun z => OfI N a.elem sig (roadsOf N sig) G z none ∧ z.f ≤ f) (fun z => z.f) ⟨f2, t2, out2, A2, c2, No2, G2⟩ (.cons rfl (.cons rfl (.cons rfl (.cons rfl (.cons rfl (.cons rfl (.cons rfl (.cons rfl (.cons rfl (.cons rfl (.cons rfl (.cons rfl (.cons rfl (.cons rfl (.cons rfl (.cons rfl (.cons rfl (.cons rfl (.cons rfl (.cons rfl (.cons rfl (.cons rfl (.cons rfl (.cons rfl (.cons rfl (.cons rfl (.cons rfl (.cons rfl (.cons rfl (.cons rfl (.nil))))))))))))))))))))))))))))))) ⟨rfl, trivial⟩ ⟨I2, hf2⟩ rfl rfl ?_
  rintro ⟨f3, ⟨s, q, w, A1, c1, N1, A2, c2, N2, A3, c3, N3⟩, out3, Ao3, co3, No3, G3⟩ ⟨⟨le3, ok3, oo3, hJ, lq3, lw3, l123, wt3, cnt3⟩, hf3⟩ K2 next2
  obtain ⟨o1, o2, o3⟩ := ok3
  unfold PT.own
  dsimp only [wo] at le3 o1 o2 o3 oo3 hJ lq3 lw3 l123 wt3 cnt3 hf3 ⊢
  obtain ⟨f3, rfl⟩ : ∃ j, f3 = j + 1 := ⟨f3 - 1, by omega⟩
  simp only [dfs] at hJ
  refine nx_seq (nx_seq (nx_region (nv v_move (nv v_nilCheck (nv v_fieldAddr (nv v_load1_o (nv v_len (nv v_gtr (nx_nil (nx_then ?_))))))))))
  refine nx_cond_dec rfl (fun c60 => ?_) (fun c60 => ?_)
  rw [if_neg (by omega)] at hJ
  obtain ⟨k, hk⟩ : ∃ k, s.length = k + 1 := ⟨s.length - 1, by omega⟩
  have hk1 : s.length - 1 = k := by omega
  have hki : (k : Int) = (s.length : Int) - 1 := by omega
  simp only [hk1] at hJ
  obtain ⟨l, hl⟩ : ∃ l, w[k]? = some l := ⟨_, List.getElem?_eq_getElem (by omega)⟩
  obtain ⟨cc, hcc⟩ : ∃ c, s[k]? = some c := ⟨_, List.getElem?_eq_getElem (by omega)⟩
  obtain ⟨z0, hz0⟩ : ∃ z, q[k]? = some z := ⟨_, List.getElem?_eq_getElem (by omega)⟩
  rw [hl, hcc] at hJ
  simp only [Option.getD_some] at hJ
  obtain ⟨wb, wc, wcs, wr, wv, rfl, wR, wl, wf, wcs'⟩ := o3.get hl
  cases wv
  obtain ⟨Al, nl, cl, rfl, sl⟩ := wR
  have hw0 : wr[0 + k * 1]? = some (.slice Al nl cl) := by rw [Nat.zero_add]; exact wcs' 0 _ rfl
  have hwlen : 0 + k * 1 < wr.length := (List.getElem?_eq_some_iff.1 hw0).1
  have hsll := sl.length
  refine nx_skip (nx_then (nx_block (nx_seq (nx_region (nv v_move (nv v_nilCheck (nv v_fieldAddr (nv v_load1_o (nv v_len (nv v_sub (nv v_assign ?_)))))))))))
  refine nx_nil (nx_then (nx_seq (nx_seq (nx_region (nv v_move (nv v_nilCheck (nv v_fieldAddr (nv v_load1_o (nv v_move ?_)))))))))
  refine nv (v_indexAddr_nat (k := k) rfl rfl (by rw [hki]; rfl) (by omega)) ?_
  refine nv (v_load1_o rfl rfl (by repeat (first | exact OwnAt.one hw0 | apply OwnAt.cons | apply OwnAt.app))) ?_
  refine nv v_len (nv v_eql (nx_nil (nx_then ?_)))
  refine nx_cond_dec rfl (fun c75 => ?_) (fun c75 => ?_)
  have hl0 : l = [] := List.length_eq_zero_iff.1 (by omega)
  subst hl0
  simp only at hJ
  have hwp := wtW_pop (by omega) hl
  refine nx_seq (nx_region (nv v_move ?_))
  refine nx_op rfl (op_callR rfl rfl rfl (fun W hp => pop_ok (t := ⟨s, q, w, _, c1, _, _, c2, _, _, _, _⟩) hp ⟨o1, o2, o3⟩ (k := k) hk (by dsimp only; omega) (by dsimp only; omega) (by omega)) (fun v77 G77 H77 le77 ph77 => ?_))
  obtain ⟨rfl, t7, e1, e2, e3, rfl, ok7⟩ := ph77
  unfold PT.own
  refine nx_nil (nx_then (nx_exit (nx_then_exit (nx_in_eq (nx_then ?_)))))
  refine nx_next (next2 ⟨f3, t7, out3, Ao3, co3, No3, _⟩ ⟨⟨(Gh.le.trans le3 le77), ok7, oo3.le le77, (by dsimp only; rw [e1, e2, e3]; exact hJ), (by dsimp only; rw [e1, e2]; dsimp only; simp; omega), (by dsimp only; rw [e1, e3]; dsimp only; simp; omega), (by dsimp only; rw [e1]; simp; omega), (by dsimp only [wo]; rw [e3]; dsimp only; omega), (by dsimp only; omega)⟩, (by dsimp only; omega)⟩ (by dsimp only; omega)) (by repeat (first | exact trivial | refine ⟨rfl, ?_⟩)) ?_
  dsimp only [PT.own]
  exact (by repeat (first | exact Suf.refl | apply Suf.keep | apply Suf.cons | apply Suf.keepN | apply Suf.app))
  obtain ⟨y, r, rfl⟩ : ∃ y r, l = y :: r := by
    cases l with
    | nil => simp at hsll; omega
    | cons y r => exact ⟨y, r, rfl⟩
  simp only at hJ
  have hws := wtW_set (by omega) hl
  obtain ⟨yb, yo, ye, yk, yf0, yf1⟩ := get_Way sl (rfl : (y :: r)[0]? = some y)
  cases ye
  obtain ⟨A9, hA9⟩ : ∃ A', (if cl = 1 then some (⟨yb, yo, none⟩ : Addr) else cutA (some ⟨yb, yo, none⟩) 1 2) = A' := ⟨_, rfl⟩
  have hd9 : Sl tWay G3 A9 (nl - 1) (cl - 1) r := by have := sl.drop (k := 1) (by omega); rw [← hA9]; exact this
  obtain ⟨sb, sc, scs, sr, sv, rfl, sR, sl1, sf, scs'⟩ := o1.get hcc
  cases sv
  obtain rfl : scs = cc.cells := sR
  obtain ⟨qb, qc, qcs, qr, qv, rfl, qR, ql, qf, qcs'⟩ := o2.get hz0
  cases qv
  have hs2 : k * 3 + 3 ≤ sr.length := by have : (k + 1) * 3 ≤ sr.length := sf; omega
  have hs0 : (sr.set (0 + k * 3 + 2) (.int .i64 y.out))[0 + k * 3 + 0]? = some (.int .i64 cc.elem) := by
    rw [List.getElem?_set_ne (by omega)]
    have := scs' 0 _ rfl
    rw [show 0 + k * 3 + 0 = k * tStep.sz + 0 by rw [Nat.zero_add]; rfl]; exact this
  have hqlen : 0 + k * 1 < qr.length := by have : (k + 1) * 1 ≤ qr.length := qf; omega
  refine nx_skip (nx_then (nx_seq (nx_region (nv v_move (nv v_nilCheck (nv v_fieldAddr (nv v_load1_o (nv v_move ?_))))))))
  refine nv (v_indexAddr_nat (k := k) rfl rfl (by rw [hki]; rfl) (by omega)) ?_
  refine nv (v_load1_o rfl rfl (by repeat (first | exact OwnAt.one hw0 | apply OwnAt.cons | apply OwnAt.app))) ?_
  refine nv (v_indexAddr_nat (k := 0) rfl rfl rfl (by omega)) (nv v_load_s ?_)
  refine nx_op rfl (op_alloc rfl (fun b11 => ?_))
  refine st (k := nx_nil (nx_then (nx_seq (dr_begin 14 (.q 0 (.q 1 (.q 2 (.q 3 (.q 4 (.q 5 (.q 6 (.q 7 (.q 8 (.q 9 (.q 10 (.q 11 (.q 12 (.q 13 .done)))))))))))))) rfl (by kernel_rfl) (dr_q rfl rfl v_move ic (dr_q rfl rfl v_nilCheck ic (dr_q rfl rfl v_fieldAddr ic (dr_q rfl rfl v_load1_o ic (dr_q rfl rfl v_move ic (dr_q rfl rfl v_move ic (dr_q rfl rfl v_nilCheck ic ?_)))))))))))
  refine dr_q rfl rfl v_fieldAddr ic (dr_q rfl rfl v_load1_o ic (dr_q rfl rfl v_move ic ?_))
  refine dr_q rfl rfl (v_indexAddr_nat (k := k) rfl rfl (by rw [hki]; rfl) (by omega)) ic ?_
  refine dr_q rfl rfl (v_load1_o rfl rfl (by repeat (first | exact OwnAt.one hw0 | apply OwnAt.cons | apply OwnAt.app))) ic ?_
  refine dr_q rfl rfl ((by rw [← hA9]; exact v_slice_lo (k := 1) rfl rfl rfl (by omega) : OpV _ _ _ _ _ _ 99 (.slice A9 (nl - 1) (cl - 1)))) ic ?_
  refine dr_q rfl rfl (v_indexAddr_nat (k := k) rfl rfl (by rw [hki]; rfl) (by omega)) ic ?_
  refine dr_end rfl ?_
  refine nx_op rfl (op_sto rfl rfl rfl rfl rfl (by repeat (first | exact UpdS.here (setEs_one hwlen) | apply UpdS.cons | apply UpdS.app)) ?_)
  refine nx_nil (nx_np ?_)
  refine nx_then (nx_seq (nf (b := sb) (k := dr_begin_cons 18 (.q 0 (.q 1 (.q 2 (.q 3 (.q 4 (.q 5 (.q 6 (.q 7 (.q 8 (.q 9 (.q 10 (.q 11 (.q 12 (.q 13 (.q 14 (.q 15 (.l 16 (.q 17 .done)))))))))))))))))) rfl (by kernel_rfl) (dr_q rfl rfl v_move (ic.cons _) (dr_q rfl rfl v_nilCheck (ic.cons _) (dr_q rfl rfl v_fieldAddr (ic.cons _) (dr_q rfl rfl v_load1_o (ic.cons _) (dr_q rfl rfl v_move (ic.cons _) (dr_q rfl rfl v_move (ic.cons _) (dr_q rfl rfl v_nilCheck (ic.cons _) (dr_q rfl rfl v_fieldAddr (ic.cons _) ?_)))))))))))
  refine dr_q rfl rfl v_load1_o (ic.cons _) (dr_q rfl rfl v_move (ic.cons _) (dr_q rfl rfl v_fieldAddr (ic.cons _) (dr_q rfl rfl v_load1_o (ic.cons _) (dr_q rfl rfl v_fieldAddr (ic.cons _) (dr_q rfl rfl v_load1_o (ic.cons _) ?_)))))
  refine dr_q rfl rfl (v_indexAddr_nat (k := k) rfl rfl (by rw [hki]; rfl) (by omega)) (ic.cons _) ?_
  refine dr_q rfl rfl v_fieldAddr (ic.cons _) (dr_l rfl rfl (op_sto rfl rfl rfl rfl rfl (.here (setEs_one (by omega))) (dr_k (ic.cons _) ?_)))
  refine dr_q rfl rfl (v_indexAddr_nat (k := k) rfl rfl (by rw [hki]; rfl) (by omega)) (ic.cons _) ?_
  refine dr_end rfl ?_
  refine nx_op rfl (op_sto rfl rfl rfl rfl rfl (by repeat (first | exact UpdS.here (setEs_one hqlen) | apply UpdS.cons | apply UpdS.app)) ?_)
  refine nx_nil (nx_np ?_)
  refine nx_then (nx_seq (dr_begin 12 (.q 0 (.q 1 (.q 2 (.q 3 (.q 4 (.q 5 (.q 6 (.q 7 (.q 8 (.q 9 (.q 10 (.l 11 .done)))))))))))) rfl (by kernel_rfl) (dr_q rfl rfl v_move ic (dr_q rfl rfl v_nilCheck ic (dr_q rfl rfl v_fieldAddr ic (dr_q rfl rfl v_load1_o ic (dr_q rfl rfl v_move ic ?_)))))))
  refine dr_q rfl rfl (v_indexAddr_nat (k := k) rfl rfl (by rw [hki]; rfl) (by omega)) ic ?_
  refine dr_q rfl rfl v_fieldAddr ic ?_
  refine dr_q rfl rfl (v_load1_o rfl rfl (by repeat (first | exact OwnAt.one hs0 | apply OwnAt.cons | apply OwnAt.app))) ic ?_
  refine dr_q rfl rfl v_fieldAddr ic (dr_q rfl rfl v_load1_o ic (dr_q rfl rfl (v_build rfl rfl rfl) ic (dr_l rfl rfl ?_)))
  refine op_alloc rfl (fun b12 => ?_)
  refine dr_k (ic.cons _) (dr_end rfl (st (k := ?_)))
  refine nx_nil (nx_np ?_)
  refine nx_then (nx_seq (nx_seq (nx_region (nv v_move (nv v_load_o ?_)))))
  have oo1 := o1.set1 (k := k) (j := 2) (x := ⟨cc.elem, cc.inn, y.out⟩) (v := .int .i64 y.out) (by omega) scs' sl1 (by decide) sf rfl
  have oo2 := o2.set1 (k := k) (j := 0) (x := y.pos) (v := .int .i64 y.pos) (by omega) qcs' ql (by decide) qf (by rw [show qcs = [.int .i64 z0] from qR]; rfl)
  have oo4 := o3.set1 (k := k) (j := 0) (x := r) (v := .slice A9 (nl - 1) (cl - 1)) (by omega) wcs' wl (by decide) wf ⟨A9, _, _, rfl, hd9⟩
  rw [show k * tStep.sz + 2 = 0 + k * 3 + 2 by rw [Nat.zero_add]; rfl] at oo1
  rw [show k * tInt.sz + 0 = 0 + k * 1 by rw [Nat.zero_add]; rfl] at oo2
  rw [show k * (tSl tWay).sz + 0 = 0 + k * 1 by rw [Nat.zero_add]; rfl] at oo4
  obtain ⟨s', hs'⟩ : ∃ s', s.set k ⟨cc.elem, cc.inn, y.out⟩ = s' := ⟨_, rfl⟩
  obtain ⟨q', hq'⟩ : ∃ q', q.set k y.pos = q' := ⟨_, rfl⟩
  obtain ⟨w', hw'⟩ : ∃ w', w.set k r = w' := ⟨_, rfl⟩
  have hsl : s'.length = s.length := by rw [← hs', List.length_set]
  have hql : q'.length = q.length := by rw [← hq', List.length_set]
  have hwl : w'.length = w.length := by rw [← hw', List.length_set]
  rw [hs'] at oo1
  rw [hq'] at oo2
  rw [hw'] at oo4 hws
  simp only [hs', hq', hw'] at hJ
  rw [← hsl] at oo1
  rw [← hql] at oo2
  rw [← hwl] at oo4
  rw [← hsl, ← hql, ← hwl]
  refine nf (b := b7) (k := nf (b := wb) (k := nf (b := qb) (k := nf (b := sb) (k := nf (b := b35) (k := ?_)))))
  have ok9 : PT.Ok ⟨s', q', w', _, _, _, _, _, _, _, _, _⟩ G3 := ⟨oo1, oo2, oo4⟩
  refine nx_op rfl (op_callS rfl rfl rfl (fun W hp => reads_ok hp (h.le le3) ⟨cc.elem, y.out⟩) ?_)
  refine nv v_assign (nx_nil (nx_then (nx_seq (nx_region (nv v_move (nv v_geq (nx_nil (nx_then ?_))))))))
  refine nx_cond_dec rfl (fun c133 => ?_) (fun c133 => ?_)
  rw [if_pos c133] at hJ
  refine nx_seq (nx_region (nv v_move (nv v_move (nv v_move (nv v_move ?_)))))
  refine nx_op rfl (op_callD rfl rfl rfl (fun W hp => proad_ok (t := ⟨s', q', w', _, _, _, _, _, _, _, _, _⟩) hp ok9 (by dsimp only; omega) (by dsimp only; omega) sig _ 1) (fun v138 G138 le138 ph138 => ?_))
  obtain ⟨B1, m1, d1, B2, m2, d2, B3, m3, d3, B4, m4, d4, B5, m5, d5, rfl, rat⟩ := ph138
  refine nx_op rfl (op_buildSlice rfl rfl rfl rfl rfl (fun b139 => ?_))
  refine nx_op rfl (op_app (T := tRoad) rfl rfl rfl (oo3.le le138) (by repeat (first | exact Pull.here | apply Pull.cons | apply Pull.app)) (Src.row List.mem_cons_self (Rows.one ⟨B1, m1, d1, B2, m2, d2, B3, m3, d3, B4, m4, d4, B5, m5, d5, rfl, rat⟩) rfl) (by simp; omega) (by simp [maxLen]; omega) (fun A140 c140 N140 o140 hc140 => ?_))
  refine nv v_assign (nx_nil (nx_then (nx_exit (nx_then_exit (nx_in_eq (nx_then (nf (b := b7) (k := nf (b := wb) (k := nf (b := qb) (k := nf (b := sb) (k := nf (b := b35) (k := ?_))))))))))))
  refine nx_next (next2 ⟨f3, ⟨s', q', w', _, _, _, _, _, _, _, _, _⟩, _, A140, c140, N140, _⟩ ⟨⟨(Gh.le.trans le3 le138), ok9.le le138, o140, hJ, (by dsimp only; omega), (by dsimp only; omega), (by dsimp only; omega), (by dsimp only [wo]; omega), (by simp; omega)⟩, (by dsimp only; omega)⟩ (by dsimp only; omega)) (by repeat (first | exact trivial | refine ⟨rfl, ?_⟩)) ?_
  dsimp only [PT.own]
  exact (by repeat (first | exact Suf.refl | apply Suf.keep | apply Suf.cons | apply Suf.keepN | apply Suf.app))
  rw [if_neg c133] at hJ
  refine nx_skip (nx_then (nx_seq (nx_region (nv v_move (nv v_load_o ?_)))))
  refine nx_op rfl (op_callS rfl rfl rfl (fun W hp => next_ok hp (h.le le3) ⟨cc.elem, y.out⟩) ?_)
  refine nv v_move (nv (v_extract rfl rfl rfl) (nv (v_extract rfl rfl rfl) ?_))
  refine nx_op rfl (op_alloc rfl (fun b14 => ?_))
  refine st (k := nv v_assign (nx_nil (nx_then (nx_seq (nx_seq (nx_region (nv v_move (nv v_not (nx_nil (nx_then ?_))))))))))
  refine nx_cond rfl (fun c148 => ?_) (fun c148 => ?_)
  have hn : getK N.next ⟨cc.elem, y.out⟩ = none := by cases hq : getK N.next ⟨cc.elem, y.out⟩ with | none => rfl | some a => rw [hq] at c148; simp at c148
  rw [hn] at hJ
  simp only at hJ
  refine nx_seq (nx_region (nv v_move (nv v_move (nv v_move (nf (b := b7) (k := nf (b := wb) (k := nf (b := qb) (k := nf (b := sb) (k := nf (b := b35) (k := ?_))))))))))
  refine nx_op rfl (op_callD rfl rfl rfl (fun W hp => proad_ok (t := ⟨s', q', w', _, _, _, _, _, _, _, _, _⟩) hp ok9 (by dsimp only; omega) (by dsimp only; omega) sig (-1) 3) (fun v152 G152 le152 ph152 => ?_))
  obtain ⟨B1, m1, d1, B2, m2, d2, B3, m3, d3, B4, m4, d4, B5, m5, d5, rfl, rat⟩ := ph152
  refine nx_op rfl (op_buildSlice rfl rfl rfl rfl rfl (fun b153 => ?_))
  refine nx_op rfl (op_app (T := tRoad) rfl rfl rfl (oo3.le le152) (by repeat (first | exact Pull.here | apply Pull.cons | apply Pull.app)) (Src.row List.mem_cons_self (Rows.one ⟨B1, m1, d1, B2, m2, d2, B3, m3, d3, B4, m4, d4, B5, m5, d5, rfl, rat⟩) rfl) (by simp; omega) (by simp [maxLen]; omega) (fun A154 c154 N154 o154 hc154 => ?_))
  refine nv v_assign (nx_nil (nx_then (nx_exit (nx_then_exit (nx_in_eq (nx_then (nf (b := b7) (k := nf (b := wb) (k := nf (b := qb) (k := nf (b := sb) (k := nf (b := b35) (k := ?_))))))))))))
  refine nx_next (next2 ⟨f3, ⟨s', q', w', _, _, _, _, _, _, _, _, _⟩, _, A154, c154, N154, _⟩ ⟨⟨(Gh.le.trans le3 le152), ok9.le le152, o154, hJ, (by dsimp only; omega), (by dsimp only; omega), (by dsimp only; omega), (by dsimp only [wo]; omega), (by simp; omega)⟩, (by dsimp only; omega)⟩ (by dsimp only; omega)) (by repeat (first | exact trivial | refine ⟨rfl, ?_⟩)) ?_
  dsimp only [PT.own]
  exact (by repeat (first | exact Suf.refl | apply Suf.keep | apply Suf.cons | apply Suf.keepN | apply Suf.app))
  obtain ⟨x9, hn⟩ : ∃ z, getK N.next ⟨cc.elem, y.out⟩ = some z := by cases hq : getK N.next ⟨cc.elem, y.out⟩ with | none => rw [hq] at c148; simp at c148 | some a => exact ⟨a, rfl⟩
  rw [hn] at hJ ⊢
  simp only [Option.getD_some] at hJ ⊢
  refine nx_skip (nx_then (nx_seq (nx_region (nv v_load_o (st (k := nx_nil (nx_then (nx_exit (nx_in_ne rfl (nx_then_exit (nx_in_ne rfl ?_)))))))))))
  refine nx_then_exit (nx_ng_exit (nx_in_eq (nx_then ?_)))
  refine nx_next (next (⟨f3, ⟨s', q', w', _, _, _, _, _, _, _, _, _⟩, out3, Ao3, co3, No3, _⟩, x9) ⟨le3, ok9, oo3, hJ, (by dsimp only; omega), (by dsimp only; omega), (by dsimp only; omega), (by dsimp only [wo]; rw [hsl, hk, show 12 - (k + 1) = 11 - k by omega]; omega), (by dsimp only; omega)⟩ (by dsimp only; omega)) (by repeat (first | exact trivial | refine ⟨rfl, ?_⟩)) ?_
  dsimp only [PT.own]
  exact (by repeat (first | exact Suf.refl | apply Suf.keep | apply Suf.cons | apply Suf.keepN | apply Suf.app))
  have hE : roadsOf N sig = out3 := by rw [if_pos (by omega)] at hJ; exact hJ.symm
  refine nx_exit (nx_then_exit (nx_then_exit (nx_in_eq (nx_then (nx_exit (nx_ng_exit (nx_in_ne rfl (nx_then_exit (nx_in_eq (nx_then (nx_seq ?_)))))))))))
  refine nx_region (nv v_move (nv v_assign (nx_nil (nx_then (nx_ret (nx_ng_ret ?_))))))
  first
  | exact nx_ret1 rfl (.tmp rfl) (fun W hp => ⟨_, G, [] ++ H, rfl, Gh.le.refl _, ⟨⟨[], rfl, .nil hE⟩, (by rw [hE]; exact Nat.zero_le _)⟩, Suf.hp (by repeat (first | exact Suf.refl | apply Suf.keep | apply Suf.cons | apply Suf.keepN | apply Suf.app)) hp⟩)
  | exact nx_ret1 rfl (.tmp rfl) (fun W hp => ⟨_, _, No3 ++ H, rfl, le3, ⟨⟨No3, rfl, (by rw [hE]; exact oo3)⟩, (by rw [hE]; omega)⟩, Suf.hp (by repeat (first | exact Suf.refl | apply Suf.keep | apply Suf.cons | apply Suf.keepN | apply Suf.app)) hp⟩)
end Go.Proofs.YtjckojnlapchoaaGreat
open Go Go.RowKit
namespace Go.Proofs.YtjckojnlapchoaaGreat
open Go.Proofs
def allF (N : NetD) : Nat → Nat → List Road
  | _, 0 => []
  | i, k + 1 => roadsOf N (i : Int) ++ allF N (i + 1) k
def roadsAll (N : NetD) : List Road := allF N 0 N.p.signals.length
theorem allF_snoc (N : NetD) : ∀ (k i : Nat), allF N i (k + 1) = allF N i k ++ roadsOf N ((i + k : Nat) : Int)
  | 0, i => by simp [allF]
  | k + 1, i => by
    have := allF_snoc N k (i + 1)
    rw [allF, this, allF, List.append_assoc, show i + 1 + k = i + (k + 1) by omega]
set_option maxRecDepth 20000 in
set_option maxHeartbeats 1000000 in
theorem roadAll_ok {G : Gh} {H : List (Nat × Obj)} {W : World} (hp : Hp G H W) {g : Nat} {N : NetD} (h : NetAt G g N) (hN : N.Ok) : Calls Tryz.prog 86 ⟨[.pointer (some ⟨g, 0, none⟩)]⟩ W (Ret G (fun G' H' v => if 64 < (roadsAll N).length then H' = H ∧ v = .tuple #[.slice none 0 0, .int .i64 3] else ∃ A c Nn, H' = Nn ++ H ∧ v = .tuple #[.slice A (roadsAll N).length c, .int .i64 0] ∧ OwnS tRoad 164 G' (roadsAll N) (.slice A (roadsAll N).length c) Nn)) := by
  have hsm := hN.small.signals
  refine enter Tryz.func86 rfl Tryz.ntmps86 (Nat.le_of_ble_eq_true rfl) hp (nx_seq (nx_region (nv v_assign (nv v_assign (nx_nil (nx_then (nx_seq (nx_region (nv v_assign (nx_nil (nx_then ?_)))))))))))
  refine nx_seq (nx_seq (nx_region (nv v_move ?_)))
  refine nx_op rfl (op_callS rfl rfl rfl (fun W hp => signals_ok hp h) ?_)
  refine nv v_move (nx_nil (nx_then (nx_block ?_)))
  refine nx_loop_v (σ := Nat × Option Addr × Nat × List (Nat × Obj) × Gh) [0, 2, 3, 6, 7] (fun s => [(8, .int .i64 (s.1 : Int)), (4, .slice s.2.1 (allF N 0 s.1).length s.2.2.1)]) (fun s => s.2.2.2.2) (fun s => s.2.2.2.1 ++ H) (fun s => G.le s.2.2.2.2 ∧ s.1 ≤ N.p.signals.length ∧ (allF N 0 s.1).length ≤ 20480 * s.1 ∧ OwnS tRoad 164 s.2.2.2.2 (allF N 0 s.1) (.slice s.2.1 (allF N 0 s.1).length s.2.2.1) s.2.2.2.1) (fun s => N.p.signals.length - s.1) (0, none, 0, [], G) (.cons rfl (.cons rfl (.cons rfl (.cons rfl (.cons rfl (.nil)))))) ⟨rfl, rfl, trivial⟩ ⟨Gh.le.refl _, Nat.zero_le _, Nat.le_refl _, .nil rfl⟩ rfl rfl ?_
  rintro ⟨k, A1, c1, N1, G1⟩ ⟨le1, hk, hlen, o1⟩ K next
  dsimp only at le1 hk hlen o1 ⊢
  refine nx_seq (nx_region (nv v_lss (nx_nil (nx_then (nx_seq ?_)))))
  refine nx_cond_dec rfl (fun c9 => ?_) (fun c9 => ?_)
  refine nx_skip (nx_then (nx_seq (nx_block (nx_seq (nx_region (nv v_move (nv v_assign (nx_nil (nx_then (nx_region (nv v_move ?_)))))))))))
  refine nv v_move (nv v_move ?_)
  refine nx_op rfl (op_callR rfl rfl rfl (fun W hp => roadOf_ok hp (h.le le1) hN (k : Int)) (fun v14 G14 H14 le14 ph14 => ?_))
  obtain ⟨⟨N14, rfl, o14⟩, hl14⟩ := ph14
  obtain ⟨A14, c14, rfl, hc14⟩ := o14.val
  have hsn := allF_snoc N k 0
  rw [Nat.zero_add] at hsn
  refine nx_op rfl (op_app (T := tRoad) rfl rfl rfl (o1.le le14) (by repeat (first | exact Pull.here | apply Pull.cons | apply Pull.app)) (o14.src (Pull.mem (by repeat (first | exact Pull.here | apply Pull.cons | apply Pull.app)))) (by omega) (by simp [maxLen]; omega) (fun A15 c15 N15 o15 hc15 => ?_))
  refine nv v_assign (nx_nil (nx_in _ (nx_then (nx_region (nv v_add (nv v_move (nx_nil (nx_then ?_))))))))
  rw [← hsn] at o15 ⊢
  exact nn (next (k + 1, A15, c15, N15, _) ⟨(Gh.le.trans le1 le14), (by dsimp only; omega), (by dsimp only; rw [hsn, List.length_append]; omega), o15⟩ (by dsimp only; omega))
  obtain rfl : k = N.p.signals.length := by omega
  refine nx_exit (nx_then_exit (nx_then_exit (nx_in_eq (nx_then (nx_seq (nx_seq (nx_region (nv v_move (nv v_len (nv v_gtr (nx_nil ?_)))))))))))
  refine nx_then ?_
  refine nx_cond_dec rfl (fun c19 => ?_) (fun c19 => ?_)
  have hE : 64 < (roadsAll N).length := by unfold roadsAll; omega
  refine nx_seq (nx_region (nv v_assign (nv v_assign (nx_nil (nx_then (nx_ret (nx_then_ret ?_)))))))
  exact nx_ret2 rfl (.tmp rfl) (.tmp rfl) (fun W hp => ⟨_, G1, H, rfl, le1, (by dsimp only; rw [if_pos hE]; exact ⟨rfl, rfl⟩), Suf.hp (by repeat (first | exact Suf.refl | apply Suf.keep | apply Suf.cons | apply Suf.keepN | apply Suf.app)) hp⟩)
  have hE : ¬ 64 < (roadsAll N).length := by unfold roadsAll; omega
  refine nx_skip (nx_then (nx_seq (nx_region (nv v_move (nv v_assign (nv v_assign (nx_nil (nx_then (nx_ret ?_)))))))))
  exact nx_ret2 rfl (.tmp rfl) (.tmp rfl) (fun W hp => ⟨_, G1, N1 ++ H, rfl, le1, (by dsimp only; rw [if_neg hE]; exact ⟨A1, c1, N1, rfl, rfl, o1⟩), Suf.hp (by repeat (first | exact Suf.refl | apply Suf.keep | apply Suf.cons | apply Suf.keepN | apply Suf.app)) hp⟩)
def ownE (steps : List Step) (e : Int) : Bool := steps.any fun s => decide (s.elem = e)
set_option maxRecDepth 20000 in
set_option maxHeartbeats 1000000 in
theorem own1_ok {G : Gh} {H : List (Nat × Obj)} {W : World} (hp : Hp G H W) (s : Step) {q : Nat} {e : Int} (hm : (q, row [.int .i64 e] 3) ∈ H) : Calls Tryz.prog 183 ⟨[.agg ⟨s.cells⟩, .pointer (some ⟨q, 0, none⟩)]⟩ W (RetS G H (.bool (decide (s.elem = e)))) := by
  refine enter Tryz.func183 rfl Tryz.ntmps183 (Nat.le_of_ble_eq_true rfl) hp (nx_seq (nx_region ?_))
  refine nx_op rfl (op_box rfl rfl (fun b2 => ?_))
  refine nv v_assign (nx_nil (nx_then (nx_seq (nx_region (nv v_fieldAddr (nv v_load1_o (nv (v_load1 rfl rfl (Rd.own (List.mem_cons_of_mem _ hm) rfl)) (nv v_eql (nv v_assign (nx_nil (nx_then ?_)))))))))))
  refine nx_ret ?_
  exact nx_ret1 rfl (.tmp rfl) (rs (rfl))
set_option maxRecDepth 20000 in
set_option maxHeartbeats 1000000 in
theorem own_ok {G : Gh} {H : List (Nat × Obj)} {W : World} (hp : Hp G H W) {A1 : Option Addr} {n1 c1 : Nat} {steps : List Step} (hs : Sl tStep G A1 n1 c1 steps) {v0 v1 v2 v4 v5 v6 v7 v8 : Value} (e : Int) : Calls Tryz.prog 143 ⟨[.agg ⟨[v0, v1, v2, .slice A1 n1 c1, v4, v5, v6, v7, v8]⟩, .int .i64 e]⟩ W (RetD G H (fun _ v => v = .bool (ownE steps e))) := by
  refine enter Tryz.func143 rfl Tryz.ntmps143 (Nat.le_of_ble_eq_true rfl) hp (nx_seq (nx_region ?_))
  refine nx_op rfl (op_box rfl rfl (fun b2 => ?_))
  refine nx_op rfl (op_box1 rfl rfl rfl (fun b3 => ?_))
  refine nv v_assign (nx_nil (nx_then (nx_seq (nx_region (nv v_fieldAddr (nv v_load1_o (nv v_makeFunc ?_)))))))
  refine nx_op rfl (op_callD rfl rfl rfl (fun W hp => containsFunc_Step hp hs (fun s => decide (s.elem = e)) (fst := []) (cap := [.pointer (some ⟨b3, 0, none⟩)]) (fun s _ => fun G' H' W' hl hs' hp' => RetS.toD (own1_ok hp' s (hs'.sublist.subset List.mem_cons_self)))) (fun v8 G8 le8 ph8 => ?_))
  subst ph8
  refine nv v_assign (nx_nil (nx_then (nx_ret ?_)))
  exact nx_ret1 rfl (.tmp rfl) (rt (le8) (rfl))
def sideEnds (N : NetD) (s : Step) : List Int :=
  if N.p.kind s.elem = 2 then [3 - max s.inn s.out]
  else if N.p.kind s.elem = 3 then (if 1 < s.inn then [0, 1] else [2, 3])
  else []
def sideOf (N : NetD) (s : Step) : List Port := ((sideEnds N s).map fun e => (⟨s.elem, e⟩ : Port)).filter fun x => (getK N.next x).isSome
def sidePorts (N : NetD) (l : List Step) : List Port := l.flatMap (sideOf N)
theorem sideEnds_length (N : NetD) (s : Step) : (sideEnds N s).length ≤ 2 := by
  unfold sideEnds
  split; · simp
  split
  · split <;> simp
  · simp
theorem sideOf_length (N : NetD) (s : Step) : (sideOf N s).length ≤ 2 := by
  unfold sideOf
  have h1 := List.length_filter_le (fun x => (getK N.next x).isSome) ((sideEnds N s).map fun e => (⟨s.elem, e⟩ : Port))
  have h2 := sideEnds_length N s
  rw [List.length_map] at h1; omega
theorem sidePorts_length (N : NetD) : ∀ l : List Step, (sidePorts N l).length ≤ 2 * l.length
  | [] => Nat.le_refl _
  | s :: l => by
    have h1 := sidePorts_length N l
    have h2 := sideOf_length N s
    unfold sidePorts at h1 ⊢
    rw [List.flatMap_cons, List.length_append, List.length_cons]; omega
theorem sidePorts_snoc (N : NetD) (l : List Step) (s : Step) : sidePorts N (l ++ [s]) = sidePorts N l ++ sideOf N s := by simp [sidePorts]
def portsOf (N : NetD) (e : Int) (l : List Int) : List Port := (l.map fun i => (⟨e, i⟩ : Port)).filter fun x => (getK N.next x).isSome
theorem portsOf_snoc (N : NetD) (e : Int) (l : List Int) (i : Int) : portsOf N e (l ++ [i]) = if (getK N.next ⟨e, i⟩).isSome then portsOf N e l ++ [⟨e, i⟩] else portsOf N e l := by
  unfold portsOf
  rw [List.map_append, List.filter_append]
  by_cases h : (getK N.next ⟨e, i⟩).isSome = true
  · simp [h]
  · rw [if_neg h]; simp [h]
structure Step.In (s : Step) : Prop where
  inn : -10 ≤ s.inn ∧ s.inn ≤ 10
  out : -10 ≤ s.out ∧ s.out ≤ 10
set_option maxRecDepth 20000 in
set_option maxHeartbeats 1000000 in
theorem sidePorts_ok {G : Gh} {H : List (Nat × Obj)} {W : World} (hp : Hp G H W) {g : Nat} {N : NetD} (h : NetAt G g N) {A1 : Option Addr} {n1 c1 : Nat} {steps : List Step} (hs : Sl tStep G A1 n1 c1 steps) (hn : n1 ≤ 1000) (hin : ∀ s, s ∈ steps → s.In) {v0 v1 v2 v4 v5 v6 v7 v8 : Value} : Calls Tryz.prog 141 ⟨[.pointer (some ⟨g, 0, none⟩), .agg ⟨[v0, v1, v2, .slice A1 n1 c1, v4, v5, v6, v7, v8]⟩]⟩ W (RetD G H (IsSl tPort (sidePorts N steps))) := by
  have hl := hs.length
  refine enter Tryz.func141 rfl Tryz.ntmps141 (Nat.le_of_ble_eq_true rfl) hp (nx_seq (nx_region ?_))
  refine nx_op rfl (op_box rfl rfl (fun b3 => ?_))
  refine nv v_assign (nx_nil (nx_then (nx_seq (nx_region (nv v_assign (nx_nil (nx_then (nx_seq (nx_seq (nx_region (nv v_fieldAddr ?_)))))))))))
  refine nv v_load1_o (nv v_len (nv v_move (nx_nil (nx_then (nx_block ?_)))))
  refine nx_loop_v (σ := Nat × Option Addr × Nat × List (Nat × Obj) × Gh) [0, 1, 3, 4, 15, 16, 17] (fun s => [(18, .int .i64 (s.1 : Int)), (5, .slice s.2.1 (sidePorts N (steps.take s.1)).length s.2.2.1)]) (fun s => s.2.2.2.2) (fun s => s.2.2.2.1 ++ _) (fun s => G.le s.2.2.2.2 ∧ s.1 ≤ n1 ∧ OwnS tPort 71 s.2.2.2.2 (sidePorts N (steps.take s.1)) (.slice s.2.1 (sidePorts N (steps.take s.1)).length s.2.2.1) s.2.2.2.1) (fun s => n1 - s.1) (0, none, 0, [], G) (.cons rfl (.cons rfl (.cons rfl (.cons rfl (.cons rfl (.cons rfl (.cons rfl (.nil)))))))) ⟨rfl, rfl, trivial⟩ ⟨Gh.le.refl _, Nat.zero_le _, .nil rfl⟩ rfl rfl ?_
  rintro ⟨k, Ak, ck, Nk, G1⟩ ⟨le1, hk, o1⟩ K next
  dsimp only at le1 hk o1 ⊢
  refine nx_seq (nx_region (nv v_lss (nx_nil (nx_then (nx_seq ?_)))))
  refine nx_cond_dec rfl (fun c19 => ?_) (fun c19 => ?_)
  obtain ⟨x, rest, hd, hx⟩ := drop_of_lt (xs := steps) (k := k) (by omega)
  obtain ⟨xb, xo, xe, xk, xr, xf0, xf1, xf2⟩ := next_Step (hs.le le1) hd
  cases xe
  have hxi := hin x (List.mem_of_getElem? hx)
  have hxi1 := hxi.inn
  have hxi2 := hxi.out
  have hsn := sidePorts_snoc N (steps.take k) x
  rw [← take_snoc hx] at hsn
  have hpl := sidePorts_length N (steps.take k)
  rw [List.length_take] at hpl
  refine nx_skip (nx_then (nx_seq (nx_block (nx_seq (nx_region (nv (v_indexAddr_nat rfl rfl rfl (by omega)) (nv v_load_s ?_)))))))
  refine nx_op rfl (op_alloc rfl (fun b7 => ?_))
  refine st (k := nx_nil (nx_then (nx_seq (nx_region (nv v_assign (nx_nil (nx_then (nx_seq (nx_seq (nx_region (nv v_move ?_)))))))))))
  refine nv v_fieldAddr (nv v_load1_o ?_)
  refine nx_op rfl (op_callS rfl rfl rfl (fun W hp => kind_ok hp (h.le le1) x.elem) ?_)
  refine nx_nil (nx_then ?_)
  refine nx_join (σ := Option Addr × Nat × Gh) [0, 1, 3, 4, 5, 7, 15, 16, 17, 18, 19, 20, 21, 22, 23, 24] (fun z => [(8, .slice z.1 (sideEnds N x).length z.2.1)]) (fun z => z.2.2) (fun _ => (b7, row [.int .i64 x.elem, .int .i64 x.inn, .int .i64 x.out] 216) :: (Nk ++ (b3, row [v0, v1, v2, .slice (some ⟨xb, xo, none⟩) n1 c1, v4, v5, v6, v7, v8] 164) :: H)) (fun z => G1.le z.2.2 ∧ Sl tInt z.2.2 z.1 (sideEnds N x).length z.2.1 (sideEnds N x)) (.cons rfl (.cons rfl (.cons rfl (.cons rfl (.cons rfl (.cons rfl (.cons rfl (.cons rfl (.cons rfl (.cons rfl (.cons rfl (.cons rfl (.cons rfl (.cons rfl (.cons rfl (.cons rfl (.nil))))))))))))))))) ?_ ?_
  intro K4 next4
  refine nx_block (nx_seq (nx_region (nv v_eql (nv v_assign (nx_nil (nx_then ?_))))))
  refine nx_cond_dec rfl (fun c26 => ?_) (fun c26 => ?_)
  refine nx_seq (nx_region (nv v_fieldAddr (nv v_load1_o (nv v_fieldAddr (nv v_load1_o (nv v_max (nv v_assign (nx_nil (nx_then (nx_region (nv v_move ?_)))))))))))
  refine nv v_sub ?_
  refine nx_op rfl (op_buildSlice rfl rfl rfl rfl rfl (fun b35 => ?_))
  refine nv v_assign (nx_nil (nx_in _ (nx_then ?_)))
  have hE : sideEnds N x = [3 - max x.inn x.out] := if_pos c26
  refine nx_row (T := tInt) (l := [3 - max x.inn x.out]) (b := b35) (by repeat (first | exact Take.here | apply Take.cons | apply Take.app)) (rows_Int [3 - max x.inn x.out]) rfl (Nat.le_of_ble_eq_true rfl) (fun G9 le9 s9 => ?_)
  rw [hE] at next4
  exact nn (next4 (some ⟨b35, 0, none⟩, 1, G9) ⟨le9, s9⟩)
  refine nx_seq (nx_region (nv v_eql (nv v_assign (nx_nil (nx_then ?_)))))
  refine nx_cond_dec rfl (fun c36 => ?_) (fun c36 => ?_)
  refine nx_seq (nx_region ?_)
  refine nx_op rfl (op_buildSlice rfl rfl rfl rfl rfl (fun b38 => ?_))
  refine nv v_assign (nx_nil (nx_then (nx_seq (nx_region (nv v_fieldAddr (nv v_load1_o (nv v_gtr (nx_nil (nx_then ?_)))))))))
  refine nx_cond_dec rfl (fun c41 => ?_) (fun c41 => ?_)
  refine nx_region ?_
  refine nx_op rfl (op_buildSlice rfl rfl rfl rfl rfl (fun b42 => ?_))
  refine nv v_assign (nx_nil (nx_in _ (nx_then ?_)))
  have hE : sideEnds N x = [0, 1] := by unfold sideEnds; rw [if_neg c26, if_pos c36, if_pos c41]
  refine nx_row (T := tInt) (l := [0, 1]) (b := b42) (by repeat (first | exact Take.here | apply Take.cons | apply Take.app)) (rows_Int [0, 1]) rfl (Nat.le_of_ble_eq_true rfl) (fun G9 le9 s9 => ?_)
  rw [hE] at next4
  exact nn (next4 (some ⟨b42, 0, none⟩, 2, G9) ⟨le9, s9⟩)
  refine nx_skip (nx_in _ (nx_then ?_))
  have hE : sideEnds N x = [2, 3] := by unfold sideEnds; rw [if_neg c26, if_pos c36, if_neg c41]
  refine nx_row (T := tInt) (l := [2, 3]) (b := b38) (by repeat (first | exact Take.here | apply Take.cons | apply Take.app)) (rows_Int [2, 3]) rfl (Nat.le_of_ble_eq_true rfl) (fun G9 le9 s9 => ?_)
  rw [hE] at next4
  exact nn (next4 (some ⟨b38, 0, none⟩, 2, G9) ⟨le9, s9⟩)
  refine nx_skip (nx_in _ (nx_then ?_))
  have hE : sideEnds N x = [] := by unfold sideEnds; rw [if_neg c26, if_neg c36]
  rw [hE] at next4
  exact nn (next4 (none, 0, G1) ⟨Gh.le.refl _, Sl.nil _ _⟩)
  rintro ⟨Ae, ce, G2⟩ ⟨le2, se⟩
  dsimp only at le2 se ⊢
  have hel := sideEnds_length N x
  refine nx_seq (nx_region (nv v_move (nv v_len (nv v_move (nx_nil (nx_then (nx_block (np (N := Nk) (k := ?_)))))))))
  refine nx_loop_v (σ := Nat × Option Addr × Nat × List (Nat × Obj)) [0, 1, 3, 4, 7, 8, 15, 16, 17, 18, 19, 20, 21, 22, 23, 24, 43, 44] (fun s => [(45, .int .i64 (s.1 : Int)), (5, .slice s.2.1 (sidePorts N (steps.take k) ++ portsOf N x.elem ((sideEnds N x).take s.1)).length s.2.2.1)]) (fun _ => G2) (fun s => s.2.2.2 ++ _) (fun s => s.1 ≤ (sideEnds N x).length ∧ OwnS tPort 71 G2 (sidePorts N (steps.take k) ++ portsOf N x.elem ((sideEnds N x).take s.1)) (.slice s.2.1 (sidePorts N (steps.take k) ++ portsOf N x.elem ((sideEnds N x).take s.1)).length s.2.2.1) s.2.2.2) (fun s => (sideEnds N x).length - s.1) (0, Ak, ck, Nk) (.cons rfl (.cons rfl (.cons rfl (.cons rfl (.cons rfl (.cons rfl (.cons rfl (.cons rfl (.cons rfl (.cons rfl (.cons rfl (.cons rfl (.cons rfl (.cons rfl (.cons rfl (.cons rfl (.cons rfl (.cons rfl (.nil))))))))))))))))))) ⟨rfl, (by simp [portsOf]; rfl), trivial⟩ ⟨Nat.zero_le _, (by simpa [portsOf] using o1.le le2)⟩ rfl rfl ?_
  rintro ⟨j, Aj, cj, Nj⟩ ⟨hj, oj⟩ K2 next2
  dsimp only at hj oj ⊢
  refine nx_seq (nx_region (nv v_lss (nx_nil (nx_then (nx_seq ?_)))))
  refine nx_cond_dec rfl (fun c46 => ?_) (fun c46 => ?_)
  obtain ⟨e, erest, hde, he⟩ := drop_of_lt (xs := sideEnds N x) (k := j) (by omega)
  obtain ⟨eb, eo, ee, ek, er, ef0⟩ := next_Int se hde
  cases ee
  have hps := portsOf_snoc N x.elem ((sideEnds N x).take j) e
  rw [← take_snoc he] at hps
  have hpol : (portsOf N x.elem ((sideEnds N x).take j)).length ≤ 2 := by
    unfold portsOf
    have h1 := List.length_filter_le (fun x => (getK N.next x).isSome) (((sideEnds N x).take j).map fun i => (⟨x.elem, i⟩ : Port))
    rw [List.length_map, List.length_take] at h1; omega
  refine nx_skip (nx_then (nx_seq (nx_block (nx_seq (nx_region (nv (v_indexAddr_nat rfl rfl rfl (by omega)) (nv v_load1_s (nv v_assign (nx_nil (nx_then (nx_seq ?_)))))))))))
  refine nx_region (nv v_fieldAddr (nv v_load1_o (nv v_move (nv (v_build rfl rfl rfl) ?_))))
  refine nx_op rfl (op_alloc rfl (fun b12 => ?_))
  refine st (k := nx_nil (nx_then (nx_seq (nx_region (nv v_move (nv v_load_o ?_))))))
  refine nx_op rfl (op_callS rfl rfl rfl (fun W hp => next_ok hp (h.le (Gh.le.trans le1 le2)) ⟨x.elem, e⟩) ?_)
  refine nv v_move (nv (v_extract rfl rfl rfl) (nv (v_extract rfl rfl rfl) ?_))
  refine nx_op rfl (op_alloc rfl (fun b13 => ?_))
  refine st (k := nv v_assign (nx_nil (nx_then (nx_seq (nx_region (nv v_move (nx_nil (nx_then ?_))))))))
  refine nx_cond rfl (fun c59 => ?_) (fun c59 => ?_)
  rw [if_pos c59] at hps
  refine nx_region (nv v_move (nv v_load_o ?_))
  refine nx_op rfl (op_buildSlice rfl rfl rfl rfl rfl (fun b62 => ?_))
  refine nx_op rfl (op_app (T := tPort) rfl rfl rfl oj (by repeat (first | exact Pull.here | apply Pull.cons | apply Pull.app)) (Src.row List.mem_cons_self (rows_Port [⟨x.elem, e⟩]) rfl) (by simp; omega) (by simp [maxLen]; omega) (fun A63 c63 N63 o63 hc63 => ?_))
  refine nv v_assign (nx_nil (nx_in _ (nx_then (nx_region (nv v_add (nv v_move (nx_nil (nx_then ?_))))))))
  rw [List.append_assoc, ← hps] at o63 ⊢
  exact nn (next2 (j + 1, A63, c63, N63) ⟨(by dsimp only; omega), o63⟩ (by dsimp only; omega))
  rw [if_neg (by rw [c59]; simp)] at hps
  refine nx_skip (nx_in _ (nx_then (nx_region (nv v_add (nv v_move (nx_nil (nx_then ?_)))))))
  rw [← hps] at oj ⊢
  exact nn (next2 (j + 1, Aj, cj, Nj) ⟨(by dsimp only; omega), oj⟩ (by dsimp only; omega))
  refine nx_exit (nx_then_exit (nx_then_exit (nx_in_eq (nx_in _ (nx_then (nx_region (nv v_add (nv v_move (nx_nil (nx_then ?_))))))))))
  obtain rfl : j = (sideEnds N x).length := by omega
  rw [List.take_of_length_le (Nat.le_refl _), show portsOf N x.elem (sideEnds N x) = sideOf N x from rfl, ← hsn] at oj ⊢
  exact nn (next (k + 1, Aj, cj, Nj, _) ⟨(Gh.le.trans le1 le2), (by dsimp only; omega), oj⟩ (by dsimp only; omega))
  obtain rfl : k = n1 := by omega
  rw [List.take_of_length_le (by omega)] at o1 ⊢
  refine nx_exit (nx_then_exit (nx_then_exit (nx_in_eq (nx_then (nx_seq (nx_region (nv v_move (nv v_assign (nx_nil (nx_then (nx_ret ?_)))))))))))
  refine nx_still o1 (by repeat (first | exact Pull.here | apply Pull.cons | apply Pull.app)) (fun G9 A9 c9 le9 hv9 hs9 => ?_)
  cases hv9
  exact nx_ret1 rfl (.tmp rfl) (rt (Gh.le.trans le1 le9) (IsSl.of hs9))
end Go.Proofs.YtjckojnlapchoaaGreat
