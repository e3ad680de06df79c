/- Part 10 of a proof of a law over the program: World1, World2, World3. Conditions: none beyond what each statement says. -/
import Derived.Test.YtjckojnlapchoaaGreatQ09
set_option linter.unusedVariables false
set_option linter.unusedSimpArgs false
open Go Go.RowKit
namespace Go.Proofs.YtjckojnlapchoaaGreat
open Go.Proofs
def fieldZ : List Value := .pointer none :: ((List.replicate 40 [Value.int .i64 0, .int .i64 0, .int .i64 0, .bool false, .bool false]).flatten ++ List.replicate 64 (.bool false))
instance : AggT Tryz.prog 191 265 := ⟨Tryz.isAgg191, Tryz.sizeOf191⟩
set_option maxRecDepth 20000 in
instance : VarT Tryz.prog 191 fieldZ := ⟨fun W => ⟨_, Tryz.zeroValue191 W, rfl⟩, Tryz.sizeOf191⟩
instance : FldA Tryz.prog 191 1 1 := ⟨fun b o W => by simp [Instr.fieldAt, Instr.sureAddr, fieldPlace, go_sem, add_plain]⟩
instance : StructT Tryz.prog 191 [(0, 1), (1, 200), (201, 40), (241, 24)] := ⟨_, Tryz.underlying191, fun W => by simp [go_sem]⟩
def fieldRow (g : Nat) : List Value := fieldZ.set 0 (.pointer (some ⟨g, 0, none⟩))
set_option maxRecDepth 20000 in
theorem fieldRow_length (g : Nat) : (fieldRow g).length = 265 := rfl
set_option maxRecDepth 20000 in
theorem fieldRow_fill (g : Nat) : fillL [(0, 1), (1, 200), (201, 40), (241, 24)] fieldZ [(0, .pointer (some ⟨g, 0, none⟩))] = some (fieldRow g) := rfl
def IsPtr (_ : Gh) (v : Value) : Prop := ∃ b, v = .pointer (some ⟨b, 0, none⟩)
set_option maxRecDepth 20000 in
set_option maxHeartbeats 1000000 in
theorem fieldNew_ok {G : Gh} {H : List (Nat × Obj)} {W : World} (hp : Hp G H W) {g : Nat} {N : NetD} (h : NetAt G g N) (hN : N.Ok) : Calls Tryz.prog 50 ⟨[.pointer (some ⟨g, 0, none⟩)]⟩ W (RetD G H IsPtr) := by
  have hsm := hN.small.elems
  refine enter Tryz.func50 rfl Tryz.ntmps50 (Nat.le_of_ble_eq_true rfl) hp (nx_seq (nx_region (nv v_assign (nx_nil (nx_then (nx_seq (nx_region (nv v_move (nv (v_build rfl rfl (fieldRow_fill g)) ?_)))))))))
  refine nx_op rfl (op_box rfl rfl (fun b7 => ?_))
  refine nv v_assign (nx_nil (nx_then (nx_seq (nx_seq (nx_region (nv v_move ?_))))))
  refine nx_op rfl (op_callS rfl rfl rfl (fun W hp => len_ok hp h) ?_)
  refine nv v_move (nx_nil (nx_then (nx_block ?_)))
  refine nx_loop_v (σ := Nat × List Value) [0, 2, 3, 5, 6, 7, 8, 9] (fun s => [(10, .int .i64 (s.1 : Int))]) (fun _ => G) (fun s => (b7, row s.2 191) :: _) (fun s => s.2.length = 265) (fun s => N.p.elems.length - s.1) (0, fieldRow g) (.cons rfl (.cons rfl (.cons rfl (.cons rfl (.cons rfl (.cons rfl (.cons rfl (.cons rfl (.nil))))))))) ⟨rfl, trivial⟩ (fieldRow_length g) rfl rfl ?_
  rintro ⟨k, l⟩ hl K next
  dsimp only at hl ⊢
  refine nx_seq (nx_region (nv v_lss (nx_nil (nx_then (nx_seq ?_)))))
  refine nx_cond_dec rfl (fun c11 => ?_) (fun c11 => ?_)
  refine nx_skip (nx_then (nx_seq (nx_block (nx_seq (nx_region (nv v_move (nv v_assign (nx_nil (nx_then (nx_seq (nx_region ?_)))))))))))
  refine nv v_move (nv v_move ?_)
  refine nx_op rfl (op_callS rfl rfl rfl (fun W hp => kind_ok hp h (k : Int)) ?_)
  refine nv v_eql (nx_nil (nx_then ?_))
  refine nx_cond_dec rfl (fun c16 => ?_) (fun c16 => ?_)
  refine nx_region (nv v_move (nv v_move (nv v_nilCheck (nv v_fieldAddr (nv (v_indexAddrA rfl rfl rfl (by omega)) (nv v_fieldAddr ?_))))))
  refine nx_op rfl (op_sto rfl rfl rfl rfl rfl (.here (setEs_one (by omega))) ?_)
  refine nx_nil (nx_in _ (nx_then (nx_region (nv v_add (nv v_move (nx_nil (nx_then ?_)))))))
  refine nn (next (k + 1, l.set _ _) (by simp only [List.length_set]; exact hl) (by dsimp only; omega))
  refine nx_skip (nx_in _ (nx_then (nx_region (nv v_add (nv v_move (nx_nil (nx_then ?_)))))))
  exact nn (next (k + 1, l) hl (by dsimp only; omega))
  refine nx_exit (nx_then_exit (nx_then_exit (nx_in_eq (nx_then (nx_seq (nx_region (nv v_move (nv v_assign (nx_nil (nx_then (nx_ret ?_)))))))))))
  exact nx_ret1 rfl (.tmp rfl) (rt ((Gh.le.refl _)) ⟨b7, rfl⟩)
set_option maxRecDepth 20000 in
set_option maxHeartbeats 1000000 in
theorem lockNew_ok {G : Gh} {H : List (Nat × Obj)} {W : World} (hp : Hp G H W) (n : Int) : Calls Tryz.prog 100 ⟨[.int .i64 n]⟩ W (RetD G H IsPtr) := by
  refine enter Tryz.func100 rfl Tryz.ntmps100 (Nat.le_of_ble_eq_true rfl) hp (nx_seq (nx_region (nv v_assign (nx_nil (nx_then (nx_seq (nx_region (nv v_move (nv v_min (nv v_max ?_))))))))))
  refine nx_op rfl (op_makeMap rfl (fun b6 => ?_))
  refine nx_op rfl (op_makeMap rfl (fun b7 => ?_))
  refine nx_op rfl (op_makeMap rfl (fun b8 => ?_))
  refine nx_op rfl (op_makeMap rfl (fun b9 => ?_))
  refine nv (v_build rfl rfl rfl) ?_
  refine nx_op rfl (op_box rfl rfl (fun b11 => ?_))
  refine nv v_assign (nx_nil (nx_then (nx_ret ?_)))
  exact nx_ret1 rfl (.tmp rfl) (rt ((Gh.le.refl _)) ⟨b11, rfl⟩)
set_option maxRecDepth 20000 in
set_option maxHeartbeats 1000000 in
theorem tokenNew_ok {G : Gh} {H : List (Nat × Obj)} {W : World} (hp : Hp G H W) {g : Nat} {N : NetD} (h : NetAt G g N) : Calls Tryz.prog 101 ⟨[.pointer (some ⟨g, 0, none⟩)]⟩ W (RetD G H IsPtr) := by
  refine enter Tryz.func101 rfl Tryz.ntmps101 (Nat.le_of_ble_eq_true rfl) hp (nx_seq (nx_region (nv v_assign (nx_nil (nx_then (nx_seq (nx_region (nv v_move ?_))))))))
  refine nx_op rfl (op_makeMap rfl (fun b4 => ?_))
  refine nv (v_build rfl rfl rfl) ?_
  refine nx_op rfl (op_box rfl rfl (fun b6 => ?_))
  refine nv v_assign (nx_nil (nx_then (nx_ret ?_)))
  exact nx_ret1 rfl (.tmp rfl) (rt ((Gh.le.refl _)) ⟨b6, rfl⟩)
end Go.Proofs.YtjckojnlapchoaaGreat
open Go Go.RowKit
namespace Go.Proofs.YtjckojnlapchoaaGreat
open Go.Proofs
def namedBad (n : Int) (t : Train) : Bool := !nameOk t.name || decide (t.stock < 0) || decide (n ≤ t.stock)
def namedF (n : Int) : List Train → List Train → Int → Int
  | _, [], e => e
  | pre, t :: r, e => if namedBad n t then 1 else namedF n (pre ++ [t]) r (if pre.any (fun x => decide (x.name = t.name)) then 4 else e)
def named (n : Int) (l : List Train) : Int := if 8 < l.length then 3 else namedF n [] l 0
set_option maxRecDepth 20000 in
set_option maxHeartbeats 1000000 in
theorem named1_ok {G : Gh} {H : List (Nat × Obj)} {W : World} (hp : Hp G H W) (x t : Train) {q : Nat} (hm : (q, row t.cells 73) ∈ H) : Calls Tryz.prog 107 ⟨[.agg ⟨x.cells⟩, .pointer (some ⟨q, 0, none⟩)]⟩ W (RetS G H (.bool (decide (x.name = t.name)))) := by
  refine enter Tryz.func107 rfl Tryz.ntmps107 (Nat.le_of_ble_eq_true rfl) hp (nx_seq (nx_region ?_))
  refine nx_op rfl (op_box rfl rfl (fun b2 => ?_))
  refine nv v_assign (nx_nil (nx_then (nx_seq (nx_region (nv v_fieldAddr (nv v_load1_o (nv v_fieldAddr (nv (v_load1 rfl rfl (Rd.own (List.mem_cons_of_mem _ hm) rfl)) (nv v_eql_str (nv v_assign (nx_nil ?_)))))))))))
  refine nx_then (nx_ret ?_)
  exact nx_ret1 rfl (.tmp rfl) (rs (rfl))
set_option maxRecDepth 20000 in
set_option maxHeartbeats 1000000 in
theorem named_ok {G : Gh} {H : List (Nat × Obj)} {W : World} (hp : Hp G H W) {S : Option Addr} {sn sc : Nat} {kinds : List Stock} (hk : Sl tStock G S sn sc kinds) {A : Option Addr} {n c : Nat} {l : List Train} (hs : Sl tTrain G A n c l) : Calls Tryz.prog 49 ⟨[.slice S sn sc, .slice A n c]⟩ W (RetD G H (fun _ v => v = .int .i64 (named kinds.length l))) := by
  have hl := hs.length
  have hcap := hs.cap
  have hkl := hk.length
  refine enter Tryz.func49 rfl Tryz.ntmps49 (Nat.le_of_ble_eq_true rfl) hp (nx_seq (nx_region (nv v_assign (nx_nil (nx_then (nx_seq (nx_seq (nx_region (nv v_move (nv v_len (nv v_gtr ?_)))))))))))
  refine nx_nil (nx_then ?_)
  refine nx_cond_dec rfl (fun c10 => ?_) (fun c10 => ?_)
  have hres : named kinds.length l = 3 := if_pos (by omega)
  refine nx_seq (nx_region (nv v_assign (nx_nil (nx_then (nx_ret (nx_then_ret ?_))))))
  exact nx_ret1 rfl (.tmp rfl) (rt ((Gh.le.refl _)) (by rw [hres]))
  have hyes : named kinds.length l = namedF kinds.length [] l 0 := if_neg (by omega)
  refine nx_skip (nx_then (nx_seq (nx_region (nv v_assign (nx_nil (nx_then (nx_seq (nx_seq (nx_region (nv v_move (nv v_len ?_)))))))))))
  refine nv v_move (nx_nil (nx_then (nx_block ?_)))
  refine nx_loop_v (σ := Nat × Int × Gh) [0, 1, 8, 9, 10, 11, 12] (fun s => [(13, .int .i64 (s.1 : Int)), (5, .int .i64 s.2.1)]) (fun s => s.2.2) (fun _ => _) (fun s => G.le s.2.2 ∧ s.1 ≤ n ∧ namedF kinds.length (l.take s.1) (l.drop s.1) s.2.1 = named kinds.length l) (fun s => n - s.1) (0, 0, G) (.cons rfl (.cons rfl (.cons rfl (.cons rfl (.cons rfl (.cons rfl (.cons rfl (.nil)))))))) ⟨rfl, rfl, trivial⟩ ⟨Gh.le.refl _, Nat.zero_le _, hyes.symm⟩ rfl rfl ?_
  rintro ⟨k, e, G1⟩ ⟨le1, hk, hI⟩ K next
  dsimp only at le1 hk hI ⊢
  refine nx_seq (nx_region (nv v_lss (nx_nil (nx_then (nx_seq ?_)))))
  refine nx_cond_dec rfl (fun c14 => ?_) (fun c14 => ?_)
  obtain ⟨x, rest, hd, hx⟩ := drop_of_lt (xs := l) (k := k) (by omega)
  obtain ⟨xb, xo, xe, xk, xr, xf0, xf1, xf2, xf3, xf4⟩ := next_Train (hs.le le1) hd
  cases xe
  rw [hd] at hI
  simp only [namedF] at hI
  refine nx_skip (nx_then (nx_seq (nx_block (nx_seq (nx_region (nv v_move (nv (v_indexAddr_nat rfl rfl rfl (by omega)) (nv v_load_s ?_))))))))
  refine nx_op rfl (op_alloc rfl (fun b7 => ?_))
  refine nv v_assign (st (k := nx_nil (nx_then (nx_seq (nx_seq (nx_region (nv v_fieldAddr (nv v_load1_o ?_))))))))
  refine nx_op rfl (op_callS rfl rfl rfl (fun W hp => name_ok hp x.name) ?_)
  refine nv v_not (nv v_move ?_)
  refine nx_guard (t := 22) rfl (fun g22 => ?_) (fun g22 => ?_)
  refine nk (k := nk (k := nk (k := nv v_pick_t (nv v_move (nk (k := nk (k := nk (k := nk (k := nk (k := nv v_pick_t (nx_nil ?_)))))))))))
  refine nx_then (nx_cond_t rfl ?_)
  have hres : named kinds.length l = 1 := by rw [← hI, if_pos (by unfold namedBad; rw [hkl]; (simp_all; done))]
  refine nx_seq (nx_region (nv v_assign (nx_nil (nx_then (nx_ret (nx_then_ret (nx_in_ret (nx_then_ret (nx_then_ret (nx_in_ret (nx_then_ret ?_)))))))))))
  exact nx_ret1 rfl (.tmp rfl) (rt (le1) (by rw [hres]))
  refine nr v_fieldAddr (nr v_load1_o (nr v_lss (nv v_pick_f (nv v_move ?_))))
  refine nx_guard_dec (t := 27) rfl (fun g27 => ?_) (fun g27 => ?_)
  refine nk (k := nk (k := nk (k := nk (k := nk (k := nv v_pick_t (nx_nil (nx_then (nx_cond_t rfl ?_))))))))
  have hres : named kinds.length l = 1 := by rw [← hI, if_pos (by unfold namedBad; rw [hkl]; (simp_all; done))]
  refine nx_seq (nx_region (nv v_assign (nx_nil (nx_then (nx_ret (nx_then_ret (nx_in_ret (nx_then_ret (nx_then_ret (nx_in_ret (nx_then_ret ?_)))))))))))
  exact nx_ret1 rfl (.tmp rfl) (rt (le1) (by rw [hres]))
  refine nr v_fieldAddr (nr v_load1_o (nr v_move (nr v_len (nr v_geq (nv v_pick_f (nx_nil (nx_then ?_)))))))
  refine nx_cond_dec rfl (fun c33 => ?_) (fun c33 => ?_)
  have hres : named kinds.length l = 1 := by rw [← hI, if_pos (by unfold namedBad; rw [hkl]; (simp_all; done))]
  refine nx_seq (nx_region (nv v_assign (nx_nil (nx_then (nx_ret (nx_then_ret (nx_in_ret (nx_then_ret (nx_then_ret (nx_in_ret (nx_then_ret ?_)))))))))))
  exact nx_ret1 rfl (.tmp rfl) (rt (le1) (by rw [hres]))
  rw [if_neg (by unfold namedBad; rw [hkl]; (simp_all; done))] at hI
  refine nx_skip (nx_then (nx_seq (nx_region (nv v_move (nv v_move (nv (v_slice_hi (h := k) rfl rfl rfl (by omega)) (nv v_makeFunc ?_)))))))
  refine nx_op rfl (op_callD rfl rfl rfl (fun W hp => containsFunc_Train hp ((hs.le le1).take hk) (fun y => decide (y.name = x.name)) (fst := []) (cap := [.pointer (some ⟨b7, 0, none⟩)]) (fun y _ => fun G' H' W' hl hs' hp' => RetS.toD (named1_ok hp' y x (hs'.sublist.subset List.mem_cons_self)))) (fun v38 G38 le38 ph38 => ?_))
  subst ph38
  refine nx_nil (nx_then ?_)
  refine nx_cond rfl (fun c38 => ?_) (fun c38 => ?_)
  rw [if_pos c38] at hI
  refine nx_region (nv v_assign (nx_nil (nx_in _ (nx_then (nx_region (nv v_add (nv v_move (nx_nil (nx_then ?_)))))))))
  exact nn (next (k + 1, 4, _) ⟨(Gh.le.trans le1 le38), (by dsimp only; omega), (by rw [xr, take_snoc hx]; exact hI)⟩ (by dsimp only; omega))
  rw [if_neg (by simpa using c38)] at hI
  refine nx_skip (nx_in _ (nx_then (nx_region (nv v_add (nv v_move (nx_nil (nx_then ?_)))))))
  exact nn (next (k + 1, e, _) ⟨(Gh.le.trans le1 le38), (by dsimp only; omega), (by rw [xr, take_snoc hx]; exact hI)⟩ (by dsimp only; omega))
  have hres : named kinds.length l = e := by rw [← hI, List.drop_eq_nil_of_le (by omega)]; rfl
  refine nx_exit (nx_then_exit (nx_then_exit (nx_in_eq (nx_then (nx_seq (nx_region (nv v_move (nv v_assign (nx_nil (nx_then (nx_ret ?_)))))))))))
  exact nx_ret1 rfl (.tmp rfl) (rt (le1) (by rw [hres]))
set_option maxRecDepth 20000 in
set_option maxHeartbeats 1000000 in
theorem cloneO_Body {G : Gh} {H : List (Nat × Obj)} {W : World} (hp : Hp G H W) {A : Option Addr} {n c : Nat} {l : List Body} (hs : Sl tBody G A n c l) (hb : n * 56 ≤ 140737488355328) : Calls Tryz.prog 148 ⟨[.slice A n c]⟩ W (Ret G (fun G' H' v => ∃ N, H' = N ++ H ∧ OwnS tBody 33 G' l v N)) := by
  have hl := hs.length
  have hbb := Nat.le_trans hs.cap hs.room
  refine enter Tryz.func148 rfl Tryz.ntmps148 (Nat.le_of_ble_eq_true rfl) hp (nx_seq (nx_region (nv v_assign (nx_nil (nx_then (nx_seq (nx_seq (nx_region (nv v_move (nv v_eql_nil (nx_nil ?_)))))))))))
  refine nx_then ?_
  refine nx_cond rfl (fun c4 => ?_) (fun c4 => ?_)
  have hl0 : l = [] := by
    rcases Nat.eq_zero_or_pos c with h0 | h0
    · have := hs.cap; exact List.length_eq_zero_iff.1 (by omega)
    · obtain ⟨b, o, rfl, _⟩ := hs.at_ h0; simp at c4
  subst hl0
  refine nx_seq (nx_region (nv v_assign (nx_nil (nx_then (nx_ret (nx_then_ret ?_))))))
  exact nx_ret1 rfl (.tmp rfl) (fun W hp => ⟨_, G, [] ++ H, rfl, Gh.le.refl _, ⟨[], rfl, .nil rfl⟩, Suf.hp (by repeat (first | exact Suf.refl | apply Suf.keep | apply Suf.cons | apply Suf.keepN | apply Suf.app)) hp⟩)
  refine nx_skip (nx_then (nx_seq (nx_region ?_)))
  refine nx_op rfl (op_buildSlice0 rfl (fun b5 => ?_))
  refine nv v_move ?_
  refine nx_op rfl (op_append (T := tBody) rfl rfl rfl (OwnS.row0 (b := b5)) (N := [(b5, row [] _)]) (by exact Pull.here) (Src.still (hs.le (Gh.le.refl _))) (by simp; omega) (by simp [maxLen]; omega) (fun v7 N7 o7 => ?_))
  refine nv v_assign (nx_nil (nx_then (nx_ret ?_)))
  exact nx_ret1 rfl (.tmp rfl) (fun W hp => ⟨_, G, N7 ++ H, rfl, Gh.le.refl _, ⟨N7, rfl, o7⟩, Suf.hp (by repeat (first | exact Suf.refl | apply Suf.keep | apply Suf.cons | apply Suf.keepN | apply Suf.app)) hp⟩)
set_option maxRecDepth 20000 in
set_option maxHeartbeats 1000000 in
theorem twins_ok {G : Gh} {H : List (Nat × Obj)} {W : World} (hp : Hp G H W) {A : Option Addr} {n c : Nat} {l : List Body} (hs : Sl tBody G A n c l) (hn : n ≤ 100) (hfew : ∀ b, b ∈ l → b.trail.length ≤ 1000000) : Calls Tryz.prog 89 ⟨[.slice A n c]⟩ W (RetD G H (IsSl tBody l)) := by
  have hl := hs.length
  refine enter Tryz.func89 rfl Tryz.ntmps89 (Nat.le_of_ble_eq_true rfl) hp (nx_seq (nx_region (nv v_assign (nx_nil (nx_then (nx_seq (nx_region (nv v_move ?_))))))))
  refine nx_op rfl (op_callR rfl rfl rfl (fun W hp => cloneO_Body hp hs (by omega)) (fun v6 G6 H6 le6 ph6 => ?_))
  obtain ⟨N6, rfl, o6⟩ := ph6
  obtain ⟨A6, d6, hv6, _⟩ := o6.val
  subst hv6
  refine nv v_assign (nx_nil (nx_then (nx_seq (nx_seq (nx_region (nv v_move (nv v_len (nv v_move (nx_nil (nx_then (nx_block ?_)))))))))))
  refine nx_loop_v (σ := Nat × Gh × List (Nat × Obj)) [0, 2, 3, 5, 6, 7, 8] (fun s => [(9, .int .i64 (s.1 : Int))]) (fun s => s.2.1) (fun s => s.2.2 ++ _) (fun s => G6.le s.2.1 ∧ OwnS tBody 33 s.2.1 l (.slice A6 l.length d6) s.2.2) (fun s => l.length - s.1) (0, G6, N6) (.cons rfl (.cons rfl (.cons rfl (.cons rfl (.cons rfl (.cons rfl (.cons rfl (.nil)))))))) ⟨rfl, trivial⟩ ⟨Gh.le.refl _, o6⟩ rfl rfl ?_
  rintro ⟨k, G1, N⟩ ⟨le1, ho⟩ K next
  dsimp only at le1 ho ⊢
  refine nx_seq (nx_region (nv v_lss (nx_nil (nx_then (nx_seq ?_)))))
  refine nx_cond_dec rfl (fun c10 => ?_) (fun c10 => ?_)
  obtain ⟨x, rest, hd, hx⟩ := drop_of_lt (xs := l) (k := k) (by omega)
  obtain ⟨b, c, cs, r, hv, rfl, hR, hlen, hfit, hcs⟩ := ho.get hx
  cases hv
  obtain ⟨Ax, nx, cx, rfl, xat⟩ := hR
  have hxf := hfew x (List.mem_of_getElem? hx)
  have hxl := xat.h1.length
  have e0 : 0 + k * 5 + 1 = k * tBody.sz + 1 := by rw [Nat.zero_add]; rfl
  refine nx_skip (nx_then (nx_seq (nx_block (nx_seq (nx_region (nv v_move (nv v_assign (nx_nil (nx_then (nx_region (nv v_move ?_)))))))))))
  refine nv v_move (nv v_move (nv v_move (nv (v_indexAddr_nat rfl rfl rfl (by omega)) (nv v_fieldAddr ?_))))
  refine nv (v_load1_o rfl rfl (OwnAt.one (v := .slice Ax nx cx) (by rw [e0]; exact hcs 1 _ rfl))) ?_
  refine nx_op rfl (op_callD rfl rfl rfl (fun W hp => clone_Port hp xat.h1 (by omega)) (fun v19 G19 le19 ph19 => ?_))
  obtain ⟨B19, d19, rfl, q19⟩ := ph19
  refine nv (v_indexAddr_nat rfl rfl rfl (by omega)) (nv v_fieldAddr ?_)
  refine nx_op rfl (op_sto rfl rfl rfl rfl rfl (UpdS.here (by rw [e0]; exact setEs_one (by simp only [tBody] at hfit ⊢; omega))) ?_)
  refine nx_nil (nx_in _ (nx_then (nx_region (nv v_add (nv v_move (nx_nil (nx_then ?_)))))))
  have ho' := (ho.le le19).set1 (k := k) (j := 1) (x := x) (v := .slice B19 x.trail.length d19) (List.getElem?_eq_some_iff.1 hx).1 hcs hlen (by decide) hfit ⟨B19, _, d19, rfl, ⟨q19⟩⟩
  rw [set_self hx] at ho'
  exact nn (next (k + 1, G19, _) ⟨(Gh.le.trans le1 le19), ho'⟩ (by dsimp only; omega))
  refine nx_exit (nx_then_exit (nx_then_exit (nx_in_eq (nx_then (nx_seq (nx_region (nv v_move (nv v_assign (nx_nil (nx_then (nx_ret ?_)))))))))))
  refine nx_still ho (by repeat (first | exact Pull.here | apply Pull.cons | apply Pull.app)) (fun G99 A9 d9 le99 hv9 hs9 => ?_)
  cases hv9
  exact nx_ret1 rfl (.tmp rfl) (rt (Gh.le.trans (Gh.le.trans le6 le1) le99) (IsSl.of hs9))
end Go.Proofs.YtjckojnlapchoaaGreat
open Go Go.RowKit
namespace Go.Proofs.YtjckojnlapchoaaGreat
open Go.Proofs
def startsF (N : NetD) : List Stock → List Train → List Body → Int × List Body
  | s :: ss, t :: ts, acc => if ¬ N.startErr s.len t = 0 then (N.startErr s.len t, acc) else startsF N ss ts (acc ++ [N.start s.len t])
  | _, _, acc => (0, acc)
def metE : List Int → List Bool → Option (List Bool)
  | [], ms => some ms
  | e :: r, ms => if (ms[e.toNat]?).getD false then none else metE r (ms.set e.toNat true)
def metBods (N : NetD) : List Body → List Bool → Option (List Bool)
  | [], ms => some ms
  | b :: r, ms => match metE (lies N.p b) ms with
    | none => none
    | some m => metBods N r m
def beginErr (N : NetD) (stock : List Stock) (trains : List Train) : Int :=
  let q := startsF N stock trains []
  if ¬ q.1 = 0 then q.1 else match metBods N q.2 (List.replicate N.p.elems.length false) with
    | none => 18
    | some _ => 0
theorem keepF_mem {e : Int} : ∀ {p : Option Int} {l : List Int}, e ∈ keepF p l → e ∈ l
  | _, [], h => by simp [keepF] at h
  | p, x :: r, h => by
    unfold keepF at h
    split at h
    · exact List.mem_cons_of_mem _ (keepF_mem h)
    · rcases List.mem_cons.1 h with h | h
      · exact h ▸ List.mem_cons_self
      · exact List.mem_cons_of_mem _ (keepF_mem h)
theorem lies_mem {p : Plan} {b : Body} {e : Int} (h : e ∈ lies p b) : ∃ x, x ∈ b.trail ∧ x.elem = e ∧ ¬ p.kind x.elem = 4 := by
  have h1 := (isort_perm _).mem_iff.1 (keepF_mem h)
  simp only [liesRaw, List.mem_map, List.mem_filter, decide_eq_true_eq] at h1
  obtain ⟨x, ⟨hx, hk⟩, rfl⟩ := h1
  exact ⟨x, hx, rfl, hk⟩
theorem kind_in {p : Plan} {e : Int} (h : ¬ p.kind e = 0) : 0 ≤ e ∧ e < (p.elems.length : Int) := by
  unfold Plan.kind Plan.elem at h
  split at h
  · simp [noElem] at h
  · rename_i hn
    refine ⟨by omega, ?_⟩
    cases hx : p.elems[e.toNat]? with
    | none => rw [hx] at h; simp [noElem] at h
    | some x => have := (List.getElem?_eq_some_iff.1 hx).1; omega
structure BegOk (p : Plan) (b : Body) : Prop where
  few : b.trail.length ≤ 1
  inn : ∀ e, e ∈ lies p b → 0 ≤ e ∧ e < (p.elems.length : Int)
theorem start_begOk {N : NetD} {len : Int} {t : Train} (h : N.startErr len t = 0) : BegOk N.p (N.start len t) := by
  have hk : N.p.kind t.at_.elem = 4 ∨ N.p.kind t.at_.elem = 1 := by
    unfold NetD.startErr at h
    simp only at h
    split at h
    · cases h
    · omega
  have hst : N.start len t = ⟨if N.p.kind t.at_.elem = 4 then 1 else 2, [t.at_], t.left, 0, 0⟩ := if_pos h
  refine ⟨by rw [hst]; simp, fun e he => ?_⟩
  obtain ⟨x, hx, rfl, _⟩ := lies_mem he
  rw [hst] at hx
  simp at hx
  subst hx
  exact kind_in (by omega)
structure BegI (N : NetD) (stock : List Stock) (trains : List Train) (G0 : Gh) (n k : Nat) (acc : List Body) (v : Value) (Nb : List (Nat × Obj)) (G : Gh) : Prop where
  le : G0.le G
  kn : k ≤ n
  own : OwnS tBody 33 G acc v Nb
  spec : startsF N (stock.drop k) (trains.drop k) acc = startsF N stock trains []
  len : acc.length = k
  ok : ∀ b, b ∈ acc → BegOk N.p b
set_option maxRecDepth 20000 in
set_option maxHeartbeats 1000000 in
theorem begin_ok {G : Gh} {H : List (Nat × Obj)} {W : World} {bw g : Nat} {x1 x2 x5 x6 x7 x8 x9 x10 x11 x12 : Value} {S : Option Addr} {sn sc : Nat} (hp : Hp G ((bw, row [.pointer (some ⟨g, 0, none⟩), x1, x2, .slice S sn sc, .slice none 0 0, x5, x6, x7, x8, x9, x10, x11, x12] 113) :: H) W) {N : NetD} (h : NetAt G g N) (hN : N.Ok) {stock : List Stock} (hs : Sl tStock G S sn sc stock)
    {A : Option Addr} {n c : Nat} {trains : List Train} (ht : Sl tTrain G A n c trains) (hst : stock.length = trains.length) (hn : n ≤ 100) :
    Calls Tryz.prog 52 ⟨[.pointer (some ⟨bw, 0, none⟩), .slice A n c]⟩ W (Ret G (fun G' H' v => v = .int .i64 (beginErr N stock trains) ∧ ∃ F fn fc, H' = (bw, row [.pointer (some ⟨g, 0, none⟩), x1, x2, .slice S sn sc, .slice F fn fc, x5, x6, x7, x8, x9, x10, x11, x12] 113) :: H ∧ (beginErr N stock trains = 0 → Sl tBody G' F fn fc (startsF N stock trains []).2 ∧ ∀ b, b ∈ (startsF N stock trains []).2 → BegOk N.p b))) := by
  have htl := ht.length
  have hsl := hs.length
  have hsm := hN.small.elems
  refine enter Tryz.func52 rfl Tryz.ntmps52 (Nat.le_of_ble_eq_true rfl) hp (nx_seq (nx_region (nv v_assign (nx_nil (nx_then (nx_seq (nx_seq (nx_region (nv v_move (nv v_len (nv v_move ?_)))))))))))
  refine nx_nil (nx_then (nx_block ?_))
  refine nx_loop_v (σ := Nat × List Body × Value × List (Nat × Obj) × Gh) [0, 1, 14, 15] (fun s => [(16, .int .i64 (s.1 : Int))]) (fun s => s.2.2.2.2) (fun s => (bw, row [.pointer (some ⟨g, 0, none⟩), x1, x2, .slice S sn sc, s.2.2.1, x5, x6, x7, x8, x9, x10, x11, x12] 113) :: (s.2.2.2.1 ++ H)) (fun s => BegI N stock trains G n s.1 s.2.1 s.2.2.1 s.2.2.2.1 s.2.2.2.2) (fun s => n - s.1) (0, [], .slice none 0 0, [], G) (.cons rfl (.cons rfl (.cons rfl (.cons rfl (.nil))))) ⟨rfl, trivial⟩ ⟨Gh.le.refl _, Nat.zero_le _, .nil rfl, rfl, rfl, fun b hb => absurd hb List.not_mem_nil⟩ rfl rfl ?_
  rintro ⟨k, acc, v, Nb, G1⟩ ⟨le1, hk, o1, hI, hal, hok⟩ K next
  dsimp only at le1 hk o1 hI hal hok ⊢
  refine nx_seq (nx_region (nv v_lss (nx_nil (nx_then (nx_seq ?_)))))
  refine nx_cond_dec rfl (fun c17 => ?_) (fun c17 => ?_)
  obtain ⟨x, rest, hd, hx⟩ := drop_of_lt (xs := trains) (k := k) (by omega)
  obtain ⟨xb, xo, xe, xk, xr, xf0, xf1, xf2, xf3, xf4⟩ := next_Train (ht.le le1) hd
  cases xe
  obtain ⟨s, srest, hds, hsx⟩ := drop_of_lt (xs := stock) (k := k) (by omega)
  obtain ⟨sb, so, se, sk, sr, sf0, sf1, sf2, sf3, sf4⟩ := next_Stock (hs.le le1) hds
  cases se
  rw [hd, hds] at hI
  simp only [startsF] at hI
  refine nx_skip (nx_then (nx_seq (nx_block (nx_seq (nx_region (nv v_move (nv (v_indexAddr_nat rfl rfl rfl (by omega)) (nv v_load_s ?_))))))))
  refine nx_op rfl (op_alloc rfl (fun b6 => ?_))
  refine nv v_assign (st (k := nx_nil (nx_then (nx_seq (dr_begin 20 (.q 0 (.q 1 (.q 2 (.q 3 (.q 4 (.q 5 (.q 6 (.q 7 (.q 8 (.q 9 (.q 10 (.q 11 (.q 12 (.b 13 17 (.q 14 (.q 15 (.q 16 (.l 17 (.l 18 (.q 19 .done)))))) (.l 13 (.q 14 (.q 15 (.q 16 (.l 18 (.q 19 .done)))))))))))))))))))) rfl (by kernel_rfl) (dr_q rfl rfl v_move ic (dr_q rfl rfl v_nilCheck ic (dr_q rfl rfl v_fieldAddr ic (dr_q rfl rfl v_load1_o ic (dr_q rfl rfl v_move ic (dr_q rfl rfl v_nilCheck ic ?_)))))))))))
  refine dr_q rfl rfl v_fieldAddr ic (dr_q rfl rfl v_load1_o ic (dr_q rfl rfl v_move ic (dr_q rfl rfl (v_indexAddr_nat (k := k) rfl rfl rfl (by omega)) ic (dr_q rfl rfl v_fieldAddr ic (dr_q rfl rfl v_load1_s ic (dr_q rfl rfl v_load_o ic ?_))))))
  refine dr_b rfl rfl rfl rfl ?_ ?_
  refine op_callD rfl rfl rfl (fun W hp => start_ok hp (h.le le1) s.len x hN.num) (fun v35 G35 le35 ph35 => ?_)
  obtain ⟨A35, n35, c35, rfl, at35⟩ := ph35
  refine dr_k (ic.le le35) (dr_q rfl rfl v_move (ic.le le35) (dr_q rfl rfl (v_extract rfl rfl rfl) (ic.le le35) (dr_q rfl rfl (v_extract rfl rfl rfl) (ic.le le35) (dr_l rfl rfl ?_))))
  refine op_alloc rfl (fun b7 => ?_)
  refine dr_k ((ic.le le35).cons _) (dr_l rfl rfl ?_)
  refine op_sto rfl rfl rfl rfl rfl (by repeat (first | exact UpdS.here rfl | apply UpdS.cons | apply UpdS.app)) ?_
  refine dr_k ((ic.le le35).cons _) (dr_q rfl rfl v_assign ((ic.le le35).cons _) (dr_end rfl ?_))
  refine nx_nil (nx_np ?_)
  refine nx_then (nx_seq (nx_seq (nx_region (nv v_move (nv v_neq (nx_nil (nx_then ?_)))))))
  refine nx_cond_dec rfl (fun c39 => ?_) (fun c39 => ?_)
  rw [if_pos c39] at hI
  have hE : beginErr N stock trains = N.startErr s.len x := by unfold beginErr; rw [← hI]; simp only; rw [if_pos c39]
  refine nx_still (o1.le le35) (by repeat (first | exact Pull.here | apply Pull.cons | apply Pull.app)) (fun G9 A9 d9 le9 hv9 hs9 => ?_)
  cases hv9
  refine nx_seq (nx_region (nv v_move (nv v_assign (nx_nil (nx_then (nx_ret (nx_then_ret (nx_in_ret (nx_then_ret (nx_then_ret (nx_in_ret ?_)))))))))))
  refine nx_then_ret ?_
  first
  | exact nx_ret1 rfl (.tmp rfl) (fun W hp => ⟨_, _, _, rfl, (Gh.le.trans le1 (Gh.le.trans le35 le9)), ⟨(by rw [hE]; rfl), _, _, _, rfl, fun h0 => absurd (hE ▸ h0) c39⟩, Suf.hp (by repeat (first | exact Suf.refl | apply Suf.keep | apply Suf.cons | apply Suf.keepN | apply Suf.app)) hp⟩)
  | exact nx_ret1 rfl (.tmp rfl) (fun W hp => ⟨_, _, _, rfl, (Gh.le.trans le1 (Gh.le.trans le35 le9)), ⟨(by rw [hE]), _, _, _, rfl, fun h0 => absurd (hE.symm.trans h0) (by decide)⟩, Suf.hp (by repeat (first | exact Suf.refl | apply Suf.keep | apply Suf.cons | apply Suf.keepN | apply Suf.app)) hp⟩)
  | exact nx_ret1 rfl (.tmp rfl) (fun W hp => ⟨_, _, _, rfl, (Gh.le.trans le1 (Gh.le.trans le35 le9)), ⟨(by rw [hE]), _, _, _, rfl, fun _ => by rw [← hI]; exact ⟨hs8.le le2, hok⟩⟩, Suf.hp (by repeat (first | exact Suf.refl | apply Suf.keep | apply Suf.cons | apply Suf.keepN | apply Suf.app)) hp⟩)
  rw [if_neg c39] at hI
  refine nx_skip (nx_then (np (N := Nb) (k := dr_begin_app 10 (.q 0 (.q 1 (.q 2 (.q 3 (.q 4 (.q 5 (.l 6 (.l 7 (.q 8 (.q 9 .done)))))))))) rfl (by kernel_rfl) (dr_q rfl rfl v_move (ic.app _) (dr_q rfl rfl v_move (ic.app _) (dr_q rfl rfl v_nilCheck (ic.app _) (dr_q rfl rfl v_fieldAddr (ic.app _) (dr_q rfl rfl v_load1_o (ic.app _) (dr_q rfl rfl v_load_o (ic.app _) (dr_l rfl rfl ?_))))))))))
  refine op_buildSlice rfl rfl rfl rfl rfl (fun b47 => ?_)
  refine dr_k ((ic.app _).cons _) (dr_l rfl rfl ?_)
  refine op_app (T := tBody) rfl rfl rfl (o1.le le35) (by repeat (first | exact Pull.here | apply Pull.cons | apply Pull.app)) (Src.row List.mem_cons_self (Rows.one ⟨A35, n35, c35, rfl, at35⟩) rfl) (by simp; omega) (by simp [maxLen]; omega) (fun A48 c48 N48 o48 hc48 => ?_)
  refine dr_k (Inc.suf (Gh.le.refl _) (by repeat (first | exact Suf.refl | apply Suf.keep | apply Suf.cons | apply Suf.keepN | apply Suf.app))) ?_
  refine dr_q rfl rfl v_nilCheck (Inc.suf (Gh.le.refl _) (by repeat (first | exact Suf.refl | apply Suf.keep | apply Suf.cons | apply Suf.keepN | apply Suf.app))) ?_
  refine dr_q rfl rfl v_fieldAddr (Inc.suf (Gh.le.refl _) (by repeat (first | exact Suf.refl | apply Suf.keep | apply Suf.cons | apply Suf.keepN | apply Suf.app))) ?_
  refine dr_end rfl (st (k := ?_))
  refine nx_nil (nx_np ?_)
  refine nx_in _ (nx_then (nx_region (nv v_add (nv v_move (nx_nil (nx_then (nf (b := bw) (k := ?_))))))))
  exact nn (next (k + 1, acc ++ [N.start s.len x], .slice A48 _ c48, N48, _) ⟨(Gh.le.trans le1 le35), (by dsimp only; omega), o48, (by rw [xr, sr]; exact hI), (by simp; omega), (fun b hb => by
      rcases List.mem_append.1 hb with hb | hb
      · exact hok b hb
      · rw [List.mem_singleton.1 hb]; exact start_begOk (Decidable.not_not.1 c39))⟩ (by dsimp only; omega))
  refine op_alloc rfl (fun b7 => ?_)
  refine dr_k (ic.cons _) (dr_l rfl rfl ?_)
  refine op_callD rfl rfl rfl (fun W hp => start_ok hp (h.le le1) s.len x hN.num) (fun v35 G35 le35 ph35 => ?_)
  obtain ⟨A35, n35, c35, rfl, at35⟩ := ph35
  refine dr_k ((ic.cons _).le le35) (dr_q rfl rfl v_move ((ic.cons _).le le35) (dr_q rfl rfl (v_extract rfl rfl rfl) ((ic.cons _).le le35) (dr_q rfl rfl (v_extract rfl rfl rfl) ((ic.cons _).le le35) (dr_l rfl rfl ?_))))
  refine op_sto rfl rfl rfl rfl rfl (by repeat (first | exact UpdS.here rfl | apply UpdS.cons | apply UpdS.app)) ?_
  refine dr_k ((ic.cons _).le le35) (dr_q rfl rfl v_assign ((ic.cons _).le le35) (dr_end rfl ?_))
  refine nx_nil (nx_np ?_)
  refine nx_then (nx_seq (nx_seq (nx_region (nv v_move (nv v_neq (nx_nil (nx_then ?_)))))))
  refine nx_cond_dec rfl (fun c39 => ?_) (fun c39 => ?_)
  rw [if_pos c39] at hI
  have hE : beginErr N stock trains = N.startErr s.len x := by unfold beginErr; rw [← hI]; simp only; rw [if_pos c39]
  refine nx_still (o1.le le35) (by repeat (first | exact Pull.here | apply Pull.cons | apply Pull.app)) (fun G9 A9 d9 le9 hv9 hs9 => ?_)
  cases hv9
  refine nx_seq (nx_region (nv v_move (nv v_assign (nx_nil (nx_then (nx_ret (nx_then_ret (nx_in_ret (nx_then_ret (nx_then_ret (nx_in_ret ?_)))))))))))
  refine nx_then_ret ?_
  first
  | exact nx_ret1 rfl (.tmp rfl) (fun W hp => ⟨_, _, _, rfl, (Gh.le.trans le1 (Gh.le.trans le35 le9)), ⟨(by rw [hE]; rfl), _, _, _, rfl, fun h0 => absurd (hE ▸ h0) c39⟩, Suf.hp (by repeat (first | exact Suf.refl | apply Suf.keep | apply Suf.cons | apply Suf.keepN | apply Suf.app)) hp⟩)
  | exact nx_ret1 rfl (.tmp rfl) (fun W hp => ⟨_, _, _, rfl, (Gh.le.trans le1 (Gh.le.trans le35 le9)), ⟨(by rw [hE]), _, _, _, rfl, fun h0 => absurd (hE.symm.trans h0) (by decide)⟩, Suf.hp (by repeat (first | exact Suf.refl | apply Suf.keep | apply Suf.cons | apply Suf.keepN | apply Suf.app)) hp⟩)
  | exact nx_ret1 rfl (.tmp rfl) (fun W hp => ⟨_, _, _, rfl, (Gh.le.trans le1 (Gh.le.trans le35 le9)), ⟨(by rw [hE]), _, _, _, rfl, fun _ => by rw [← hI]; exact ⟨hs8.le le2, hok⟩⟩, Suf.hp (by repeat (first | exact Suf.refl | apply Suf.keep | apply Suf.cons | apply Suf.keepN | apply Suf.app)) hp⟩)
  rw [if_neg c39] at hI
  refine nx_skip (nx_then (np (N := Nb) (k := dr_begin_app 10 (.q 0 (.q 1 (.q 2 (.q 3 (.q 4 (.q 5 (.l 6 (.l 7 (.q 8 (.q 9 .done)))))))))) rfl (by kernel_rfl) (dr_q rfl rfl v_move (ic.app _) (dr_q rfl rfl v_move (ic.app _) (dr_q rfl rfl v_nilCheck (ic.app _) (dr_q rfl rfl v_fieldAddr (ic.app _) (dr_q rfl rfl v_load1_o (ic.app _) (dr_q rfl rfl v_load_o (ic.app _) (dr_l rfl rfl ?_))))))))))
  refine op_buildSlice rfl rfl rfl rfl rfl (fun b47 => ?_)
  refine dr_k ((ic.app _).cons _) (dr_l rfl rfl ?_)
  refine op_app (T := tBody) rfl rfl rfl (o1.le le35) (by repeat (first | exact Pull.here | apply Pull.cons | apply Pull.app)) (Src.row List.mem_cons_self (Rows.one ⟨A35, n35, c35, rfl, at35⟩) rfl) (by simp; omega) (by simp [maxLen]; omega) (fun A48 c48 N48 o48 hc48 => ?_)
  refine dr_k (Inc.suf (Gh.le.refl _) (by repeat (first | exact Suf.refl | apply Suf.keep | apply Suf.cons | apply Suf.keepN | apply Suf.app))) ?_
  refine dr_q rfl rfl v_nilCheck (Inc.suf (Gh.le.refl _) (by repeat (first | exact Suf.refl | apply Suf.keep | apply Suf.cons | apply Suf.keepN | apply Suf.app))) ?_
  refine dr_q rfl rfl v_fieldAddr (Inc.suf (Gh.le.refl _) (by repeat (first | exact Suf.refl | apply Suf.keep | apply Suf.cons | apply Suf.keepN | apply Suf.app))) ?_
  refine dr_end rfl (st (k := ?_))
  refine nx_nil (nx_np ?_)
  refine nx_in _ (nx_then (nx_region (nv v_add (nv v_move (nx_nil (nx_then (nf (b := bw) (k := ?_))))))))
  exact nn (next (k + 1, acc ++ [N.start s.len x], .slice A48 _ c48, N48, _) ⟨(Gh.le.trans le1 le35), (by dsimp only; omega), o48, (by rw [xr, sr]; exact hI), (by simp; omega), (fun b hb => by
      rcases List.mem_append.1 hb with hb | hb
      · exact hok b hb
      · rw [List.mem_singleton.1 hb]; exact start_begOk (Decidable.not_not.1 c39))⟩ (by dsimp only; omega))
  obtain rfl : k = n := by omega
  rw [List.drop_eq_nil_of_le (by omega), List.drop_eq_nil_of_le (by omega)] at hI
  simp only [startsF] at hI
  have hB : beginErr N stock trains = match metBods N acc (List.replicate N.p.elems.length false) with
    | none => 18
    | some _ => 0 := by unfold beginErr; rw [← hI]; rfl
  refine nx_still o1 (by repeat (first | exact Pull.here | apply Pull.cons | apply Pull.app)) (fun G8 A8 d8 le8 hv8 hs8 => ?_)
  cases hv8
  refine nx_exit (nx_then_exit (nx_then_exit (nx_in_eq (nx_then (nx_seq (nx_region (nv v_move (nv v_nilCheck (nv v_fieldAddr (nv v_load1_o ?_))))))))))
  refine nx_op rfl (op_callS rfl rfl rfl (fun W hp => len_ok hp (h.le (Gh.le.trans le1 le8))) ?_)
  refine nx_op rfl (op_makeSlice rfl rfl rfl rfl (by omega) (by decide) (fun b57 => ?_))
  refine nv v_assign (nx_nil (nx_then (nx_seq (nx_seq (nx_region (nv v_move (nv v_nilCheck (nv v_fieldAddr (nv v_load1_o (nv v_len (nv v_move ?_)))))))))))
  refine nx_nil (nx_then (nx_block (nf (b := b57) (k := ?_))))
  refine nx_loop_v (σ := Nat × List Bool × Gh) [0, 1, 9, 14, 15, 16, 17, 52, 53, 54, 55, 56, 57, 58, 59, 60, 61, 62] (fun s => [(63, .int .i64 (s.1 : Int))]) (fun s => s.2.2) (fun s => (b57, row (s.2.1.map (fun x => Value.bool x)) 4) :: (bw, row [.pointer (some ⟨g, 0, none⟩), x1, x2, .slice S sn sc, .slice A8 acc.length d8, x5, x6, x7, x8, x9, x10, x11, x12] 113) :: H) (fun s => G8.le s.2.2 ∧ s.2.1.length = N.p.elems.length ∧ metBods N (acc.drop s.1) s.2.1 = metBods N acc (List.replicate N.p.elems.length false)) (fun s => acc.length - s.1) (0, List.replicate N.p.elems.length false, G8) (.cons rfl (.cons rfl (.cons rfl (.cons rfl (.cons rfl (.cons rfl (.cons rfl (.cons rfl (.cons rfl (.cons rfl (.cons rfl (.cons rfl (.cons rfl (.cons rfl (.cons rfl (.cons rfl (.cons rfl (.cons rfl (.nil))))))))))))))))))) ⟨rfl, trivial⟩ ⟨Gh.le.refl _, by simp, rfl⟩ rfl (by simp) ?_
  rintro ⟨j, ms, G2⟩ ⟨le2, hml, hJ⟩ K2 next2
  dsimp only at le2 hml hJ ⊢
  refine nx_seq (nx_region (nv v_lss (nx_nil (nx_then (nx_seq ?_)))))
  refine nx_cond_dec rfl (fun c64 => ?_) (fun c64 => ?_)
  obtain ⟨y, rest2, hd2, hy⟩ := drop_of_lt (xs := acc) (k := j) (by omega)
  obtain ⟨yb, yo, yA1, yn1, yc1, ye, yk, yr, yf0, yf1, yf2, yf3, yf4, yat⟩ := next_Body (hs8.le le2) hd2
  cases ye
  rw [hd2] at hJ
  simp only [metBods] at hJ
  have hyo := hok y (List.mem_of_getElem? hy)
  have hyl := yat.h1.length
  have hyf := hyo.few
  refine nx_skip (nx_then (nx_seq (nx_block (nx_seq (nx_region (nv (v_indexAddr_nat rfl rfl rfl (by omega)) (nv v_load_s ?_)))))))
  refine nx_op rfl (op_alloc rfl (fun b11 => ?_))
  refine st (k := nx_nil (nx_then (nx_seq (dr_begin 8 (.q 0 (.q 1 (.q 2 (.q 3 (.q 4 (.q 7 (.l 5 (.q 6 .done)))))))) rfl (by kernel_rfl) (dr_q rfl rfl v_move ic (dr_q rfl rfl v_nilCheck ic (dr_q rfl rfl v_fieldAddr ic (dr_q rfl rfl v_load1_o ic (dr_q rfl rfl v_load_o ic (dr_q rfl rfl v_move ic (dr_l rfl rfl ?_)))))))))))
  refine op_callD rfl rfl rfl (fun W hp => lies_run hp (h.le (Gh.le.trans le1 (Gh.le.trans le8 le2))) yat (by omega)) (fun v72 G72 le72 ph72 => ?_)
  obtain ⟨A72, c72, rfl, s72⟩ := ph72
  have hr72 := Nat.le_trans s72.cap s72.room
  refine dr_k (ic.le le72) (dr_q rfl rfl v_len (ic.le le72) (dr_end rfl ?_))
  refine nx_nil (nx_np ?_)
  refine nx_then (nx_block (nf (b := b57) (k := ?_)))
  refine nx_loop_v (σ := Nat × List Bool) [0, 1, 9, 11, 14, 15, 16, 17, 52, 53, 54, 55, 56, 57, 58, 59, 60, 61, 62, 63, 64, 65, 66, 67, 68, 69, 70, 71, 72, 73] (fun s => [(74, .int .i64 (s.1 : Int))]) (fun _ => G72) (fun s => (b57, row (s.2.map (fun x => Value.bool x)) 4) :: _) (fun s => s.2.length = N.p.elems.length ∧ metE ((lies N.p y).drop s.1) s.2 = metE (lies N.p y) ms) (fun s => (lies N.p y).length - s.1) (0, ms) (.cons rfl (.cons rfl (.cons rfl (.cons rfl (.cons rfl (.cons rfl (.cons rfl (.cons rfl (.cons rfl (.cons rfl (.cons rfl (.cons rfl (.cons rfl (.cons rfl (.cons rfl (.cons rfl (.cons rfl (.cons rfl (.cons rfl (.cons rfl (.cons rfl (.cons rfl (.cons rfl (.cons rfl (.cons rfl (.cons rfl (.cons rfl (.cons rfl (.cons rfl (.cons rfl (.nil))))))))))))))))))))))))))))))) ⟨rfl, trivial⟩ ⟨hml, rfl⟩ rfl rfl ?_
  rintro ⟨i, ms3⟩ ⟨hml3, hL⟩ K3 next3
  dsimp only at hml3 hL ⊢
  refine nx_seq (nx_region (nv v_lss (nx_nil (nx_then (nx_seq ?_)))))
  refine nx_cond_dec rfl (fun c75 => ?_) (fun c75 => ?_)
  obtain ⟨e, rest3, hd3, he⟩ := drop_of_lt (xs := lies N.p y) (k := i) (by omega)
  obtain ⟨eb, eo, ee, ek, er, ef0⟩ := next_Int s72 hd3
  cases ee
  rw [hd3] at hL
  simp only [metE] at hL
  have hin := hyo.inn e (List.mem_of_getElem? he)
  obtain ⟨q, hq⟩ : ∃ q : Nat, e = q := ⟨e.toNat, by omega⟩
  obtain ⟨z, hz⟩ : ∃ z, ms3[q]? = some z := ⟨_, List.getElem?_eq_getElem (by omega)⟩
  have hzd : (ms3[e.toNat]?).getD false = z := by rw [hq, Int.toNat_natCast, hz]; rfl
  rw [hzd] at hL
  refine nx_skip (nx_then (nx_seq (nx_block (nx_seq (nx_region (nv (v_indexAddr_nat rfl rfl rfl (by omega)) (nv v_load1_s (nv v_assign (nx_nil (nx_then (nx_seq ?_)))))))))))
  refine nx_seq (nx_region (nv v_move (nv v_move ?_)))
  refine nv (v_indexAddr_nat (k := q) rfl rfl (by rw [← hq]; rfl) (by omega)) ?_
  refine nv (v_load1_o rfl rfl (OwnAt.one (v := .bool z) (by simp [hz]))) (nx_nil (nx_then ?_))
  refine nx_cond rfl (fun c81 => ?_) (fun c81 => ?_)
  have hnone : metE (lies N.p y) ms = none := by rw [← hL, if_pos c81]
  rw [hnone] at hJ
  have hE : beginErr N stock trains = 18 := by rw [hB, ← hJ]
  refine nx_seq (nx_region (nv v_assign (nx_nil (nx_then (nx_ret (nx_then_ret (nx_in_ret (nx_then_ret (nx_then_ret (nx_in_ret (nx_in_ret ?_)))))))))))
  refine nx_then_ret (nx_then_ret (nx_in_ret (nx_then_ret ?_)))
  first
  | exact nx_ret1 rfl (.tmp rfl) (fun W hp => ⟨_, _, _, rfl, (Gh.le.trans le1 (Gh.le.trans le8 (Gh.le.trans le2 le72))), ⟨(by rw [hE]; rfl), _, _, _, rfl, fun h0 => absurd (hE ▸ h0) c39⟩, Suf.hp (by repeat (first | exact Suf.refl | apply Suf.keep | apply Suf.cons | apply Suf.keepN | apply Suf.app)) hp⟩)
  | exact nx_ret1 rfl (.tmp rfl) (fun W hp => ⟨_, _, _, rfl, (Gh.le.trans le1 (Gh.le.trans le8 (Gh.le.trans le2 le72))), ⟨(by rw [hE]), _, _, _, rfl, fun h0 => absurd (hE.symm.trans h0) (by decide)⟩, Suf.hp (by repeat (first | exact Suf.refl | apply Suf.keep | apply Suf.cons | apply Suf.keepN | apply Suf.app)) hp⟩)
  | exact nx_ret1 rfl (.tmp rfl) (fun W hp => ⟨_, _, _, rfl, (Gh.le.trans le1 (Gh.le.trans le8 (Gh.le.trans le2 le72))), ⟨(by rw [hE]), _, _, _, rfl, fun _ => by rw [← hI]; exact ⟨hs8.le le2, hok⟩⟩, Suf.hp (by repeat (first | exact Suf.refl | apply Suf.keep | apply Suf.cons | apply Suf.keepN | apply Suf.app)) hp⟩)
  refine nx_skip (nx_then (nx_region (nv v_move (nv v_move ?_))))
  refine nv (v_indexAddr_nat (k := q) rfl rfl (by rw [← hq]; rfl) (by omega)) ?_
  refine nx_op rfl (op_sto rfl rfl rfl rfl rfl (UpdS.here (setEs_one (by simp; omega))) ?_)
  refine nx_nil (nx_in _ (nx_then (nx_region (nv v_add (nv v_move (nx_nil (nx_then ?_)))))))
  rw [if_neg (by simpa using c81)] at hL
  have hset : (ms3.map (fun x => Value.bool x)).set (0 + q * 1) (.bool true) = (ms3.set q true).map (fun x => Value.bool x) := by rw [List.map_set]; simp
  rw [hset]
  exact nn (next3 (i + 1, ms3.set q true) ⟨(by simp [hml3]), (by rw [er, ← hL, hq, Int.toNat_natCast])⟩ (by dsimp only; omega))
  refine nx_exit (nx_then_exit (nx_then_exit (nx_in_eq (nx_in _ (nx_then (nx_region (nv v_add (nv v_move (nx_nil (nx_then ?_))))))))))
  have hm3 : metE (lies N.p y) ms = some ms3 := by rw [← hL, List.drop_eq_nil_of_le (by omega)]; rfl
  rw [hm3] at hJ
  exact nn (next2 (j + 1, ms3, _) ⟨Gh.le.trans le2 le72, hml3, (by rw [yr]; exact hJ)⟩ (by dsimp only; omega))
  have hE : beginErr N stock trains = 0 := by rw [hB, ← hJ, List.drop_eq_nil_of_le (by omega)]; rfl
  refine nx_exit (nx_then_exit (nx_then_exit (nx_in_eq (nx_then (nx_seq (nx_region (nv v_assign (nx_nil (nx_then (nx_ret ?_))))))))))
  first
  | exact nx_ret1 rfl (.tmp rfl) (fun W hp => ⟨_, _, _, rfl, (Gh.le.trans le1 (Gh.le.trans le8 le2)), ⟨(by rw [hE]; rfl), _, _, _, rfl, fun h0 => absurd (hE ▸ h0) c39⟩, Suf.hp (by repeat (first | exact Suf.refl | apply Suf.keep | apply Suf.cons | apply Suf.keepN | apply Suf.app)) hp⟩)
  | exact nx_ret1 rfl (.tmp rfl) (fun W hp => ⟨_, _, _, rfl, (Gh.le.trans le1 (Gh.le.trans le8 le2)), ⟨(by rw [hE]), _, _, _, rfl, fun h0 => absurd (hE.symm.trans h0) (by decide)⟩, Suf.hp (by repeat (first | exact Suf.refl | apply Suf.keep | apply Suf.cons | apply Suf.keepN | apply Suf.app)) hp⟩)
  | exact nx_ret1 rfl (.tmp rfl) (fun W hp => ⟨_, _, _, rfl, (Gh.le.trans le1 (Gh.le.trans le8 le2)), ⟨(by rw [hE]), _, _, _, rfl, fun _ => by rw [← hI]; exact ⟨hs8.le le2, hok⟩⟩, Suf.hp (by repeat (first | exact Suf.refl | apply Suf.keep | apply Suf.cons | apply Suf.keepN | apply Suf.app)) hp⟩)
end Go.Proofs.YtjckojnlapchoaaGreat
