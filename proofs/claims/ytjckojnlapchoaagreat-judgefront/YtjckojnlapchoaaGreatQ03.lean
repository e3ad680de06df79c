/- Part 3 of a proof of a law over the program: Net, Lib, Lib2, Word. Conditions: none beyond what each statement says. -/
import Derived.Test.YtjckojnlapchoaaGreatQ02
import Derived.Laws.StructEq
set_option linter.unusedVariables false
set_option linter.unusedSimpArgs false
open Go Go.RowKit
namespace Go.Proofs.YtjckojnlapchoaaGreat
open Go.Proofs
structure NetD where
  p : Plan
  next : List (Port × Port)
  reads : List (Port × Int)
  line : List (Int × (Int × Int))
  lead : List (Int × Int)
def Port.val (p : Port) : Value := .agg ⟨p.cells⟩
def int_ (k : Int) : Value := .int .i64 k
def bool_ (k : Bool) : Value := .bool k
def str_ (k : ByteArray) : Value := .string k
def pairv (p : Int × Int) : Value := .agg ⟨[.int .i64 p.1, .int .i64 p.2]⟩
structure NetH (G : Gh) (g : Nat) (A1 : Option Addr) (n1 c1 : Nat) (A2 : Option Addr) (n2 c2 : Nat) (A3 : Option Addr) (n3 c3 : Nat) (A4 : Option Addr) (n4 c4 : Nat) (m1 m2 m3 m4 : Nat) (N : NetD) : Prop where
  k0 : G.cell g 0 = some (.slice A1 n1 c1)
  k1 : G.cell g 1 = some (.slice A2 n2 c2)
  k2 : G.cell g 2 = some (.slice A3 n3 c3)
  k3 : G.cell g 3 = some (.slice A4 n4 c4)
  k4 : G.cell g 4 = some (.int .i64 N.p.top)
  k5 : G.cell g 5 = some (.int .i64 N.p.brake)
  k6 : G.cell g 6 = some (.int .i64 N.p.margin)
  k7 : G.cell g 7 = some (.int .i64 N.p.throw_)
  k8 : G.cell g 8 = some (.bool N.p.hard)
  k9 : G.cell g 9 = some (.map (some m1))
  k10 : G.cell g 10 = some (.map (some m2))
  k11 : G.cell g 11 = some (.map (some m3))
  k12 : G.cell g 12 = some (.map (some m4))
  plan : Plan.At G A1 n1 c1 A2 n2 c2 A3 n3 c3 A4 n4 c4 N.p
  next : GMap Port.val Port.val G m1 N.next
  reads : GMap Port.val int_ G m2 N.reads
  line : GMap int_ pairv G m3 N.line
  lead : GMap int_ int_ G m4 N.lead
def NetAt (G : Gh) (g : Nat) (N : NetD) : Prop := ∃ A1 n1 c1 A2 n2 c2 A3 n3 c3 A4 n4 c4 m1 m2 m3 m4, NetH G g A1 n1 c1 A2 n2 c2 A3 n3 c3 A4 n4 c4 m1 m2 m3 m4 N
theorem NetAt.le {G G' : Gh} {g : Nat} {N : NetD} (h : NetAt G g N) (e : G.le G') : NetAt G' g N := by
  obtain ⟨A1, n1, c1, A2, n2, c2, A3, n3, c3, A4, n4, c4, m1, m2, m3, m4, h⟩ := h
  exact ⟨A1, n1, c1, A2, n2, c2, A3, n3, c3, A4, n4, c4, m1, m2, m3, m4, e.cell h.k0, e.cell h.k1, e.cell h.k2, e.cell h.k3, e.cell h.k4, e.cell h.k5, e.cell h.k6, e.cell h.k7, e.cell h.k8, e.cell h.k9, e.cell h.k10, e.cell h.k11, e.cell h.k12, h.plan.le e, h.next.le e, h.reads.le e, h.line.le e, h.lead.le e⟩
theorem keyOk_struct {P : Program} {K : TypeId} {κ : Type} [DecidableEq κ] (f : κ → List Value) (heq : ∀ w k k', (Op.equal K (.agg ⟨f k⟩) (.agg ⟨f k'⟩)).run P w = .ok (decide (k = k')) w)
    (hchk : ∀ b w k, (Instr.checkKey b 10000 K (.agg ⟨f k⟩)).run P w = .ok () w) (hbits : ∀ k, Instr.sameBits 10000 (.agg ⟨f k⟩) (.agg ⟨f k⟩) = true) (hK : ∃ fs, P.underlying K = some (.struct fs)) : KeyOk P K (fun k => .agg ⟨f k⟩) where
  find := by
    intro ν venc w k es l h
    obtain ⟨fs, hfs⟩ := hK
    unfold Instr.findKey
    have hk := run_findAsking (P := P) (w := w) (K := K) (kenc := fun k => .agg ⟨f k⟩) (heq w) k es l 0 h
    cases es with
    | nil =>
      cases l with
      | nil => simp [go_sem, Instr.findNow, findK, run_underlying hfs]
      | cons a l => simp at h
    | cons e es =>
      cases l with
      | nil => simp at h
      | cons a l =>
        have he : e.key = .agg ⟨f a.1⟩ := by simp at h; exact h.1.1
        simp [go_sem, Instr.findNow, he, Instr.sameNow, run_underlying hfs]
        simpa using hk
  check := hchk
  bits := hbits
theorem keyOk_port : KeyOk Tryz.prog 71 Port.val := keyOk_struct Port.cells (fun w k k' => eqPort.eq k k' w)
  (by
    intro b w k
    have h : ∀ n, (Instr.checkKey b (n + 2) 71 (.agg ⟨k.cells⟩)).run Tryz.prog w = .ok () w := by
      intro n
      simp [Instr.checkKey, Port.cells, go_sem]
    exact h 9998)
  (by intro k; simp [Instr.sameBits, Port.cells]) ⟨_, Tryz.underlying71⟩
theorem keyInt : KeyOk Tryz.prog 3 int_ := keyOk_int Tryz.underlying3
theorem keyStr : KeyOk Tryz.prog 9 str_ := keyOk_str Tryz.underlying9
def noElem : Elem := ⟨⟨#[]⟩, 0, 0⟩
def Plan.elem (p : Plan) (e : Int) : Elem := if e < 0 then noElem else (p.elems[e.toNat]?).getD noElem
def Plan.kind (p : Plan) (e : Int) : Int := (p.elem e).kind
def Plan.length (p : Plan) (e : Int) : Int := (p.elem e).length
def ends (k : Int) : Int := if k = 1 then 2 else if k = 2 then 3 else if k = 3 then 4 else if k = 4 then 1 else 0
set_option maxRecDepth 20000 in
set_option maxHeartbeats 1000000 in
theorem ends_ok {G : Gh} {H : List (Nat × Obj)} {W : World} (hp : Hp G H W) (k : Int) : Calls Tryz.prog 171 ⟨[.int .i64 k]⟩ W (RetS G H (.int .i64 (ends k))) := by
  refine enter Tryz.func171 rfl Tryz.ntmps171 (Nat.le_of_ble_eq_true rfl) hp (nx_seq (nx_region (nv v_assign (nx_nil (nx_then (nx_seq (nx_seq (nx_region (nv v_move (nx_nil (nx_then ?_)))))))))))
  refine nx_block (nx_seq (nx_region (nv v_eql (nv v_assign (nx_nil (nx_then ?_))))))
  refine nx_cond_dec rfl (fun c4 => ?_) (fun c4 => ?_)
  refine nx_seq (nx_region (nv v_assign (nx_nil (nx_then (nx_ret (nx_in_ret (nx_then_ret ?_)))))))
  exact nx_ret1 rfl (.tmp rfl) (rs (by simp [ends, *]))
  refine nx_seq (nx_region (nv v_eql (nv v_assign (nx_nil (nx_then ?_)))))
  refine nx_cond_dec rfl (fun c6 => ?_) (fun c6 => ?_)
  refine nx_seq (nx_region (nv v_assign (nx_nil (nx_then (nx_ret (nx_in_ret (nx_then_ret ?_)))))))
  exact nx_ret1 rfl (.tmp rfl) (rs (by simp [ends, *]))
  refine nx_seq (nx_region (nv v_eql (nv v_assign (nx_nil (nx_then ?_)))))
  refine nx_cond_dec rfl (fun c8 => ?_) (fun c8 => ?_)
  refine nx_seq (nx_region (nv v_assign (nx_nil (nx_then (nx_ret (nx_in_ret (nx_then_ret ?_)))))))
  exact nx_ret1 rfl (.tmp rfl) (rs (by simp [ends, *]))
  refine nx_seq (nx_region (nv v_eql (nv v_assign (nx_nil (nx_then ?_)))))
  refine nx_cond_dec rfl (fun c10 => ?_) (fun c10 => ?_)
  refine nx_seq (nx_region (nv v_assign (nx_nil (nx_then (nx_ret (nx_in_ret (nx_then_ret ?_)))))))
  exact nx_ret1 rfl (.tmp rfl) (rs (by simp [ends, *]))
  refine nx_skip (nx_in _ (nx_then (nx_seq (nx_region (nv v_assign (nx_nil (nx_then (nx_ret ?_))))))))
  exact nx_ret1 rfl (.tmp rfl) (rs (by simp [ends, *]))
set_option maxRecDepth 20000 in
set_option maxHeartbeats 1000000 in
theorem len_ok {G : Gh} {H : List (Nat × Obj)} {W : World} (hp : Hp G H W) {g : Nat} {N : NetD} (h : NetAt G g N) : Calls Tryz.prog 91 ⟨[.pointer (some ⟨g, 0, none⟩)]⟩ W (RetS G H (.int .i64 N.p.elems.length)) := by
  obtain ⟨A1, n1, c1, A2, n2, c2, A3, n3, c3, A4, n4, c4, m1, m2, m3, m4, nh⟩ := h
  obtain ⟨k0, k1, k2, k3, k4, k5, k6, k7, k8, k9, k10, k11, k12, planh, nexth, readsh, lineh, leadh⟩ := nh
  have hl := planh.h1.length
  refine enter Tryz.func91 rfl Tryz.ntmps91 (Nat.le_of_ble_eq_true rfl) hp (nx_seq (nx_region (nv v_assign (nx_nil (nx_then (nx_seq (nx_region (nv v_move (nv v_nilCheck (nv v_fieldAddr (nv v_fieldAddr ?_)))))))))))
  refine nv v_load1_s (nv v_len (nv v_assign (nx_nil (nx_then (nx_ret ?_)))))
  exact nx_ret1 rfl (.tmp rfl) (rs (by rw [hl]))
set_option maxRecDepth 20000 in
set_option maxHeartbeats 1000000 in
theorem signals_ok {G : Gh} {H : List (Nat × Obj)} {W : World} (hp : Hp G H W) {g : Nat} {N : NetD} (h : NetAt G g N) : Calls Tryz.prog 51 ⟨[.pointer (some ⟨g, 0, none⟩)]⟩ W (RetS G H (.int .i64 N.p.signals.length)) := by
  obtain ⟨A1, n1, c1, A2, n2, c2, A3, n3, c3, A4, n4, c4, m1, m2, m3, m4, nh⟩ := h
  obtain ⟨k0, k1, k2, k3, k4, k5, k6, k7, k8, k9, k10, k11, k12, planh, nexth, readsh, lineh, leadh⟩ := nh
  have hl := planh.h3.length
  refine enter Tryz.func51 rfl Tryz.ntmps51 (Nat.le_of_ble_eq_true rfl) hp (nx_seq (nx_region (nv v_assign (nx_nil (nx_then (nx_seq (nx_region (nv v_move (nv v_nilCheck (nv v_fieldAddr (nv v_fieldAddr ?_)))))))))))
  refine nv v_load1_s (nv v_len (nv v_assign (nx_nil (nx_then (nx_ret ?_)))))
  exact nx_ret1 rfl (.tmp rfl) (rs (by rw [hl]))
set_option maxRecDepth 20000 in
set_option maxHeartbeats 1000000 in
theorem elem_ok {G : Gh} {H : List (Nat × Obj)} {W : World} (hp : Hp G H W) {g : Nat} {N : NetD} (h : NetAt G g N) (i : Int) : Calls Tryz.prog 115 ⟨[.pointer (some ⟨g, 0, none⟩), .int .i64 i]⟩ W (RetS G H (.agg ⟨(N.p.elem i).cells⟩)) := by
  obtain ⟨A1, n1, c1, A2, n2, c2, A3, n3, c3, A4, n4, c4, m1, m2, m3, m4, nh⟩ := h
  obtain ⟨k0, k1, k2, k3, k4, k5, k6, k7, k8, k9, k10, k11, k12, planh, nexth, readsh, lineh, leadh⟩ := nh
  have hl := planh.h1.length
  refine enter Tryz.func115 rfl Tryz.ntmps115 (Nat.le_of_ble_eq_true rfl) hp (nx_seq (nx_region ?_))
  refine nx_op rfl (op_alloc rfl (fun b4 => ?_))
  refine nx_nil (nx_then (nx_seq (nx_seq (nx_region (nv v_move (nv v_lss (nv v_move ?_)))))))
  refine nx_guard_dec (t := 7) rfl (fun g7 => ?_) (fun g7 => ?_)
  refine nk (k := nk (k := nk (k := nk (k := nk (k := nk (k := nk (k := nk (k := nv v_pick_t (nx_nil (nx_then (nx_cond_t rfl ?_)))))))))))
  refine nx_seq (nx_region (nv (v_build rfl rfl rfl) (st (k := nx_nil (nx_then (nx_ret (nx_then_ret ?_)))))))
  exact nx_ret1 rfl ro (rs ((by simp [Plan.elem, *]; rfl)))
  refine nr v_move (nr v_move (nr v_nilCheck (nr v_fieldAddr (nr v_fieldAddr (nr v_load1_s (nr v_len (nr v_geq (nv v_pick_f (nx_nil (nx_then ?_))))))))))
  refine nx_cond_dec rfl (fun c16 => ?_) (fun c16 => ?_)
  refine nx_seq (nx_region (nv (v_build rfl rfl rfl) (st (k := nx_nil (nx_then (nx_ret (nx_then_ret ?_)))))))
  exact nx_ret1 rfl ro (rs ((by simp only [Plan.elem]; rw [if_neg (by omega), List.getElem?_eq_none (by omega)]; rfl)))
  obtain ⟨k, rfl⟩ : ∃ k : Nat, i = k := ⟨i.toNat, by omega⟩
  obtain ⟨b, o, rfl, hk, f0, f1, f2⟩ := get_Elem planh.h1 (k := k) (x := N.p.elems[k]'(by omega)) (List.getElem?_eq_getElem (by omega))
  refine nx_skip (nx_then (nx_seq (nx_region (nv v_move (nv v_nilCheck (nv v_fieldAddr (nv v_fieldAddr (nv v_load1_s (nv v_move (nv (v_indexAddr_nat rfl rfl rfl (by omega)) (nv v_load_s ?_)))))))))))
  refine st (k := nx_nil (nx_then (nx_ret ?_)))
  exact nx_ret1 rfl ro (rs ((by simp only [Plan.elem]; rw [if_neg (by omega), Int.toNat_natCast, List.getElem?_eq_getElem (by omega)]; rfl)))
set_option maxRecDepth 20000 in
set_option maxHeartbeats 1000000 in
theorem kind_ok {G : Gh} {H : List (Nat × Obj)} {W : World} (hp : Hp G H W) {g : Nat} {N : NetD} (h : NetAt G g N) (i : Int) : Calls Tryz.prog 92 ⟨[.pointer (some ⟨g, 0, none⟩), .int .i64 i]⟩ W (RetS G H (.int .i64 (N.p.kind i))) := by
  refine enter Tryz.func92 rfl Tryz.ntmps92 (Nat.le_of_ble_eq_true rfl) hp (nx_seq (nx_region (nv v_assign (nx_nil (nx_then (nx_seq (nx_region (nv v_move (nv v_move ?_)))))))))
  refine nx_op rfl (op_callS rfl rfl rfl (fun W hp => elem_ok hp h i) ?_)
  refine nv (v_field1 rfl rfl rfl) (nv v_assign (nx_nil (nx_then (nx_ret ?_))))
  exact nx_ret1 rfl (.tmp rfl) (rs (rfl))
set_option maxRecDepth 20000 in
set_option maxHeartbeats 1000000 in
theorem length_ok {G : Gh} {H : List (Nat × Obj)} {W : World} (hp : Hp G H W) {g : Nat} {N : NetD} (h : NetAt G g N) (i : Int) : Calls Tryz.prog 62 ⟨[.pointer (some ⟨g, 0, none⟩), .int .i64 i]⟩ W (RetS G H (.int .i64 (N.p.length i))) := by
  refine enter Tryz.func62 rfl Tryz.ntmps62 (Nat.le_of_ble_eq_true rfl) hp (nx_seq (nx_region (nv v_assign (nx_nil (nx_then (nx_seq (nx_region (nv v_move (nv v_move ?_)))))))))
  refine nx_op rfl (op_callS rfl rfl rfl (fun W hp => elem_ok hp h i) ?_)
  refine nv (v_field1 rfl rfl rfl) (nv v_assign (nx_nil (nx_then (nx_ret ?_))))
  exact nx_ret1 rfl (.tmp rfl) (rs (rfl))
set_option maxRecDepth 20000 in
set_option maxHeartbeats 1000000 in
theorem next_ok {G : Gh} {H : List (Nat × Obj)} {W : World} (hp : Hp G H W) {g : Nat} {N : NetD} (h : NetAt G g N) (x : Port) : Calls Tryz.prog 117 ⟨[.pointer (some ⟨g, 0, none⟩), .agg ⟨x.cells⟩]⟩ W (RetS G H (.tuple #[.agg ⟨((getK N.next x).getD ⟨0, 0⟩).cells⟩, .bool (getK N.next x).isSome])) := by
  obtain ⟨A1, n1, c1, A2, n2, c2, A3, n3, c3, A4, n4, c4, m1, m2, m3, m4, nh⟩ := h
  obtain ⟨k0, k1, k2, k3, k4, k5, k6, k7, k8, k9, k10, k11, k12, planh, nexth, readsh, lineh, leadh⟩ := nh
  refine enter Tryz.func117 rfl Tryz.ntmps117 (Nat.le_of_ble_eq_true rfl) hp (nx_seq (nx_region ?_))
  refine nx_op rfl (op_box rfl rfl (fun b3 => ?_))
  refine nx_op rfl (op_alloc rfl (fun b4 => ?_))
  refine nv v_assign (nx_nil (nx_then (nx_seq (dr_begin 12 (.q 0 (.q 1 (.q 2 (.q 3 (.q 4 (.q 5 (.q 6 (.q 7 (.q 8 (.l 9 (.l 10 (.q 11 .done)))))))))))) rfl (by kernel_rfl) (dr_q rfl rfl v_move ic (dr_q rfl rfl v_nilCheck ic (dr_q rfl rfl v_fieldAddr ic (dr_q rfl rfl v_load1_s ic (dr_q rfl rfl v_load_o ic (dr_q rfl rfl (v_lookup_ok keyOk_port x ⟨0, 0⟩ (.inl nexth) rfl rfl rfl (by rfl)) ic (dr_q rfl rfl v_move ic ?_)))))))))))
  refine dr_q rfl rfl (v_extract rfl rfl rfl) ic (dr_q rfl rfl (v_extract rfl rfl rfl) ic (dr_l rfl rfl ?_))
  refine op_alloc rfl (fun b6 => ?_)
  refine dr_k (ic.cons _) (dr_l rfl rfl ?_)
  refine op_sto rfl rfl rfl rfl rfl (by repeat (first | exact UpdS.here rfl | apply UpdS.cons | apply UpdS.app)) ?_
  refine dr_k (ic.cons _) (dr_q rfl rfl v_assign (ic.cons _) (dr_end rfl ?_))
  refine nx_nil (nx_np ?_)
  refine nx_then (nx_seq (nx_region (nv v_load_o (nv v_move (st (k := nv v_assign (nx_nil (nx_then (nx_ret ?_)))))))))
  exact nx_ret2 rfl ro (.tmp rfl) (rs rfl)
def across (i : Int) : Int := if i = 0 then 1 else if i = 1 then 0 else if i = 2 then 3 else 2
def outs (p : Plan) (e i : Int) : List Way :=
  if i < 0 ∨ ends (p.kind e) ≤ i then []
  else if p.kind e = 1 then [⟨1 - i, 0⟩]
  else if p.kind e = 3 then [⟨across i, 0⟩]
  else if p.kind e = 2 then (if i = 0 then [⟨1, 1⟩, ⟨2, 2⟩] else [⟨0, if i = 1 then 1 else 2⟩])
  else []
def Way.may (pos : Int) (w : Way) : Bool := w.pos = 0 || w.pos = pos
def through (p : Plan) (e i pos : Int) : Option Int := ((outs p e i).find? (Way.may pos)).map (·.out)
def NetD.readsAt (N : NetD) (x : Port) : Int := match getK N.reads x with | some s => s | none => -1
def Plan.signalAt (p : Plan) (i : Int) : Option Port := if i < 0 then none else (p.signals[i.toNat]?).map (·.at_)
theorem ends_le (k : Int) : ends k ≤ 4 := by unfold ends; split <;> omega
set_option maxRecDepth 20000 in
set_option maxHeartbeats 1000000 in
theorem reads_ok {G : Gh} {H : List (Nat × Obj)} {W : World} (hp : Hp G H W) {g : Nat} {N : NetD} (h : NetAt G g N) (x : Port) : Calls Tryz.prog 61 ⟨[.pointer (some ⟨g, 0, none⟩), .agg ⟨x.cells⟩]⟩ W (RetS G H (.int .i64 (N.readsAt x))) := by
  obtain ⟨A1, n1, c1, A2, n2, c2, A3, n3, c3, A4, n4, c4, m1, m2, m3, m4, nh⟩ := h
  obtain ⟨k0, k1, k2, k3, k4, k5, k6, k7, k8, k9, k10, k11, k12, planh, nexth, readsh, lineh, leadh⟩ := nh
  refine enter Tryz.func61 rfl Tryz.ntmps61 (Nat.le_of_ble_eq_true rfl) hp (nx_seq (nx_region ?_))
  refine nx_op rfl (op_box rfl rfl (fun b3 => ?_))
  refine nv v_assign (nx_nil (nx_then (nx_seq (nx_seq (dr_begin 11 (.q 0 (.q 1 (.q 2 (.q 3 (.q 4 (.q 5 (.q 6 (.q 7 (.q 8 (.q 9 (.q 10 .done))))))))))) rfl (by kernel_rfl) (dr_q rfl rfl v_move ic (dr_q rfl rfl v_nilCheck ic (dr_q rfl rfl v_fieldAddr ic (dr_q rfl rfl v_load1_s ic (dr_q rfl rfl v_load_o ic (dr_q rfl rfl (v_lookup_ok keyOk_port x 0 (.inl readsh) rfl rfl rfl (by rfl)) ic ?_)))))))))))
  refine dr_q rfl rfl v_move ic (dr_q rfl rfl (v_extract rfl rfl rfl) ic (dr_q rfl rfl (v_extract rfl rfl rfl) ic (dr_q rfl rfl v_assign ic (dr_q rfl rfl v_assign ic (dr_end rfl ?_)))))
  refine nx_nil (nx_np ?_)
  refine nx_then (nx_seq (nx_region (nv v_move (nx_nil (nx_then ?_)))))
  refine nx_cond rfl (fun c16 => ?_) (fun c16 => ?_)
  refine nx_seq (nx_region (nv v_move (nv v_assign (nx_nil (nx_then (nx_ret (nx_then_ret ?_)))))))
  exact nx_ret1 rfl (.tmp rfl) (rs ((by unfold NetD.readsAt; revert c16; cases getK N.reads x <;> simp [int_])))
  refine nx_skip (nx_then (nx_seq (nx_region (nv v_assign (nx_nil (nx_then (nx_ret ?_)))))))
  exact nx_ret1 rfl (.tmp rfl) (rs ((by unfold NetD.readsAt; revert c16; cases getK N.reads x <;> simp [int_])))
set_option maxRecDepth 20000 in
set_option maxHeartbeats 1000000 in
theorem at_ok {G : Gh} {H : List (Nat × Obj)} {W : World} (hp : Hp G H W) {g : Nat} {N : NetD} (h : NetAt G g N) (i : Int) : Calls Tryz.prog 177 ⟨[.pointer (some ⟨g, 0, none⟩), .int .i64 i]⟩ W (RetS G H (.tuple #[.agg ⟨((N.p.signalAt i).getD ⟨0, 0⟩).cells⟩, .bool (N.p.signalAt i).isSome])) := by
  obtain ⟨A1, n1, c1, A2, n2, c2, A3, n3, c3, A4, n4, c4, m1, m2, m3, m4, nh⟩ := h
  obtain ⟨k0, k1, k2, k3, k4, k5, k6, k7, k8, k9, k10, k11, k12, planh, nexth, readsh, lineh, leadh⟩ := nh
  have hl := planh.h3.length
  refine enter Tryz.func177 rfl Tryz.ntmps177 (Nat.le_of_ble_eq_true rfl) hp (nx_seq (nx_region ?_))
  refine nx_op rfl (op_alloc rfl (fun b4 => ?_))
  refine nv v_assign (nx_nil (nx_then (nx_seq (nx_seq (nx_region (nv v_move (nv v_lss (nv v_move ?_))))))))
  refine nx_guard_dec (t := 8) rfl (fun g8 => ?_) (fun g8 => ?_)
  refine nk (k := nk (k := nk (k := nk (k := nk (k := nk (k := nk (k := nk (k := nv v_pick_t (nx_nil (nx_then (nx_cond_t rfl ?_)))))))))))
  refine nx_seq (nx_region (nv (v_build rfl rfl rfl) (st (k := nv v_assign (nx_nil (nx_then (nx_ret (nx_then_ret ?_))))))))
  exact nx_ret2 rfl ro (.tmp rfl) (rs (by simp only [Plan.signalAt, if_pos g8]; rfl))
  refine nr v_move (nr v_move (nr v_nilCheck (nr v_fieldAddr (nr v_fieldAddr (nr v_load1_s (nr v_len (nr v_geq (nv v_pick_f (nx_nil (nx_then ?_))))))))))
  refine nx_cond_dec rfl (fun c17 => ?_) (fun c17 => ?_)
  refine nx_seq (nx_region (nv (v_build rfl rfl rfl) (st (k := nv v_assign (nx_nil (nx_then (nx_ret (nx_then_ret ?_))))))))
  exact nx_ret2 rfl ro (.tmp rfl) (rs (by simp only [Plan.signalAt]; rw [if_neg (by omega), List.getElem?_eq_none (by omega)]; rfl))
  obtain ⟨k, rfl⟩ : ∃ k : Nat, i = k := ⟨i.toNat, by omega⟩
  obtain ⟨b, o, rfl, hk, f0, f1, f2, f3⟩ := get_Signal planh.h3 (k := k) (x := N.p.signals[k]'(by omega)) (List.getElem?_eq_getElem (by omega))
  refine nx_skip (nx_then (nx_seq (nx_region (nv v_move (nv v_nilCheck (nv v_fieldAddr (nv v_fieldAddr (nv v_load1_s (nv v_move (nv (v_indexAddr_nat rfl rfl rfl (by omega)) (nv v_fieldAddr ?_)))))))))))
  refine nv v_load_s (st (k := nv v_assign (nx_nil (nx_then (nx_ret ?_)))))
  exact nx_ret2 rfl ro (.tmp rfl) (rs (by simp only [Plan.signalAt]; rw [if_neg (by omega), Int.toNat_natCast, List.getElem?_eq_getElem (by omega)]; rfl))
set_option maxRecDepth 20000 in
set_option maxHeartbeats 1000000 in
theorem outs_ok {G : Gh} {H : List (Nat × Obj)} {W : World} (hp : Hp G H W) {g : Nat} {N : NetD} (h : NetAt G g N) (e i : Int) : Calls Tryz.prog 170 ⟨[.pointer (some ⟨g, 0, none⟩), .int .i64 e, .int .i64 i]⟩ W (RetD G H (IsSl tWay (outs N.p e i))) := by
  have he := ends_le (N.p.kind e)
  refine enter Tryz.func170 rfl Tryz.ntmps170 (Nat.le_of_ble_eq_true rfl) hp (nx_seq (nx_region (nv v_assign (nx_nil (nx_then (nx_seq (nx_seq (nx_region (nv v_move (nv v_lss (nv v_move ?_)))))))))))
  refine nx_guard_dec (t := 10) rfl (fun g10 => ?_) (fun g10 => ?_)
  refine nk (k := nk (k := nk (k := nk (k := nk (k := nk (k := nv v_pick_t (nx_nil (nx_then (nx_cond_t rfl (nx_seq (nx_region ?_)))))))))))
  refine nv v_assign (nx_nil (nx_then (nx_ret (nx_then_ret ?_))))
  exact nx_ret1 rfl (.tmp rfl) (rt ((Gh.le.refl _)) ((by rw [show outs N.p e i = [] from by unfold outs; rw [if_pos (by omega)]]; exact IsSl.nil _)))
  refine nr v_move (nr v_move (nr v_move ?_))
  refine nx_op_run rfl rfl rfl (op_callS rfl rfl rfl (fun W hp => kind_ok hp h e) ?_)
  refine nx_op_run rfl rfl rfl (op_callS rfl rfl rfl (fun W hp => ends_ok hp _) ?_)
  refine nr v_geq (nv v_pick_f (nx_nil (nx_then ?_)))
  refine nx_cond_dec rfl (fun c17 => ?_) (fun c17 => ?_)
  refine nx_seq (nx_region (nv v_assign (nx_nil (nx_then (nx_ret (nx_then_ret ?_))))))
  exact nx_ret1 rfl (.tmp rfl) (rt ((Gh.le.refl _)) ((by rw [show outs N.p e i = [] from by unfold outs; rw [if_pos (by omega)]]; exact IsSl.nil _)))
  have hi : ¬ (i < 0 ∨ ends (N.p.kind e) ≤ i) := by omega
  refine nx_skip (nx_then (nx_seq (nx_seq (nx_region (nv v_move (nv v_move ?_))))))
  refine nx_op rfl (op_callS rfl rfl rfl (fun W hp => kind_ok hp h e) ?_)
  refine nx_nil (nx_then (nx_block (nx_seq (nx_region (nv v_eql (nv v_assign (nx_nil (nx_then ?_))))))))
  refine nx_cond_dec rfl (fun c21 => ?_) (fun c21 => ?_)
  refine nx_seq (nx_region (nv v_move (nv v_sub (nv (v_build rfl rfl rfl) ?_))))
  refine nx_op rfl (op_buildSlice rfl rfl rfl rfl rfl (fun b26 => ?_))
  refine nv v_assign (nx_nil (nx_then (nx_ret (nx_in_ret (nx_then_ret ?_)))))
  refine nx_row (T := tWay) (l := [⟨1 - i, 0⟩]) (by repeat (first | exact Take.here | apply Take.cons | apply Take.app)) (rows_Way [⟨1 - i, 0⟩]) rfl (Nat.le_of_ble_eq_true rfl) (fun G9 le9 s9 => ?_)
  exact nx_ret1 rfl (.tmp rfl) (rt (le9) (by rw [show outs N.p e _ = [⟨1 - i, 0⟩] from by unfold outs; rw [if_neg hi]; simp [*] <;> omega]; exact IsSl.of s9))
  refine nx_seq (nx_region (nv v_eql (nv v_assign (nx_nil (nx_then ?_)))))
  refine nx_cond_dec rfl (fun c27 => ?_) (fun c27 => ?_)
  refine nx_seq (nx_region (nv (v_buildA rfl rfl rfl) ?_))
  refine nx_op rfl (op_alloc rfl (fun b7 => ?_))
  refine st (k := nx_nil (nx_then (nx_seq (nx_region (nv v_move ?_)))))
  obtain ⟨k, rfl⟩ : ∃ k : Nat, i = k := ⟨i.toNat, by omega⟩
  have hk : k < 4 := by omega
  have hac : readN [Value.int .i64 1, .int .i64 0, .int .i64 3, .int .i64 2] (0 + k * 1) 1 = some [.int .i64 (across k)] := by
    rcases (by omega : k = 0 ∨ k = 1 ∨ k = 2 ∨ k = 3) with rfl | rfl | rfl | rfl <;> rfl
  refine nv (v_indexAddrA rfl rfl rfl hk) (nv (v_load1_o rfl rfl (.here hac)) (nv (v_build rfl rfl rfl) ?_))
  refine nx_op rfl (op_buildSlice rfl rfl rfl rfl rfl (fun b34 => ?_))
  refine nv v_assign (nx_nil (nx_then (nx_ret (nx_in_ret (nx_then_ret ?_)))))
  refine nx_row (T := tWay) (l := [⟨across k, 0⟩]) (by repeat (first | exact Take.here | apply Take.cons | apply Take.app)) (rows_Way [⟨across k, 0⟩]) rfl (Nat.le_of_ble_eq_true rfl) (fun G9 le9 s9 => ?_)
  exact nx_ret1 rfl (.tmp rfl) (rt (le9) (by rw [show outs N.p e _ = [⟨across k, 0⟩] from by unfold outs; rw [if_neg hi]; simp [*] <;> omega]; exact IsSl.of s9))
  refine nx_seq (nx_region (nv v_eql (nv v_assign (nx_nil (nx_then ?_)))))
  refine nx_cond_dec rfl (fun c35 => ?_) (fun c35 => ?_)
  refine nx_seq (nx_seq (nx_region (nv v_move (nv v_eql (nx_nil (nx_then ?_))))))
  refine nx_cond_dec rfl (fun c38 => ?_) (fun c38 => ?_)
  refine nx_seq (nx_region (nv (v_build rfl rfl rfl) (nv (v_build rfl rfl rfl) ?_)))
  refine nx_op rfl (op_buildSlice rfl rfl rfl rfl rfl (fun b41 => ?_))
  refine nv v_assign (nx_nil (nx_then (nx_ret (nx_then_ret (nx_in_ret (nx_then_ret ?_))))))
  refine nx_row (T := tWay) (l := [⟨1, 1⟩, ⟨2, 2⟩]) (by repeat (first | exact Take.here | apply Take.cons | apply Take.app)) (rows_Way [⟨1, 1⟩, ⟨2, 2⟩]) rfl (Nat.le_of_ble_eq_true rfl) (fun G9 le9 s9 => ?_)
  exact nx_ret1 rfl (.tmp rfl) (rt (le9) (by rw [show outs N.p e _ = [⟨1, 1⟩, ⟨2, 2⟩] from by unfold outs; rw [if_neg hi]; simp [*] <;> omega]; exact IsSl.of s9))
  refine nx_skip (nx_then (nx_seq (nx_region (nv (v_buildA rfl rfl rfl) (nv v_move ?_)))))
  obtain ⟨k, rfl⟩ : ∃ k : Nat, i = k := ⟨i.toNat, by omega⟩
  have hk : k < 3 := by revert hi; simp [ends, *]; omega
  have hix : [Value.int .i64 0, .int .i64 1, .int .i64 2][k]? = some (.int .i64 (if (k : Int) = 1 then 1 else 2)) := by
    rcases (by omega : k = 1 ∨ k = 2) with rfl | rfl <;> rfl
  refine nv (v_index rfl rfl rfl hk hix) (nv (v_build rfl rfl rfl) ?_)
  refine nx_op rfl (op_buildSlice rfl rfl rfl rfl rfl (fun b46 => ?_))
  refine nv v_assign (nx_nil (nx_then (nx_ret (nx_in_ret (nx_then_ret ?_)))))
  refine nx_row (T := tWay) (l := [⟨0, if (k : Int) = 1 then 1 else 2⟩]) (by repeat (first | exact Take.here | apply Take.cons | apply Take.app)) (rows_Way [⟨0, if (k : Int) = 1 then 1 else 2⟩]) rfl (Nat.le_of_ble_eq_true rfl) (fun G9 le9 s9 => ?_)
  exact nx_ret1 rfl (.tmp rfl) (rt (le9) (by rw [show outs N.p e _ = [⟨0, if (k : Int) = 1 then 1 else 2⟩] from by unfold outs; rw [if_neg hi]; simp [*] <;> omega]; exact IsSl.of s9))
  refine nx_skip (nx_in _ (nx_then (nx_seq (nx_region (nv v_assign (nx_nil (nx_then (nx_ret ?_))))))))
  exact nx_ret1 rfl (.tmp rfl) (rt ((Gh.le.refl _)) ((by rw [show outs N.p e i = [] from by unfold outs; rw [if_neg hi]; simp [*]]; exact IsSl.nil _)))
set_option maxRecDepth 20000 in
set_option maxHeartbeats 1000000 in
theorem through_ok {G : Gh} {H : List (Nat × Obj)} {W : World} (hp : Hp G H W) {g : Nat} {N : NetD} (h : NetAt G g N) (e i pos : Int) : Calls Tryz.prog 118 ⟨[.pointer (some ⟨g, 0, none⟩), .int .i64 e, .int .i64 i, .int .i64 pos]⟩ W (RetD G H (fun _ v => v = .tuple #[.int .i64 ((through N.p e i pos).getD 0), .bool (through N.p e i pos).isSome])) := by
  refine enter Tryz.func118 rfl Tryz.ntmps118 (Nat.le_of_ble_eq_true rfl) hp (nx_seq (nx_region (nv v_assign (nv v_assign (nx_nil (nx_then (nx_seq (nx_seq (nx_region (nv v_move (nv v_move ?_)))))))))))
  refine nv v_move ?_
  refine nx_op rfl (op_callD rfl rfl rfl (fun W hp => outs_ok hp h e i) (fun v15 G15 le15 ph15 => ?_))
  obtain ⟨A, c, rfl, hs⟩ := ph15
  have hb := Nat.le_trans hs.cap hs.room
  refine nv v_len (nv v_move (nx_nil (nx_then (nx_block ?_))))
  refine nx_loop_v (σ := Nat) [0, 1, 2, 3, 12, 13, 14, 15, 16] (fun s => [(17, .int .i64 (s : Int))]) (fun _ => G15) (fun _ => _) (fun s => ((outs N.p e i).drop s).find? (Way.may pos) = (outs N.p e i).find? (Way.may pos)) (fun s => (outs N.p e i).length - s) 0 (.cons rfl (.cons rfl (.cons rfl (.cons rfl (.cons rfl (.cons rfl (.cons rfl (.cons rfl (.cons rfl (.nil)))))))))) ⟨rfl, trivial⟩ rfl rfl rfl ?_
  intro s hI K next
  refine nx_seq (nx_region (nv v_lss (nx_nil (nx_then (nx_seq ?_)))))
  refine nx_cond_dec rfl (fun c18 => ?_) (fun c18 => ?_)
  obtain ⟨x, rest, hd, hx⟩ := drop_of_lt (xs := outs N.p e i) (k := s) (by omega)
  obtain ⟨b, o, rfl, hk, hr, f0, f1⟩ := next_Way hs hd
  refine nx_skip (nx_then (nx_seq (nx_block (nx_seq (nx_region (nv (v_indexAddr_nat rfl rfl rfl (by omega)) (nv v_load_s ?_)))))))
  refine nx_op rfl (op_alloc rfl (fun b11 => ?_))
  refine st (k := nx_nil (nx_then (nx_seq (nx_region (nv v_fieldAddr (nv v_load1_o (nv v_eql (nv v_move ?_))))))))
  refine nx_guard_dec (t := 24) rfl (fun g24 => ?_) (fun g24 => ?_)
  refine nk (k := nk (k := nk (k := nk (k := nv v_pick_t (nx_nil (nx_then (nx_cond_t rfl (nx_seq (nx_region (nv v_fieldAddr (nv v_load1_o ?_)))))))))))
  refine nv v_assign (nv v_assign (nx_nil (nx_then (nx_ret (nx_in_ret (nx_then_ret (nx_then_ret (nx_in_ret (nx_then_ret ?_)))))))))
  have hsome : through N.p e i pos = some x.out := by unfold through; rw [← hI, hd, List.find?_cons_of_pos (by simp [Way.may, *])]; rfl
  exact nx_ret2 rfl (.tmp rfl) (.tmp rfl) (rt le15 (by rw [hsome]; rfl))
  refine nr v_fieldAddr (nr v_load1_o (nr v_move (nr v_eql (nv v_pick_f (nx_nil (nx_then ?_))))))
  refine nx_cond_dec rfl (fun c29 => ?_) (fun c29 => ?_)
  refine nx_seq (nx_region (nv v_fieldAddr (nv v_load1_o (nv v_assign (nv v_assign (nx_nil (nx_then (nx_ret (nx_in_ret (nx_then_ret (nx_then_ret ?_)))))))))))
  refine nx_in_ret (nx_then_ret ?_)
  have hsome : through N.p e i pos = some x.out := by unfold through; rw [← hI, hd, List.find?_cons_of_pos (by simp [Way.may, *])]; rfl
  exact nx_ret2 rfl (.tmp rfl) (.tmp rfl) (rt le15 (by rw [hsome]; rfl))
  refine nx_skip (nx_in _ (nx_then (nx_region (nv v_add (nv v_move (nx_nil (nx_then ?_)))))))
  exact nn (next (s + 1) (by rw [← hI, hd, hr, List.find?_cons_of_neg (by simp [Way.may, *])]) (by omega))
  have hnone : through N.p e i pos = none := by unfold through; rw [← hI, List.drop_eq_nil_of_le (by omega)]; rfl
  refine nx_exit (nx_then_exit (nx_then_exit (nx_in_eq (nx_then (nx_seq (nx_region (nv v_assign (nv v_assign (nx_nil (nx_then (nx_ret ?_)))))))))))
  exact nx_ret2 rfl (.tmp rfl) (.tmp rfl) (rt le15 (by rw [hnone]; rfl))
set_option maxRecDepth 20000 in
set_option maxHeartbeats 1000000 in
theorem from_ok {G : Gh} {H : List (Nat × Obj)} {W : World} (hp : Hp G H W) {g : Nat} {N : NetD} (h : NetAt G g N) (e i pos : Int) : Calls Tryz.prog 147 ⟨[.pointer (some ⟨g, 0, none⟩), .int .i64 e, .int .i64 i, .int .i64 pos]⟩ W (RetD G H (fun _ v => v = .tuple #[.int .i64 ((through N.p e i pos).getD 0), .bool (through N.p e i pos).isSome])) := by
  refine enter Tryz.func147 rfl Tryz.ntmps147 (Nat.le_of_ble_eq_true rfl) hp (nx_seq (nx_region (nv v_assign (nv v_assign (nx_nil (nx_then (nx_seq (nx_region (nv v_move (nv v_move (nv v_move ?_)))))))))))
  refine nv v_move ?_
  refine nx_op rfl (op_callD rfl rfl rfl (fun W hp => through_ok hp h e i pos) (fun v14 G14 le14 ph14 => ?_))
  subst ph14
  refine nv (v_extract rfl rfl rfl) (nv (v_extract rfl rfl rfl) (nv v_assign (nv v_assign (nx_nil (nx_then (nx_ret ?_))))))
  exact nx_ret2 rfl (.tmp rfl) (.tmp rfl) (rt le14 rfl)
def stopF : Nat → Int → Int → Int → Int
  | 0, _, _, n => n
  | k + 1, v, b, n => if v > 0 then stopF k (v - b) b (n + v) else n
def stop (v b : Int) : Int := if v < 0 ∨ v > 60 ∨ b < 1 ∨ b > 10 then 0 else stopF 60 (v - b) b 0
set_option maxRecDepth 20000 in
set_option maxHeartbeats 1000000 in
theorem stop_ok {G : Gh} {H : List (Nat × Obj)} {W : World} (hp : Hp G H W) (v b : Int) : Calls Tryz.prog 174 ⟨[.int .i64 v, .int .i64 b]⟩ W (RetS G H (.int .i64 (stop v b))) := by
  refine enter Tryz.func174 rfl Tryz.ntmps174 (Nat.le_of_ble_eq_true rfl) hp (nx_seq (nx_region (nv v_assign (nx_nil (nx_then (nx_seq (nx_seq (nx_region (nv v_move (nv v_lss (nv v_move ?_)))))))))))
  refine nx_guard_dec (t := 8) rfl (fun g8 => ?_) (fun g8 => ?_)
  refine nk (k := nk (k := nv v_pick_t (nv v_move (nk (k := nk (k := nv v_pick_t (nv v_move (nk (k := nk (k := nv v_pick_t (nx_nil ?_)))))))))))
  refine nx_then (nx_cond_t rfl (nx_seq (nx_region (nv v_assign (nx_nil (nx_then (nx_ret (nx_then_ret ?_))))))))
  exact nx_ret1 rfl (.tmp rfl) (rs (by unfold stop; rw [if_pos (by omega)]))
  refine nr v_move (nr v_gtr (nv v_pick_f (nv v_move ?_)))
  refine nx_guard_dec (t := 12) rfl (fun g12 => ?_) (fun g12 => ?_)
  refine nk (k := nk (k := nv v_pick_t (nv v_move (nk (k := nk (k := nv v_pick_t (nx_nil (nx_then (nx_cond_t rfl (nx_seq (nx_region ?_)))))))))))
  refine nv v_assign (nx_nil (nx_then (nx_ret (nx_then_ret ?_))))
  exact nx_ret1 rfl (.tmp rfl) (rs (by unfold stop; rw [if_pos (by omega)]))
  refine nr v_move (nr v_lss (nv v_pick_f (nv v_move ?_)))
  refine nx_guard_dec (t := 16) rfl (fun g16 => ?_) (fun g16 => ?_)
  refine nk (k := nk (k := nv v_pick_t (nx_nil (nx_then (nx_cond_t rfl (nx_seq (nx_region (nv v_assign (nx_nil (nx_then (nx_ret ?_)))))))))))
  refine nx_then_ret ?_
  exact nx_ret1 rfl (.tmp rfl) (rs (by unfold stop; rw [if_pos (by omega)]))
  refine nr v_move (nr v_gtr (nv v_pick_f (nx_nil (nx_then ?_))))
  refine nx_cond_dec rfl (fun c19 => ?_) (fun c19 => ?_)
  refine nx_seq (nx_region (nv v_assign (nx_nil (nx_then (nx_ret (nx_then_ret ?_))))))
  exact nx_ret1 rfl (.tmp rfl) (rs (by unfold stop; rw [if_pos (by omega)]))
  have hs : stop v b = stopF 60 (v - b) b 0 := by unfold stop; rw [if_neg (by omega)]
  refine nx_skip (nx_then (nx_seq (nx_region (nv v_assign (nx_nil (nx_then (nx_seq (nx_seq (nx_region (nv v_move (nv v_move ?_)))))))))))
  refine nv v_sub (nv v_assign (nx_nil (nx_then (nx_block ?_))))
  refine nx_loop_v (σ := Nat × Int × Int) [1, 4, 6, 7, 8, 9, 10, 11, 12, 13, 14, 15, 16, 17, 18, 19, 20, 21, 22] (fun s => [(5, .int .i64 s.2.2), (0, .int .i64 s.2.1)]) (fun _ => G) (fun _ => _) (fun s => stopF s.1 s.2.1 b s.2.2 = stop v b ∧ s.2.1 ≤ s.1 ∧ s.2.1 < 60 ∧ -10 ≤ s.2.1 ∧ 0 ≤ s.2.2 ∧ s.2.2 ≤ 60 * (60 - s.1)) (fun s => s.1) (60, v - b, 0) (.cons rfl (.cons rfl (.cons rfl (.cons rfl (.cons rfl (.cons rfl (.cons rfl (.cons rfl (.cons rfl (.cons rfl (.cons rfl (.cons rfl (.cons rfl (.cons rfl (.cons rfl (.cons rfl (.cons rfl (.cons rfl (.cons rfl (.nil)))))))))))))))))))) ⟨rfl, rfl, trivial⟩ ⟨hs.symm, by simp; omega⟩ rfl rfl ?_
  rintro ⟨k, u, m⟩ ⟨hI, h1, h2, h3, h4, h5⟩ K next
  dsimp only at hI h1 h2 h3 h4 h5 ⊢
  refine nx_seq (nx_seq (nx_region (nv v_move (nv v_gtr (nx_nil (nx_then ?_))))))
  refine nx_cond_dec rfl (fun c24 => ?_) (fun c24 => ?_)
  obtain ⟨k, rfl⟩ : ∃ j, k = j + 1 := ⟨k - 1, by omega⟩
  refine nx_skip (nx_then (nx_seq (nx_block (nx_region (nv v_move (nv v_move (nv v_add (nv v_assign (nx_nil (nx_in _ (nx_then ?_)))))))))))
  refine nx_region (nv v_move (nv v_move (nv v_sub (nv v_assign (nx_nil (nx_then ?_))))))
  exact nn (next (k, u - b, m + u) ⟨(by rw [← hI]; simp [stopF, c24]), (by simp at *; omega)⟩ (by simp))
  refine nx_exit (nx_then_exit (nx_then_exit (nx_in_eq (nx_then (nx_seq (nx_region (nv v_move (nv v_assign (nx_nil (nx_then (nx_ret ?_)))))))))))
  exact nx_ret1 rfl (.tmp rfl) (rs ((by rw [← hI]; cases k <;> simp [stopF, c24])))
end Go.Proofs.YtjckojnlapchoaaGreat
open Go Go.RowKit
namespace Go.Proofs.YtjckojnlapchoaaGreat
open Go.Proofs
theorem find_some {α : Type} {p : α → Bool} : ∀ {l : List α} {k : Nat} {x : α}, (∀ (j : Nat) (y : α), j < k → l[j]? = some y → p y = false) → l[k]? = some x → p x = true → l.findIdx? p = some k
  | [], k, x, _, hx, _ => by simp at hx
  | a :: l, 0, x, _, hx, hp => by simp at hx; subst hx; simp [List.findIdx?_cons, hp]
  | a :: l, k + 1, x, h, hx, hp => by
    have h0 := h 0 a (by omega) rfl
    have ih := find_some (l := l) (k := k) (x := x) (fun j y hj hy => h (j + 1) y (by omega) (by simpa using hy)) (by simpa using hx) hp
    simp [List.findIdx?_cons, h0, ih]
theorem find_none {α : Type} {p : α → Bool} {l : List α} (h : ∀ (j : Nat) (y : α), l[j]? = some y → p y = false) : l.findIdx? p = none := by
  rw [List.findIdx?_eq_none_iff]
  intro x hx
  obtain ⟨j, hj⟩ := List.getElem?_of_mem hx
  exact h j x hj
def ixV (o : Option Nat) : Int := match o with | some i => (i : Int) | none => -1
theorem ixV_nonneg {α : Type} (l : List α) (p : α → Bool) : decide (0 ≤ ixV (l.findIdx? p)) = l.any p := by
  cases h : l.findIdx? p with
  | none =>
    rw [List.findIdx?_eq_none_iff] at h
    have : l.any p = false := by rw [List.any_eq_false]; intro x hx; simp [h x hx]
    rw [this]; rfl
  | some i =>
    obtain ⟨hi, hp, _⟩ := List.findIdx?_eq_some_iff_getElem.1 h
    have : l.any p = true := by rw [List.any_eq_true]; exact ⟨_, List.getElem_mem hi, hp⟩
    rw [this]; simp [ixV]
set_option maxRecDepth 20000 in
set_option maxHeartbeats 1000000 in
theorem indexFunc_Step {G : Gh} {H : List (Nat × Obj)} {W : World} (hp : Hp G H W) {A : Option Addr} {n c : Nat} {l : List Step} (hs : Sl tStep G A n c l) {fn : Nat} [FnT Tryz.prog fn] {fst cap : List Value} (p : Step → Bool)
    (hf : ∀ x, x ∈ l → Does Tryz.prog fn (fst ++ [.agg ⟨x.cells⟩] ++ cap) G H (.bool (p x))) : Calls Tryz.prog 201 ⟨[.slice A n c, .func (.func fn) ⟨fst⟩ ⟨cap⟩]⟩ W (RetD G H (fun _ v => v = .int .i64 (ixV (l.findIdx? p)))) := by
  have hl := hs.length
  have hb := Nat.le_trans hs.cap hs.room
  refine enter Tryz.func201 rfl Tryz.ntmps201 (Nat.le_of_ble_eq_true rfl) hp (nx_seq (nx_region (nv v_assign (nx_nil (nx_then (nx_seq (nx_seq (nx_region (nv v_move (nv v_len (nv v_move ?_)))))))))))
  refine nx_nil (nx_then (nx_block ?_))
  refine nx_loop_v (σ := Nat × Gh) [0, 1, 6, 7] (fun s => [(8, .int .i64 (s.1 : Int))]) (fun s => s.2) (fun _ => _) (fun s => G.le s.2 ∧ ∀ j y, j < s.1 → l[j]? = some y → p y = false) (fun s => n - s.1) (0, G) (.cons rfl (.cons rfl (.cons rfl (.cons rfl (.nil))))) ⟨rfl, trivial⟩ ⟨Gh.le.refl _, fun j y hj => absurd hj (Nat.not_lt_zero _)⟩ rfl rfl ?_
  rintro ⟨k, G1⟩ ⟨le1, hI⟩ K next
  dsimp only at le1 hI ⊢
  refine nx_seq (nx_region (nv v_lss (nx_nil (nx_then (nx_seq ?_)))))
  refine nx_cond_dec rfl (fun c9 => ?_) (fun c9 => ?_)
  obtain ⟨x, rest, hd, hx⟩ := drop_of_lt (xs := l) (k := k) (by omega)
  obtain ⟨xb, xo, xe, xk, xr, xf0, xf1, xf2⟩ := next_Step (hs.le le1) hd
  cases xe
  refine nx_skip (nx_then (nx_seq (nx_block (nx_seq (nx_region (nv v_move (nv v_assign (nx_nil (nx_then (nx_seq (nx_region ?_)))))))))))
  refine nv v_move (nv v_move (nv v_move (nv (v_indexAddr_nat rfl rfl rfl (by omega)) (nv v_load_s ?_))))
  refine nx_op rfl (op_callD rfl rfl rfl (fun W hp => hf x (List.mem_of_getElem? hx) _ _ W le1 (by repeat (first | exact Suf.refl | apply Suf.keep | apply Suf.cons | apply Suf.keepN | apply Suf.app)) hp) (fun v16 G16 le16 ph16 => ?_))
  subst ph16
  refine nx_nil (nx_then ?_)
  refine nx_cond rfl (fun c16 => ?_) (fun c16 => ?_)
  refine nx_seq (nx_region (nv v_move (nv v_assign (nx_nil (nx_then (nx_ret (nx_in_ret (nx_then_ret (nx_then_ret (nx_in_ret (nx_then_ret ?_)))))))))))
  exact nx_ret1 rfl (.tmp rfl) (rt ((Gh.le.trans le1 le16)) (by rw [find_some hI hx c16]; rfl))
  refine nx_skip (nx_in _ (nx_then (nx_region (nv v_add (nv v_move (nx_nil (nx_then ?_)))))))
  exact nn (next (k + 1, G16) ⟨(Gh.le.trans le1 le16), fun j y hj hy => (by rcases (by omega : j < k ∨ j = k) with h | h; exact hI j y h hy; subst h; rw [hx] at hy; cases hy; exact c16)⟩ (by dsimp only; omega))
  refine nx_exit (nx_then_exit (nx_then_exit (nx_in_eq (nx_then (nx_seq (nx_region (nv v_assign (nx_nil (nx_then (nx_ret ?_))))))))))
  exact nx_ret1 rfl (.tmp rfl) (rt (le1) (by rw [find_none (p := p) (l := l) (fun j y hy => hI j y (by have := (List.getElem?_eq_some_iff.1 hy).1; omega) hy)]; rfl))
set_option maxRecDepth 20000 in
set_option maxHeartbeats 1000000 in
theorem containsFunc_Step {G : Gh} {H : List (Nat × Obj)} {W : World} (hp : Hp G H W) {A : Option Addr} {n c : Nat} {l : List Step} (hs : Sl tStep G A n c l) {fn : Nat} [FnT Tryz.prog fn] {fst cap : List Value} (p : Step → Bool)
    (hf : ∀ x, x ∈ l → Does Tryz.prog fn (fst ++ [.agg ⟨x.cells⟩] ++ cap) G H (.bool (p x))) : Calls Tryz.prog 182 ⟨[.slice A n c, .func (.func fn) ⟨fst⟩ ⟨cap⟩]⟩ W (RetD G H (fun _ v => v = .bool (l.any p))) := by
  refine enter Tryz.func182 rfl Tryz.ntmps182 (Nat.le_of_ble_eq_true rfl) hp (nx_seq (nx_region (nv v_assign (nx_nil (nx_then (nx_seq (nx_region (nv v_move (nv v_move ?_)))))))))
  refine nx_op rfl (op_callD rfl rfl rfl (fun W hp => indexFunc_Step hp hs p hf) (fun v7 G7 le7 ph7 => ?_))
  subst ph7
  refine nv v_geq (nv v_assign (nx_nil (nx_then (nx_ret ?_))))
  exact nx_ret1 rfl (.tmp rfl) (rt (le7) (by rw [ixV_nonneg]))
set_option maxRecDepth 20000 in
set_option maxHeartbeats 1000000 in
theorem indexFunc_Way {G : Gh} {H : List (Nat × Obj)} {W : World} (hp : Hp G H W) {A : Option Addr} {n c : Nat} {l : List Way} (hs : Sl tWay G A n c l) {fn : Nat} [FnT Tryz.prog fn] {fst cap : List Value} (p : Way → Bool)
    (hf : ∀ x, x ∈ l → Does Tryz.prog fn (fst ++ [.agg ⟨x.cells⟩] ++ cap) G H (.bool (p x))) : Calls Tryz.prog 215 ⟨[.slice A n c, .func (.func fn) ⟨fst⟩ ⟨cap⟩]⟩ W (RetD G H (fun _ v => v = .int .i64 (ixV (l.findIdx? p)))) := by
  have hl := hs.length
  have hb := Nat.le_trans hs.cap hs.room
  refine enter Tryz.func215 rfl Tryz.ntmps215 (Nat.le_of_ble_eq_true rfl) hp (nx_seq (nx_region (nv v_assign (nx_nil (nx_then (nx_seq (nx_seq (nx_region (nv v_move (nv v_len (nv v_move ?_)))))))))))
  refine nx_nil (nx_then (nx_block ?_))
  refine nx_loop_v (σ := Nat × Gh) [0, 1, 6, 7] (fun s => [(8, .int .i64 (s.1 : Int))]) (fun s => s.2) (fun _ => _) (fun s => G.le s.2 ∧ ∀ j y, j < s.1 → l[j]? = some y → p y = false) (fun s => n - s.1) (0, G) (.cons rfl (.cons rfl (.cons rfl (.cons rfl (.nil))))) ⟨rfl, trivial⟩ ⟨Gh.le.refl _, fun j y hj => absurd hj (Nat.not_lt_zero _)⟩ rfl rfl ?_
  rintro ⟨k, G1⟩ ⟨le1, hI⟩ K next
  dsimp only at le1 hI ⊢
  refine nx_seq (nx_region (nv v_lss (nx_nil (nx_then (nx_seq ?_)))))
  refine nx_cond_dec rfl (fun c9 => ?_) (fun c9 => ?_)
  obtain ⟨x, rest, hd, hx⟩ := drop_of_lt (xs := l) (k := k) (by omega)
  obtain ⟨xb, xo, xe, xk, xr, xf0, xf1⟩ := next_Way (hs.le le1) hd
  cases xe
  refine nx_skip (nx_then (nx_seq (nx_block (nx_seq (nx_region (nv v_move (nv v_assign (nx_nil (nx_then (nx_seq (nx_region ?_)))))))))))
  refine nv v_move (nv v_move (nv v_move (nv (v_indexAddr_nat rfl rfl rfl (by omega)) (nv v_load_s ?_))))
  refine nx_op rfl (op_callD rfl rfl rfl (fun W hp => hf x (List.mem_of_getElem? hx) _ _ W le1 (by repeat (first | exact Suf.refl | apply Suf.keep | apply Suf.cons | apply Suf.keepN | apply Suf.app)) hp) (fun v16 G16 le16 ph16 => ?_))
  subst ph16
  refine nx_nil (nx_then ?_)
  refine nx_cond rfl (fun c16 => ?_) (fun c16 => ?_)
  refine nx_seq (nx_region (nv v_move (nv v_assign (nx_nil (nx_then (nx_ret (nx_in_ret (nx_then_ret (nx_then_ret (nx_in_ret (nx_then_ret ?_)))))))))))
  exact nx_ret1 rfl (.tmp rfl) (rt ((Gh.le.trans le1 le16)) (by rw [find_some hI hx c16]; rfl))
  refine nx_skip (nx_in _ (nx_then (nx_region (nv v_add (nv v_move (nx_nil (nx_then ?_)))))))
  exact nn (next (k + 1, G16) ⟨(Gh.le.trans le1 le16), fun j y hj hy => (by rcases (by omega : j < k ∨ j = k) with h | h; exact hI j y h hy; subst h; rw [hx] at hy; cases hy; exact c16)⟩ (by dsimp only; omega))
  refine nx_exit (nx_then_exit (nx_then_exit (nx_in_eq (nx_then (nx_seq (nx_region (nv v_assign (nx_nil (nx_then (nx_ret ?_))))))))))
  exact nx_ret1 rfl (.tmp rfl) (rt (le1) (by rw [find_none (p := p) (l := l) (fun j y hy => hI j y (by have := (List.getElem?_eq_some_iff.1 hy).1; omega) hy)]; rfl))
set_option maxRecDepth 20000 in
set_option maxHeartbeats 1000000 in
theorem containsFunc_Way {G : Gh} {H : List (Nat × Obj)} {W : World} (hp : Hp G H W) {A : Option Addr} {n c : Nat} {l : List Way} (hs : Sl tWay G A n c l) {fn : Nat} [FnT Tryz.prog fn] {fst cap : List Value} (p : Way → Bool)
    (hf : ∀ x, x ∈ l → Does Tryz.prog fn (fst ++ [.agg ⟨x.cells⟩] ++ cap) G H (.bool (p x))) : Calls Tryz.prog 202 ⟨[.slice A n c, .func (.func fn) ⟨fst⟩ ⟨cap⟩]⟩ W (RetD G H (fun _ v => v = .bool (l.any p))) := by
  refine enter Tryz.func202 rfl Tryz.ntmps202 (Nat.le_of_ble_eq_true rfl) hp (nx_seq (nx_region (nv v_assign (nx_nil (nx_then (nx_seq (nx_region (nv v_move (nv v_move ?_)))))))))
  refine nx_op rfl (op_callD rfl rfl rfl (fun W hp => indexFunc_Way hp hs p hf) (fun v7 G7 le7 ph7 => ?_))
  subst ph7
  refine nv v_geq (nv v_assign (nx_nil (nx_then (nx_ret ?_))))
  exact nx_ret1 rfl (.tmp rfl) (rt (le7) (by rw [ixV_nonneg]))
set_option maxRecDepth 20000 in
set_option maxHeartbeats 1000000 in
theorem indexFunc_Stock {G : Gh} {H : List (Nat × Obj)} {W : World} (hp : Hp G H W) {A : Option Addr} {n c : Nat} {l : List Stock} (hs : Sl tStock G A n c l) {fn : Nat} [FnT Tryz.prog fn] {fst cap : List Value} (p : Stock → Bool)
    (hf : ∀ x, x ∈ l → Does Tryz.prog fn (fst ++ [.agg ⟨x.cells⟩] ++ cap) G H (.bool (p x))) : Calls Tryz.prog 162 ⟨[.slice A n c, .func (.func fn) ⟨fst⟩ ⟨cap⟩]⟩ W (RetD G H (fun _ v => v = .int .i64 (ixV (l.findIdx? p)))) := by
  have hl := hs.length
  have hb := Nat.le_trans hs.cap hs.room
  refine enter Tryz.func162 rfl Tryz.ntmps162 (Nat.le_of_ble_eq_true rfl) hp (nx_seq (nx_region (nv v_assign (nx_nil (nx_then (nx_seq (nx_seq (nx_region (nv v_move (nv v_len (nv v_move ?_)))))))))))
  refine nx_nil (nx_then (nx_block ?_))
  refine nx_loop_v (σ := Nat × Gh) [0, 1, 6, 7] (fun s => [(8, .int .i64 (s.1 : Int))]) (fun s => s.2) (fun _ => _) (fun s => G.le s.2 ∧ ∀ j y, j < s.1 → l[j]? = some y → p y = false) (fun s => n - s.1) (0, G) (.cons rfl (.cons rfl (.cons rfl (.cons rfl (.nil))))) ⟨rfl, trivial⟩ ⟨Gh.le.refl _, fun j y hj => absurd hj (Nat.not_lt_zero _)⟩ rfl rfl ?_
  rintro ⟨k, G1⟩ ⟨le1, hI⟩ K next
  dsimp only at le1 hI ⊢
  refine nx_seq (nx_region (nv v_lss (nx_nil (nx_then (nx_seq ?_)))))
  refine nx_cond_dec rfl (fun c9 => ?_) (fun c9 => ?_)
  obtain ⟨x, rest, hd, hx⟩ := drop_of_lt (xs := l) (k := k) (by omega)
  obtain ⟨xb, xo, xe, xk, xr, xf0, xf1, xf2, xf3, xf4⟩ := next_Stock (hs.le le1) hd
  cases xe
  refine nx_skip (nx_then (nx_seq (nx_block (nx_seq (nx_region (nv v_move (nv v_assign (nx_nil (nx_then (nx_seq (nx_region ?_)))))))))))
  refine nv v_move (nv v_move (nv v_move (nv (v_indexAddr_nat rfl rfl rfl (by omega)) (nv v_load_s ?_))))
  refine nx_op rfl (op_callD rfl rfl rfl (fun W hp => hf x (List.mem_of_getElem? hx) _ _ W le1 (by repeat (first | exact Suf.refl | apply Suf.keep | apply Suf.cons | apply Suf.keepN | apply Suf.app)) hp) (fun v16 G16 le16 ph16 => ?_))
  subst ph16
  refine nx_nil (nx_then ?_)
  refine nx_cond rfl (fun c16 => ?_) (fun c16 => ?_)
  refine nx_seq (nx_region (nv v_move (nv v_assign (nx_nil (nx_then (nx_ret (nx_in_ret (nx_then_ret (nx_then_ret (nx_in_ret (nx_then_ret ?_)))))))))))
  exact nx_ret1 rfl (.tmp rfl) (rt ((Gh.le.trans le1 le16)) (by rw [find_some hI hx c16]; rfl))
  refine nx_skip (nx_in _ (nx_then (nx_region (nv v_add (nv v_move (nx_nil (nx_then ?_)))))))
  exact nn (next (k + 1, G16) ⟨(Gh.le.trans le1 le16), fun j y hj hy => (by rcases (by omega : j < k ∨ j = k) with h | h; exact hI j y h hy; subst h; rw [hx] at hy; cases hy; exact c16)⟩ (by dsimp only; omega))
  refine nx_exit (nx_then_exit (nx_then_exit (nx_in_eq (nx_then (nx_seq (nx_region (nv v_assign (nx_nil (nx_then (nx_ret ?_))))))))))
  exact nx_ret1 rfl (.tmp rfl) (rt (le1) (by rw [find_none (p := p) (l := l) (fun j y hy => hI j y (by have := (List.getElem?_eq_some_iff.1 hy).1; omega) hy)]; rfl))
set_option maxRecDepth 20000 in
set_option maxHeartbeats 1000000 in
theorem containsFunc_Stock {G : Gh} {H : List (Nat × Obj)} {W : World} (hp : Hp G H W) {A : Option Addr} {n c : Nat} {l : List Stock} (hs : Sl tStock G A n c l) {fn : Nat} [FnT Tryz.prog fn] {fst cap : List Value} (p : Stock → Bool)
    (hf : ∀ x, x ∈ l → Does Tryz.prog fn (fst ++ [.agg ⟨x.cells⟩] ++ cap) G H (.bool (p x))) : Calls Tryz.prog 103 ⟨[.slice A n c, .func (.func fn) ⟨fst⟩ ⟨cap⟩]⟩ W (RetD G H (fun _ v => v = .bool (l.any p))) := by
  refine enter Tryz.func103 rfl Tryz.ntmps103 (Nat.le_of_ble_eq_true rfl) hp (nx_seq (nx_region (nv v_assign (nx_nil (nx_then (nx_seq (nx_region (nv v_move (nv v_move ?_)))))))))
  refine nx_op rfl (op_callD rfl rfl rfl (fun W hp => indexFunc_Stock hp hs p hf) (fun v7 G7 le7 ph7 => ?_))
  subst ph7
  refine nv v_geq (nv v_assign (nx_nil (nx_then (nx_ret ?_))))
  exact nx_ret1 rfl (.tmp rfl) (rt (le7) (by rw [ixV_nonneg]))
set_option maxRecDepth 20000 in
set_option maxHeartbeats 1000000 in
theorem indexFunc_Train {G : Gh} {H : List (Nat × Obj)} {W : World} (hp : Hp G H W) {A : Option Addr} {n c : Nat} {l : List Train} (hs : Sl tTrain G A n c l) {fn : Nat} [FnT Tryz.prog fn] {fst cap : List Value} (p : Train → Bool)
    (hf : ∀ x, x ∈ l → Does Tryz.prog fn (fst ++ [.agg ⟨x.cells⟩] ++ cap) G H (.bool (p x))) : Calls Tryz.prog 164 ⟨[.slice A n c, .func (.func fn) ⟨fst⟩ ⟨cap⟩]⟩ W (RetD G H (fun _ v => v = .int .i64 (ixV (l.findIdx? p)))) := by
  have hl := hs.length
  have hb := Nat.le_trans hs.cap hs.room
  refine enter Tryz.func164 rfl Tryz.ntmps164 (Nat.le_of_ble_eq_true rfl) hp (nx_seq (nx_region (nv v_assign (nx_nil (nx_then (nx_seq (nx_seq (nx_region (nv v_move (nv v_len (nv v_move ?_)))))))))))
  refine nx_nil (nx_then (nx_block ?_))
  refine nx_loop_v (σ := Nat × Gh) [0, 1, 6, 7] (fun s => [(8, .int .i64 (s.1 : Int))]) (fun s => s.2) (fun _ => _) (fun s => G.le s.2 ∧ ∀ j y, j < s.1 → l[j]? = some y → p y = false) (fun s => n - s.1) (0, G) (.cons rfl (.cons rfl (.cons rfl (.cons rfl (.nil))))) ⟨rfl, trivial⟩ ⟨Gh.le.refl _, fun j y hj => absurd hj (Nat.not_lt_zero _)⟩ rfl rfl ?_
  rintro ⟨k, G1⟩ ⟨le1, hI⟩ K next
  dsimp only at le1 hI ⊢
  refine nx_seq (nx_region (nv v_lss (nx_nil (nx_then (nx_seq ?_)))))
  refine nx_cond_dec rfl (fun c9 => ?_) (fun c9 => ?_)
  obtain ⟨x, rest, hd, hx⟩ := drop_of_lt (xs := l) (k := k) (by omega)
  obtain ⟨xb, xo, xe, xk, xr, xf0, xf1, xf2, xf3, xf4⟩ := next_Train (hs.le le1) hd
  cases xe
  refine nx_skip (nx_then (nx_seq (nx_block (nx_seq (nx_region (nv v_move (nv v_assign (nx_nil (nx_then (nx_seq (nx_region ?_)))))))))))
  refine nv v_move (nv v_move (nv v_move (nv (v_indexAddr_nat rfl rfl rfl (by omega)) (nv v_load_s ?_))))
  refine nx_op rfl (op_callD rfl rfl rfl (fun W hp => hf x (List.mem_of_getElem? hx) _ _ W le1 (by repeat (first | exact Suf.refl | apply Suf.keep | apply Suf.cons | apply Suf.keepN | apply Suf.app)) hp) (fun v16 G16 le16 ph16 => ?_))
  subst ph16
  refine nx_nil (nx_then ?_)
  refine nx_cond rfl (fun c16 => ?_) (fun c16 => ?_)
  refine nx_seq (nx_region (nv v_move (nv v_assign (nx_nil (nx_then (nx_ret (nx_in_ret (nx_then_ret (nx_then_ret (nx_in_ret (nx_then_ret ?_)))))))))))
  exact nx_ret1 rfl (.tmp rfl) (rt ((Gh.le.trans le1 le16)) (by rw [find_some hI hx c16]; rfl))
  refine nx_skip (nx_in _ (nx_then (nx_region (nv v_add (nv v_move (nx_nil (nx_then ?_)))))))
  exact nn (next (k + 1, G16) ⟨(Gh.le.trans le1 le16), fun j y hj hy => (by rcases (by omega : j < k ∨ j = k) with h | h; exact hI j y h hy; subst h; rw [hx] at hy; cases hy; exact c16)⟩ (by dsimp only; omega))
  refine nx_exit (nx_then_exit (nx_then_exit (nx_in_eq (nx_then (nx_seq (nx_region (nv v_assign (nx_nil (nx_then (nx_ret ?_))))))))))
  exact nx_ret1 rfl (.tmp rfl) (rt (le1) (by rw [find_none (p := p) (l := l) (fun j y hy => hI j y (by have := (List.getElem?_eq_some_iff.1 hy).1; omega) hy)]; rfl))
set_option maxRecDepth 20000 in
set_option maxHeartbeats 1000000 in
theorem containsFunc_Train {G : Gh} {H : List (Nat × Obj)} {W : World} (hp : Hp G H W) {A : Option Addr} {n c : Nat} {l : List Train} (hs : Sl tTrain G A n c l) {fn : Nat} [FnT Tryz.prog fn] {fst cap : List Value} (p : Train → Bool)
    (hf : ∀ x, x ∈ l → Does Tryz.prog fn (fst ++ [.agg ⟨x.cells⟩] ++ cap) G H (.bool (p x))) : Calls Tryz.prog 106 ⟨[.slice A n c, .func (.func fn) ⟨fst⟩ ⟨cap⟩]⟩ W (RetD G H (fun _ v => v = .bool (l.any p))) := by
  refine enter Tryz.func106 rfl Tryz.ntmps106 (Nat.le_of_ble_eq_true rfl) hp (nx_seq (nx_region (nv v_assign (nx_nil (nx_then (nx_seq (nx_region (nv v_move (nv v_move ?_)))))))))
  refine nx_op rfl (op_callD rfl rfl rfl (fun W hp => indexFunc_Train hp hs p hf) (fun v7 G7 le7 ph7 => ?_))
  subst ph7
  refine nv v_geq (nv v_assign (nx_nil (nx_then (nx_ret ?_))))
  exact nx_ret1 rfl (.tmp rfl) (rt (le7) (by rw [ixV_nonneg]))
set_option maxRecDepth 20000 in
set_option maxHeartbeats 1000000 in
theorem indexFunc_Int {G : Gh} {H : List (Nat × Obj)} {W : World} (hp : Hp G H W) {A : Option Addr} {n c : Nat} {l : List Int} (hs : Sl tInt G A n c l) {fn : Nat} [FnT Tryz.prog fn] {fst cap : List Value} (p : Int → Bool)
    (hf : ∀ x, x ∈ l → Does Tryz.prog fn (fst ++ [.int .i64 x] ++ cap) G H (.bool (p x))) : Calls Tryz.prog 186 ⟨[.slice A n c, .func (.func fn) ⟨fst⟩ ⟨cap⟩]⟩ W (RetD G H (fun _ v => v = .int .i64 (ixV (l.findIdx? p)))) := by
  have hl := hs.length
  have hb := Nat.le_trans hs.cap hs.room
  refine enter Tryz.func186 rfl Tryz.ntmps186 (Nat.le_of_ble_eq_true rfl) hp (nx_seq (nx_region (nv v_assign (nx_nil (nx_then (nx_seq (nx_seq (nx_region (nv v_move (nv v_len (nv v_move ?_)))))))))))
  refine nx_nil (nx_then (nx_block ?_))
  refine nx_loop_v (σ := Nat × Gh) [0, 1, 6, 7] (fun s => [(8, .int .i64 (s.1 : Int))]) (fun s => s.2) (fun _ => _) (fun s => G.le s.2 ∧ ∀ j y, j < s.1 → l[j]? = some y → p y = false) (fun s => n - s.1) (0, G) (.cons rfl (.cons rfl (.cons rfl (.cons rfl (.nil))))) ⟨rfl, trivial⟩ ⟨Gh.le.refl _, fun j y hj => absurd hj (Nat.not_lt_zero _)⟩ rfl rfl ?_
  rintro ⟨k, G1⟩ ⟨le1, hI⟩ K next
  dsimp only at le1 hI ⊢
  refine nx_seq (nx_region (nv v_lss (nx_nil (nx_then (nx_seq ?_)))))
  refine nx_cond_dec rfl (fun c9 => ?_) (fun c9 => ?_)
  obtain ⟨x, rest, hd, hx⟩ := drop_of_lt (xs := l) (k := k) (by omega)
  obtain ⟨xb, xo, xe, xk, xr, xf0⟩ := next_Int (hs.le le1) hd
  cases xe
  refine nx_skip (nx_then (nx_seq (nx_block (nx_seq (nx_region (nv v_move (nv v_assign (nx_nil (nx_then (nx_seq (nx_region ?_)))))))))))
  refine nv v_move (nv v_move (nv v_move (nv (v_indexAddr_nat rfl rfl rfl (by omega)) (nv v_load1_s ?_))))
  refine nx_op rfl (op_callD rfl rfl rfl (fun W hp => hf x (List.mem_of_getElem? hx) _ _ W le1 (by repeat (first | exact Suf.refl | apply Suf.keep | apply Suf.cons | apply Suf.keepN | apply Suf.app)) hp) (fun v16 G16 le16 ph16 => ?_))
  subst ph16
  refine nx_nil (nx_then ?_)
  refine nx_cond rfl (fun c16 => ?_) (fun c16 => ?_)
  refine nx_seq (nx_region (nv v_move (nv v_assign (nx_nil (nx_then (nx_ret (nx_in_ret (nx_then_ret (nx_then_ret (nx_in_ret (nx_then_ret ?_)))))))))))
  exact nx_ret1 rfl (.tmp rfl) (rt ((Gh.le.trans le1 le16)) (by rw [find_some hI hx c16]; rfl))
  refine nx_skip (nx_in _ (nx_then (nx_region (nv v_add (nv v_move (nx_nil (nx_then ?_)))))))
  exact nn (next (k + 1, G16) ⟨(Gh.le.trans le1 le16), fun j y hj hy => (by rcases (by omega : j < k ∨ j = k) with h | h; exact hI j y h hy; subst h; rw [hx] at hy; cases hy; exact c16)⟩ (by dsimp only; omega))
  refine nx_exit (nx_then_exit (nx_then_exit (nx_in_eq (nx_then (nx_seq (nx_region (nv v_assign (nx_nil (nx_then (nx_ret ?_))))))))))
  exact nx_ret1 rfl (.tmp rfl) (rt (le1) (by rw [find_none (p := p) (l := l) (fun j y hy => hI j y (by have := (List.getElem?_eq_some_iff.1 hy).1; omega) hy)]; rfl))
set_option maxRecDepth 20000 in
set_option maxHeartbeats 1000000 in
theorem containsFunc_Int {G : Gh} {H : List (Nat × Obj)} {W : World} (hp : Hp G H W) {A : Option Addr} {n c : Nat} {l : List Int} (hs : Sl tInt G A n c l) {fn : Nat} [FnT Tryz.prog fn] {fst cap : List Value} (p : Int → Bool)
    (hf : ∀ x, x ∈ l → Does Tryz.prog fn (fst ++ [.int .i64 x] ++ cap) G H (.bool (p x))) : Calls Tryz.prog 149 ⟨[.slice A n c, .func (.func fn) ⟨fst⟩ ⟨cap⟩]⟩ W (RetD G H (fun _ v => v = .bool (l.any p))) := by
  refine enter Tryz.func149 rfl Tryz.ntmps149 (Nat.le_of_ble_eq_true rfl) hp (nx_seq (nx_region (nv v_assign (nx_nil (nx_then (nx_seq (nx_region (nv v_move (nv v_move ?_)))))))))
  refine nx_op rfl (op_callD rfl rfl rfl (fun W hp => indexFunc_Int hp hs p hf) (fun v7 G7 le7 ph7 => ?_))
  subst ph7
  refine nv v_geq (nv v_assign (nx_nil (nx_then (nx_ret ?_))))
  exact nx_ret1 rfl (.tmp rfl) (rt (le7) (by rw [ixV_nonneg]))
set_option maxRecDepth 20000 in
set_option maxHeartbeats 1000000 in
theorem indexFunc_Body {G : Gh} {H : List (Nat × Obj)} {W : World} (hp : Hp G H W) {A : Option Addr} {n c : Nat} {l : List Body} (hs : Sl tBody G A n c l) {fn : Nat} [FnT Tryz.prog fn] {fst cap : List Value} (p : Body → Bool)
    (hf : ∀ x, x ∈ l → ∀ A1 n1 c1 G1, G.le G1 → Body.At G1 A1 n1 c1 x →Does Tryz.prog fn (fst ++ [.agg ⟨[.int .i64 x.mode, .slice A1 n1 c1, .int .i64 x.left, .int .i64 x.over, .int .i64 x.v]⟩] ++ cap) G1 H (.bool (p x))) : Calls Tryz.prog 156 ⟨[.slice A n c, .func (.func fn) ⟨fst⟩ ⟨cap⟩]⟩ W (RetD G H (fun _ v => v = .int .i64 (ixV (l.findIdx? p)))) := by
  have hl := hs.length
  have hb := Nat.le_trans hs.cap hs.room
  refine enter Tryz.func156 rfl Tryz.ntmps156 (Nat.le_of_ble_eq_true rfl) hp (nx_seq (nx_region (nv v_assign (nx_nil (nx_then (nx_seq (nx_seq (nx_region (nv v_move (nv v_len (nv v_move ?_)))))))))))
  refine nx_nil (nx_then (nx_block ?_))
  refine nx_loop_v (σ := Nat × Gh) [0, 1, 6, 7] (fun s => [(8, .int .i64 (s.1 : Int))]) (fun s => s.2) (fun _ => _) (fun s => G.le s.2 ∧ ∀ j y, j < s.1 → l[j]? = some y → p y = false) (fun s => n - s.1) (0, G) (.cons rfl (.cons rfl (.cons rfl (.cons rfl (.nil))))) ⟨rfl, trivial⟩ ⟨Gh.le.refl _, fun j y hj => absurd hj (Nat.not_lt_zero _)⟩ rfl rfl ?_
  rintro ⟨k, G1⟩ ⟨le1, hI⟩ K next
  dsimp only at le1 hI ⊢
  refine nx_seq (nx_region (nv v_lss (nx_nil (nx_then (nx_seq ?_)))))
  refine nx_cond_dec rfl (fun c9 => ?_) (fun c9 => ?_)
  obtain ⟨x, rest, hd, hx⟩ := drop_of_lt (xs := l) (k := k) (by omega)
  obtain ⟨xb, xo, xA1, xn1, xc1, xe, xk, xr, xf0, xf1, xf2, xf3, xf4, xat⟩ := next_Body (hs.le le1) hd
  cases xe
  refine nx_skip (nx_then (nx_seq (nx_block (nx_seq (nx_region (nv v_move (nv v_assign (nx_nil (nx_then (nx_seq (nx_region ?_)))))))))))
  refine nv v_move (nv v_move (nv v_move (nv (v_indexAddr_nat rfl rfl rfl (by omega)) (nv v_load_s ?_))))
  refine nx_op rfl (op_callD rfl rfl rfl (fun W hp => hf x (List.mem_of_getElem? hx) _ _ _ _ le1 xat _ _ W (Gh.le.refl _) (by repeat (first | exact Suf.refl | apply Suf.keep | apply Suf.cons | apply Suf.keepN | apply Suf.app)) hp) (fun v16 G16 le16 ph16 => ?_))
  subst ph16
  refine nx_nil (nx_then ?_)
  refine nx_cond rfl (fun c16 => ?_) (fun c16 => ?_)
  refine nx_seq (nx_region (nv v_move (nv v_assign (nx_nil (nx_then (nx_ret (nx_in_ret (nx_then_ret (nx_then_ret (nx_in_ret (nx_then_ret ?_)))))))))))
  exact nx_ret1 rfl (.tmp rfl) (rt ((Gh.le.trans le1 le16)) (by rw [find_some hI hx c16]; rfl))
  refine nx_skip (nx_in _ (nx_then (nx_region (nv v_add (nv v_move (nx_nil (nx_then ?_)))))))
  exact nn (next (k + 1, G16) ⟨(Gh.le.trans le1 le16), fun j y hj hy => (by rcases (by omega : j < k ∨ j = k) with h | h; exact hI j y h hy; subst h; rw [hx] at hy; cases hy; exact c16)⟩ (by dsimp only; omega))
  refine nx_exit (nx_then_exit (nx_then_exit (nx_in_eq (nx_then (nx_seq (nx_region (nv v_assign (nx_nil (nx_then (nx_ret ?_))))))))))
  exact nx_ret1 rfl (.tmp rfl) (rt (le1) (by rw [find_none (p := p) (l := l) (fun j y hy => hI j y (by have := (List.getElem?_eq_some_iff.1 hy).1; omega) hy)]; rfl))
set_option maxRecDepth 20000 in
set_option maxHeartbeats 1000000 in
theorem containsFunc_Body {G : Gh} {H : List (Nat × Obj)} {W : World} (hp : Hp G H W) {A : Option Addr} {n c : Nat} {l : List Body} (hs : Sl tBody G A n c l) {fn : Nat} [FnT Tryz.prog fn] {fst cap : List Value} (p : Body → Bool)
    (hf : ∀ x, x ∈ l → ∀ A1 n1 c1 G1, G.le G1 → Body.At G1 A1 n1 c1 x →Does Tryz.prog fn (fst ++ [.agg ⟨[.int .i64 x.mode, .slice A1 n1 c1, .int .i64 x.left, .int .i64 x.over, .int .i64 x.v]⟩] ++ cap) G1 H (.bool (p x))) : Calls Tryz.prog 95 ⟨[.slice A n c, .func (.func fn) ⟨fst⟩ ⟨cap⟩]⟩ W (RetD G H (fun _ v => v = .bool (l.any p))) := by
  refine enter Tryz.func95 rfl Tryz.ntmps95 (Nat.le_of_ble_eq_true rfl) hp (nx_seq (nx_region (nv v_assign (nx_nil (nx_then (nx_seq (nx_region (nv v_move (nv v_move ?_)))))))))
  refine nx_op rfl (op_callD rfl rfl rfl (fun W hp => indexFunc_Body hp hs p hf) (fun v7 G7 le7 ph7 => ?_))
  subst ph7
  refine nv v_geq (nv v_assign (nx_nil (nx_then (nx_ret ?_))))
  exact nx_ret1 rfl (.tmp rfl) (rt (le7) (by rw [ixV_nonneg]))
set_option maxRecDepth 20000 in
set_option maxHeartbeats 1000000 in
theorem index_Int {G : Gh} {H : List (Nat × Obj)} {W : World} (hp : Hp G H W) {A : Option Addr} {n c : Nat} {l : List Int} (hs : Sl tInt G A n c l) (x : Int) : Calls Tryz.prog 184 ⟨[.slice A n c, .int .i64 x]⟩ W (RetS G H (.int .i64 (ixV (l.findIdx? (fun y => decide (x = y)))))) := by
  have hl := hs.length
  have hb := Nat.le_trans hs.cap hs.room
  refine enter Tryz.func184 rfl Tryz.ntmps184 (Nat.le_of_ble_eq_true rfl) hp (nx_seq (nx_region (nv v_assign (nx_nil (nx_then (nx_seq (nx_seq (nx_region (nv v_move (nv v_len (nv v_move ?_)))))))))))
  refine nx_nil (nx_then (nx_block ?_))
  refine nx_loop_v (σ := Nat) [0, 1, 6, 7] (fun s => [(8, .int .i64 (s : Int))]) (fun s => G) (fun _ => _) (fun s => ∀ j y, j < s → l[j]? = some y → (fun y => decide (x = y)) y = false) (fun s => n - s) 0 (.cons rfl (.cons rfl (.cons rfl (.cons rfl (.nil))))) ⟨rfl, trivial⟩ (fun j y hj => absurd hj (Nat.not_lt_zero _)) rfl rfl ?_
  intro k hI K next
  refine nx_seq (nx_region (nv v_lss (nx_nil (nx_then (nx_seq ?_)))))
  refine nx_cond_dec rfl (fun c9 => ?_) (fun c9 => ?_)
  obtain ⟨y, rest, hd, hx⟩ := drop_of_lt (xs := l) (k := k) (by omega)
  obtain ⟨xb, xo, xe, xk, xr, xf0⟩ := next_Int hs hd
  cases xe
  refine nx_skip (nx_then (nx_seq (nx_block (nx_seq (nx_region (nv v_move (nv v_assign (nx_nil (nx_then (nx_seq (nx_region ?_)))))))))))
  refine nv v_move (nv v_move (nv v_move (nv (v_indexAddr_nat rfl rfl rfl (by omega)) (nv v_load1_s (nv v_eql (nx_nil (nx_then ?_)))))))
  refine nx_cond_dec rfl (fun c16 => ?_) (fun c16 => ?_)
  refine nx_seq (nx_region (nv v_move (nv v_assign (nx_nil (nx_then (nx_ret (nx_in_ret (nx_then_ret (nx_then_ret (nx_in_ret (nx_then_ret ?_)))))))))))
  exact nx_ret1 rfl (.tmp rfl) (rs (by rw [find_some (p := fun y => decide (x = y)) hI hx (decide_eq_true c16)]; rfl))
  refine nx_skip (nx_in _ (nx_then (nx_region (nv v_add (nv v_move (nx_nil (nx_then ?_)))))))
  exact nn (next (k + 1) (fun j z hj hz => (by rcases (by omega : j < k ∨ j = k) with h | h; exact hI j z h hz; subst h; rw [hx] at hz; cases hz; exact decide_eq_false c16)) (by omega))
  refine nx_exit (nx_then_exit (nx_then_exit (nx_in_eq (nx_then (nx_seq (nx_region (nv v_assign (nx_nil (nx_then (nx_ret ?_))))))))))
  exact nx_ret1 rfl (.tmp rfl) (rs (by rw [find_none (p := fun y => decide (x = y)) (l := l) (fun j y hy => hI j y (by have := (List.getElem?_eq_some_iff.1 hy).1; omega) hy)]; rfl))
set_option maxRecDepth 20000 in
set_option maxHeartbeats 1000000 in
theorem contains_Int {G : Gh} {H : List (Nat × Obj)} {W : World} (hp : Hp G H W) {A : Option Addr} {n c : Nat} {l : List Int} (hs : Sl tInt G A n c l) (x : Int) : Calls Tryz.prog 144 ⟨[.slice A n c, .int .i64 x]⟩ W (RetS G H (.bool (l.contains x))) := by
  refine enter Tryz.func144 rfl Tryz.ntmps144 (Nat.le_of_ble_eq_true rfl) hp (nx_seq (nx_region (nv v_assign (nx_nil (nx_then (nx_seq (nx_region (nv v_move (nv v_move ?_)))))))))
  refine nx_op rfl (op_callS rfl rfl rfl (fun W hp => index_Int hp hs x) ?_)
  refine nv v_geq (nv v_assign (nx_nil (nx_then (nx_ret ?_))))
  exact nx_ret1 rfl (.tmp rfl) (rs (by rw [ixV_nonneg]; congr 1; rw [List.contains_eq_any_beq]; rfl))
set_option maxRecDepth 20000 in
set_option maxHeartbeats 1000000 in
theorem index_Need {G : Gh} {H : List (Nat × Obj)} {W : World} (hp : Hp G H W) {A : Option Addr} {n c : Nat} {l : List Need} (hs : Sl tNeed G A n c l) (x : Need) : Calls Tryz.prog 185 ⟨[.slice A n c, .agg ⟨x.cells⟩]⟩ W (RetS G H (.int .i64 (ixV (l.findIdx? (fun y => decide (x = y)))))) := by
  have hl := hs.length
  have hb := Nat.le_trans hs.cap hs.room
  refine enter Tryz.func185 rfl Tryz.ntmps185 (Nat.le_of_ble_eq_true rfl) hp (nx_seq (nx_region ?_))
  refine nx_op rfl (op_box rfl rfl (fun b3 => ?_))
  refine nv v_assign (nx_nil (nx_then (nx_seq (nx_seq (nx_region (nv v_move (nv v_len (nv v_move (nx_nil (nx_then (nx_block ?_)))))))))))
  refine nx_loop_v (σ := Nat) [0, 1, 3, 6, 7] (fun s => [(8, .int .i64 (s : Int))]) (fun s => G) (fun _ => _) (fun s => ∀ j y, j < s → l[j]? = some y → (fun y => decide (x = y)) y = false) (fun s => n - s) 0 (.cons rfl (.cons rfl (.cons rfl (.cons rfl (.cons rfl (.nil)))))) ⟨rfl, trivial⟩ (fun j y hj => absurd hj (Nat.not_lt_zero _)) rfl rfl ?_
  intro k hI K next
  refine nx_seq (nx_region (nv v_lss (nx_nil (nx_then (nx_seq ?_)))))
  refine nx_cond_dec rfl (fun c9 => ?_) (fun c9 => ?_)
  obtain ⟨y, rest, hd, hx⟩ := drop_of_lt (xs := l) (k := k) (by omega)
  obtain ⟨xb, xo, xe, xk, xr, xf0, xf1⟩ := next_Need hs hd
  cases xe
  refine nx_skip (nx_then (nx_seq (nx_block (nx_seq (nx_region (nv v_move (nv v_assign (nx_nil (nx_then (nx_seq (dr_begin 6 (.q 0 (.q 1 (.q 2 (.q 3 (.q 4 (.q 5 .done)))))) rfl (by kernel_rfl) ?_)))))))))))
  refine dr_q rfl rfl v_load_o ic (dr_q rfl rfl v_move ic (dr_q rfl rfl v_move ic (dr_q rfl rfl (v_indexAddr_nat rfl rfl rfl (by omega)) ic (dr_q rfl rfl v_load_s ic (dr_q rfl rfl (v_eql_T Need.cells x y rfl rfl rfl) ic (dr_end rfl ?_))))))
  refine nx_nil (nx_np ?_)
  refine nx_then ?_
  refine nx_cond_dec rfl (fun c16 => ?_) (fun c16 => ?_)
  refine nx_seq (nx_region (nv v_move (nv v_assign (nx_nil (nx_then (nx_ret (nx_in_ret (nx_then_ret (nx_then_ret (nx_in_ret (nx_then_ret ?_)))))))))))
  exact nx_ret1 rfl (.tmp rfl) (rs (by rw [find_some (p := fun y => decide (x = y)) hI hx (decide_eq_true c16)]; rfl))
  refine nx_skip (nx_in _ (nx_then (nx_region (nv v_add (nv v_move (nx_nil (nx_then ?_)))))))
  exact nn (next (k + 1) (fun j z hj hz => (by rcases (by omega : j < k ∨ j = k) with h | h; exact hI j z h hz; subst h; rw [hx] at hz; cases hz; exact decide_eq_false c16)) (by omega))
  refine nx_exit (nx_then_exit (nx_then_exit (nx_in_eq (nx_then (nx_seq (nx_region (nv v_assign (nx_nil (nx_then (nx_ret ?_))))))))))
  exact nx_ret1 rfl (.tmp rfl) (rs (by rw [find_none (p := fun y => decide (x = y)) (l := l) (fun j y hy => hI j y (by have := (List.getElem?_eq_some_iff.1 hy).1; omega) hy)]; rfl))
set_option maxRecDepth 20000 in
set_option maxHeartbeats 1000000 in
theorem contains_Need {G : Gh} {H : List (Nat × Obj)} {W : World} (hp : Hp G H W) {A : Option Addr} {n c : Nat} {l : List Need} (hs : Sl tNeed G A n c l) (x : Need) : Calls Tryz.prog 146 ⟨[.slice A n c, .agg ⟨x.cells⟩]⟩ W (RetS G H (.bool (l.contains x))) := by
  refine enter Tryz.func146 rfl Tryz.ntmps146 (Nat.le_of_ble_eq_true rfl) hp (nx_seq (nx_region ?_))
  refine nx_op rfl (op_box rfl rfl (fun b3 => ?_))
  refine nv v_assign (nx_nil (nx_then (nx_seq (nx_region (nv v_move (nv v_load_o ?_))))))
  refine nx_op rfl (op_callS rfl rfl rfl (fun W hp => index_Need hp hs x) ?_)
  refine nv v_geq (nv v_assign (nx_nil (nx_then (nx_ret ?_))))
  exact nx_ret1 rfl (.tmp rfl) (rs (by rw [ixV_nonneg]; congr 1; rw [List.contains_eq_any_beq]; rfl))
end Go.Proofs.YtjckojnlapchoaaGreat
open Go Go.RowKit
namespace Go.Proofs.YtjckojnlapchoaaGreat
open Go.Proofs
set_option maxRecDepth 20000 in
set_option maxHeartbeats 1000000 in
theorem equal_Port {G : Gh} {H : List (Nat × Obj)} {W : World} (hp : Hp G H W) {A B : Option Addr} {n c n' c' : Nat} {l m : List Port} (hs : Sl tPort G A n c l) (ht : Sl tPort G B n' c' m) : Calls Tryz.prog 85 ⟨[.slice A n c, .slice B n' c']⟩ W (RetS G H (.bool (decide (l = m)))) := by
  have hl := hs.length
  have hm := ht.length
  have hb := Nat.le_trans hs.cap hs.room
  refine enter Tryz.func85 rfl Tryz.ntmps85 (Nat.le_of_ble_eq_true rfl) hp (nx_seq (nx_region (nv v_assign (nx_nil (nx_then (nx_seq (nx_seq (nx_region (nv v_move (nv v_len (nv v_move ?_)))))))))))
  refine nv v_len (nv v_neq (nx_nil (nx_then ?_)))
  refine nx_cond_dec rfl (fun c10 => ?_) (fun c10 => ?_)
  have hne : ¬ l = m := by intro e; subst e; omega
  refine nx_seq (nx_region (nv v_assign (nx_nil (nx_then (nx_ret (nx_then_ret ?_))))))
  exact nx_ret1 rfl (.tmp rfl) (rs (by rw [decide_eq_false hne]))
  obtain rfl : n = n' := by omega
  refine nx_skip (nx_then (nx_seq (nx_seq (nx_region (nv v_move (nv v_len (nv v_move (nx_nil (nx_then (nx_block ?_))))))))))
  refine nx_loop_v (σ := Nat) [0, 1, 6, 7, 8, 9, 10, 11, 12] (fun s => [(13, .int .i64 (s : Int))]) (fun s => G) (fun _ => _) (fun s => decide (l = m) = decide (l.drop s = m.drop s)) (fun s => n - s) 0 (.cons rfl (.cons rfl (.cons rfl (.cons rfl (.cons rfl (.cons rfl (.cons rfl (.cons rfl (.cons rfl (.nil)))))))))) ⟨rfl, trivial⟩ rfl rfl rfl ?_
  intro k hI K next
  refine nx_seq (nx_region (nv v_lss (nx_nil (nx_then (nx_seq ?_)))))
  refine nx_cond_dec rfl (fun c14 => ?_) (fun c14 => ?_)
  obtain ⟨x, rest, hd, hx⟩ := drop_of_lt (xs := l) (k := k) (by omega)
  obtain ⟨y, rest', hd', hy⟩ := drop_of_lt (xs := m) (k := k) (by omega)
  obtain ⟨xb, xo, xe, xk, xr, xf0, xf1⟩ := next_Port hs hd
  cases xe
  obtain ⟨yb, yo, ye, yk, yr, yf0, yf1⟩ := next_Port ht hd'
  cases ye
  refine nx_skip (nx_then (nx_seq (nx_block (nx_seq (nx_region (nv v_move (nv v_assign (nx_nil (nx_then (nx_seq (dr_begin 9 (.q 0 (.q 1 (.q 2 (.q 3 (.q 4 (.q 5 (.q 6 (.q 7 (.q 8 .done))))))))) rfl (by kernel_rfl) ?_)))))))))))
  refine dr_q rfl rfl v_move ic (dr_q rfl rfl v_move ic (dr_q rfl rfl (v_indexAddr_nat rfl rfl rfl (by omega)) ic (dr_q rfl rfl v_load_s ic (dr_q rfl rfl v_move ic (dr_q rfl rfl v_move ic (dr_q rfl rfl (v_indexAddr_nat rfl rfl rfl (by omega)) ic (dr_q rfl rfl v_load_s ic (dr_q rfl rfl (v_neq_T Port.cells x y rfl rfl rfl) ic (dr_end rfl ?_)))))))))
  refine nx_nil (nx_np ?_)
  refine nx_then ?_
  refine nx_cond_dec rfl (fun c24 => ?_) (fun c24 => ?_)
  refine nx_seq (nx_region (nv v_assign (nx_nil (nx_then (nx_ret (nx_in_ret (nx_then_ret (nx_then_ret (nx_in_ret (nx_then_ret ?_))))))))))
  exact nx_ret1 rfl (.tmp rfl) (rs (by rw [hI, hd, hd', decide_eq_false (by simp only [List.cons.injEq, not_and]; intro h; exact absurd h c24)]))
  refine nx_skip (nx_in _ (nx_then (nx_region (nv v_add (nv v_move (nx_nil (nx_then ?_)))))))
  exact nn (next (k + 1) (by rw [hI, hd, hd', xr, yr]; simp only [List.cons.injEq, Decidable.not_not.1 c24, true_and]) (by omega))
  refine nx_exit (nx_then_exit (nx_then_exit (nx_in_eq (nx_then (nx_seq (nx_region (nv v_assign (nx_nil (nx_then (nx_ret ?_))))))))))
  exact nx_ret1 rfl (.tmp rfl) (rs (by rw [hI, List.drop_eq_nil_of_le (by omega), List.drop_eq_nil_of_le (by omega)]; rfl))
set_option maxRecDepth 20000 in
set_option maxHeartbeats 1000000 in
theorem equal_Elem {G : Gh} {H : List (Nat × Obj)} {W : World} (hp : Hp G H W) {A B : Option Addr} {n c n' c' : Nat} {l m : List Elem} (hs : Sl tElem G A n c l) (ht : Sl tElem G B n' c' m) : Calls Tryz.prog 189 ⟨[.slice A n c, .slice B n' c']⟩ W (RetS G H (.bool (decide (l = m)))) := by
  have hl := hs.length
  have hm := ht.length
  have hb := Nat.le_trans hs.cap hs.room
  refine enter Tryz.func189 rfl Tryz.ntmps189 (Nat.le_of_ble_eq_true rfl) hp (nx_seq (nx_region (nv v_assign (nx_nil (nx_then (nx_seq (nx_seq (nx_region (nv v_move (nv v_len (nv v_move ?_)))))))))))
  refine nv v_len (nv v_neq (nx_nil (nx_then ?_)))
  refine nx_cond_dec rfl (fun c10 => ?_) (fun c10 => ?_)
  have hne : ¬ l = m := by intro e; subst e; omega
  refine nx_seq (nx_region (nv v_assign (nx_nil (nx_then (nx_ret (nx_then_ret ?_))))))
  exact nx_ret1 rfl (.tmp rfl) (rs (by rw [decide_eq_false hne]))
  obtain rfl : n = n' := by omega
  refine nx_skip (nx_then (nx_seq (nx_seq (nx_region (nv v_move (nv v_len (nv v_move (nx_nil (nx_then (nx_block ?_))))))))))
  refine nx_loop_v (σ := Nat) [0, 1, 6, 7, 8, 9, 10, 11, 12] (fun s => [(13, .int .i64 (s : Int))]) (fun s => G) (fun _ => _) (fun s => decide (l = m) = decide (l.drop s = m.drop s)) (fun s => n - s) 0 (.cons rfl (.cons rfl (.cons rfl (.cons rfl (.cons rfl (.cons rfl (.cons rfl (.cons rfl (.cons rfl (.nil)))))))))) ⟨rfl, trivial⟩ rfl rfl rfl ?_
  intro k hI K next
  refine nx_seq (nx_region (nv v_lss (nx_nil (nx_then (nx_seq ?_)))))
  refine nx_cond_dec rfl (fun c14 => ?_) (fun c14 => ?_)
  obtain ⟨x, rest, hd, hx⟩ := drop_of_lt (xs := l) (k := k) (by omega)
  obtain ⟨y, rest', hd', hy⟩ := drop_of_lt (xs := m) (k := k) (by omega)
  obtain ⟨xb, xo, xe, xk, xr, xf0, xf1, xf2⟩ := next_Elem hs hd
  cases xe
  obtain ⟨yb, yo, ye, yk, yr, yf0, yf1, yf2⟩ := next_Elem ht hd'
  cases ye
  refine nx_skip (nx_then (nx_seq (nx_block (nx_seq (nx_region (nv v_move (nv v_assign (nx_nil (nx_then (nx_seq (dr_begin 9 (.q 0 (.q 1 (.q 2 (.q 3 (.q 4 (.q 5 (.q 6 (.q 7 (.q 8 .done))))))))) rfl (by kernel_rfl) ?_)))))))))))
  refine dr_q rfl rfl v_move ic (dr_q rfl rfl v_move ic (dr_q rfl rfl (v_indexAddr_nat rfl rfl rfl (by omega)) ic (dr_q rfl rfl v_load_s ic (dr_q rfl rfl v_move ic (dr_q rfl rfl v_move ic (dr_q rfl rfl (v_indexAddr_nat rfl rfl rfl (by omega)) ic (dr_q rfl rfl v_load_s ic (dr_q rfl rfl (v_neq_T Elem.cells x y rfl rfl rfl) ic (dr_end rfl ?_)))))))))
  refine nx_nil (nx_np ?_)
  refine nx_then ?_
  refine nx_cond_dec rfl (fun c24 => ?_) (fun c24 => ?_)
  refine nx_seq (nx_region (nv v_assign (nx_nil (nx_then (nx_ret (nx_in_ret (nx_then_ret (nx_then_ret (nx_in_ret (nx_then_ret ?_))))))))))
  exact nx_ret1 rfl (.tmp rfl) (rs (by rw [hI, hd, hd', decide_eq_false (by simp only [List.cons.injEq, not_and]; intro h; exact absurd h c24)]))
  refine nx_skip (nx_in _ (nx_then (nx_region (nv v_add (nv v_move (nx_nil (nx_then ?_)))))))
  exact nn (next (k + 1) (by rw [hI, hd, hd', xr, yr]; simp only [List.cons.injEq, Decidable.not_not.1 c24, true_and]) (by omega))
  refine nx_exit (nx_then_exit (nx_then_exit (nx_in_eq (nx_then (nx_seq (nx_region (nv v_assign (nx_nil (nx_then (nx_ret ?_))))))))))
  exact nx_ret1 rfl (.tmp rfl) (rs (by rw [hI, List.drop_eq_nil_of_le (by omega), List.drop_eq_nil_of_le (by omega)]; rfl))
set_option maxRecDepth 20000 in
set_option maxHeartbeats 1000000 in
theorem equal_Join {G : Gh} {H : List (Nat × Obj)} {W : World} (hp : Hp G H W) {A B : Option Addr} {n c n' c' : Nat} {l m : List Join} (hs : Sl tJoin G A n c l) (ht : Sl tJoin G B n' c' m) : Calls Tryz.prog 190 ⟨[.slice A n c, .slice B n' c']⟩ W (RetS G H (.bool (decide (l = m)))) := by
  have hl := hs.length
  have hm := ht.length
  have hb := Nat.le_trans hs.cap hs.room
  refine enter Tryz.func190 rfl Tryz.ntmps190 (Nat.le_of_ble_eq_true rfl) hp (nx_seq (nx_region (nv v_assign (nx_nil (nx_then (nx_seq (nx_seq (nx_region (nv v_move (nv v_len (nv v_move ?_)))))))))))
  refine nv v_len (nv v_neq (nx_nil (nx_then ?_)))
  refine nx_cond_dec rfl (fun c10 => ?_) (fun c10 => ?_)
  have hne : ¬ l = m := by intro e; subst e; omega
  refine nx_seq (nx_region (nv v_assign (nx_nil (nx_then (nx_ret (nx_then_ret ?_))))))
  exact nx_ret1 rfl (.tmp rfl) (rs (by rw [decide_eq_false hne]))
  obtain rfl : n = n' := by omega
  refine nx_skip (nx_then (nx_seq (nx_seq (nx_region (nv v_move (nv v_len (nv v_move (nx_nil (nx_then (nx_block ?_))))))))))
  refine nx_loop_v (σ := Nat) [0, 1, 6, 7, 8, 9, 10, 11, 12] (fun s => [(13, .int .i64 (s : Int))]) (fun s => G) (fun _ => _) (fun s => decide (l = m) = decide (l.drop s = m.drop s)) (fun s => n - s) 0 (.cons rfl (.cons rfl (.cons rfl (.cons rfl (.cons rfl (.cons rfl (.cons rfl (.cons rfl (.cons rfl (.nil)))))))))) ⟨rfl, trivial⟩ rfl rfl rfl ?_
  intro k hI K next
  refine nx_seq (nx_region (nv v_lss (nx_nil (nx_then (nx_seq ?_)))))
  refine nx_cond_dec rfl (fun c14 => ?_) (fun c14 => ?_)
  obtain ⟨x, rest, hd, hx⟩ := drop_of_lt (xs := l) (k := k) (by omega)
  obtain ⟨y, rest', hd', hy⟩ := drop_of_lt (xs := m) (k := k) (by omega)
  obtain ⟨xb, xo, xe, xk, xr, xf0, xf1, xf2, xf3⟩ := next_Join hs hd
  cases xe
  obtain ⟨yb, yo, ye, yk, yr, yf0, yf1, yf2, yf3⟩ := next_Join ht hd'
  cases ye
  refine nx_skip (nx_then (nx_seq (nx_block (nx_seq (nx_region (nv v_move (nv v_assign (nx_nil (nx_then (nx_seq (dr_begin 9 (.q 0 (.q 1 (.q 2 (.q 3 (.q 4 (.q 5 (.q 6 (.q 7 (.q 8 .done))))))))) rfl (by kernel_rfl) ?_)))))))))))
  refine dr_q rfl rfl v_move ic (dr_q rfl rfl v_move ic (dr_q rfl rfl (v_indexAddr_nat rfl rfl rfl (by omega)) ic (dr_q rfl rfl v_load_s ic (dr_q rfl rfl v_move ic (dr_q rfl rfl v_move ic (dr_q rfl rfl (v_indexAddr_nat rfl rfl rfl (by omega)) ic (dr_q rfl rfl v_load_s ic (dr_q rfl rfl (v_neq_T Join.cells x y rfl rfl rfl) ic (dr_end rfl ?_)))))))))
  refine nx_nil (nx_np ?_)
  refine nx_then ?_
  refine nx_cond_dec rfl (fun c24 => ?_) (fun c24 => ?_)
  refine nx_seq (nx_region (nv v_assign (nx_nil (nx_then (nx_ret (nx_in_ret (nx_then_ret (nx_then_ret (nx_in_ret (nx_then_ret ?_))))))))))
  exact nx_ret1 rfl (.tmp rfl) (rs (by rw [hI, hd, hd', decide_eq_false (by simp only [List.cons.injEq, not_and]; intro h; exact absurd h c24)]))
  refine nx_skip (nx_in _ (nx_then (nx_region (nv v_add (nv v_move (nx_nil (nx_then ?_)))))))
  exact nn (next (k + 1) (by rw [hI, hd, hd', xr, yr]; simp only [List.cons.injEq, Decidable.not_not.1 c24, true_and]) (by omega))
  refine nx_exit (nx_then_exit (nx_then_exit (nx_in_eq (nx_then (nx_seq (nx_region (nv v_assign (nx_nil (nx_then (nx_ret ?_))))))))))
  exact nx_ret1 rfl (.tmp rfl) (rs (by rw [hI, List.drop_eq_nil_of_le (by omega), List.drop_eq_nil_of_le (by omega)]; rfl))
set_option maxRecDepth 20000 in
set_option maxHeartbeats 1000000 in
theorem equal_Signal {G : Gh} {H : List (Nat × Obj)} {W : World} (hp : Hp G H W) {A B : Option Addr} {n c n' c' : Nat} {l m : List Signal} (hs : Sl tSignal G A n c l) (ht : Sl tSignal G B n' c' m) : Calls Tryz.prog 191 ⟨[.slice A n c, .slice B n' c']⟩ W (RetS G H (.bool (decide (l = m)))) := by
  have hl := hs.length
  have hm := ht.length
  have hb := Nat.le_trans hs.cap hs.room
  refine enter Tryz.func191 rfl Tryz.ntmps191 (Nat.le_of_ble_eq_true rfl) hp (nx_seq (nx_region (nv v_assign (nx_nil (nx_then (nx_seq (nx_seq (nx_region (nv v_move (nv v_len (nv v_move ?_)))))))))))
  refine nv v_len (nv v_neq (nx_nil (nx_then ?_)))
  refine nx_cond_dec rfl (fun c10 => ?_) (fun c10 => ?_)
  have hne : ¬ l = m := by intro e; subst e; omega
  refine nx_seq (nx_region (nv v_assign (nx_nil (nx_then (nx_ret (nx_then_ret ?_))))))
  exact nx_ret1 rfl (.tmp rfl) (rs (by rw [decide_eq_false hne]))
  obtain rfl : n = n' := by omega
  refine nx_skip (nx_then (nx_seq (nx_seq (nx_region (nv v_move (nv v_len (nv v_move (nx_nil (nx_then (nx_block ?_))))))))))
  refine nx_loop_v (σ := Nat) [0, 1, 6, 7, 8, 9, 10, 11, 12] (fun s => [(13, .int .i64 (s : Int))]) (fun s => G) (fun _ => _) (fun s => decide (l = m) = decide (l.drop s = m.drop s)) (fun s => n - s) 0 (.cons rfl (.cons rfl (.cons rfl (.cons rfl (.cons rfl (.cons rfl (.cons rfl (.cons rfl (.cons rfl (.nil)))))))))) ⟨rfl, trivial⟩ rfl rfl rfl ?_
  intro k hI K next
  refine nx_seq (nx_region (nv v_lss (nx_nil (nx_then (nx_seq ?_)))))
  refine nx_cond_dec rfl (fun c14 => ?_) (fun c14 => ?_)
  obtain ⟨x, rest, hd, hx⟩ := drop_of_lt (xs := l) (k := k) (by omega)
  obtain ⟨y, rest', hd', hy⟩ := drop_of_lt (xs := m) (k := k) (by omega)
  obtain ⟨xb, xo, xe, xk, xr, xf0, xf1, xf2, xf3⟩ := next_Signal hs hd
  cases xe
  obtain ⟨yb, yo, ye, yk, yr, yf0, yf1, yf2, yf3⟩ := next_Signal ht hd'
  cases ye
  refine nx_skip (nx_then (nx_seq (nx_block (nx_seq (nx_region (nv v_move (nv v_assign (nx_nil (nx_then (nx_seq (dr_begin 9 (.q 0 (.q 1 (.q 2 (.q 3 (.q 4 (.q 5 (.q 6 (.q 7 (.q 8 .done))))))))) rfl (by kernel_rfl) ?_)))))))))))
  refine dr_q rfl rfl v_move ic (dr_q rfl rfl v_move ic (dr_q rfl rfl (v_indexAddr_nat rfl rfl rfl (by omega)) ic (dr_q rfl rfl v_load_s ic (dr_q rfl rfl v_move ic (dr_q rfl rfl v_move ic (dr_q rfl rfl (v_indexAddr_nat rfl rfl rfl (by omega)) ic (dr_q rfl rfl v_load_s ic (dr_q rfl rfl (v_neq_T Signal.cells x y rfl rfl rfl) ic (dr_end rfl ?_)))))))))
  refine nx_nil (nx_np ?_)
  refine nx_then ?_
  refine nx_cond_dec rfl (fun c24 => ?_) (fun c24 => ?_)
  refine nx_seq (nx_region (nv v_assign (nx_nil (nx_then (nx_ret (nx_in_ret (nx_then_ret (nx_then_ret (nx_in_ret (nx_then_ret ?_))))))))))
  exact nx_ret1 rfl (.tmp rfl) (rs (by rw [hI, hd, hd', decide_eq_false (by simp only [List.cons.injEq, not_and]; intro h; exact absurd h c24)]))
  refine nx_skip (nx_in _ (nx_then (nx_region (nv v_add (nv v_move (nx_nil (nx_then ?_)))))))
  exact nn (next (k + 1) (by rw [hI, hd, hd', xr, yr]; simp only [List.cons.injEq, Decidable.not_not.1 c24, true_and]) (by omega))
  refine nx_exit (nx_then_exit (nx_then_exit (nx_in_eq (nx_then (nx_seq (nx_region (nv v_assign (nx_nil (nx_then (nx_ret ?_))))))))))
  exact nx_ret1 rfl (.tmp rfl) (rs (by rw [hI, List.drop_eq_nil_of_le (by omega), List.drop_eq_nil_of_le (by omega)]; rfl))
set_option maxRecDepth 20000 in
set_option maxHeartbeats 1000000 in
theorem equal_Step {G : Gh} {H : List (Nat × Obj)} {W : World} (hp : Hp G H W) {A B : Option Addr} {n c n' c' : Nat} {l m : List Step} (hs : Sl tStep G A n c l) (ht : Sl tStep G B n' c' m) : Calls Tryz.prog 195 ⟨[.slice A n c, .slice B n' c']⟩ W (RetS G H (.bool (decide (l = m)))) := by
  have hl := hs.length
  have hm := ht.length
  have hb := Nat.le_trans hs.cap hs.room
  refine enter Tryz.func195 rfl Tryz.ntmps195 (Nat.le_of_ble_eq_true rfl) hp (nx_seq (nx_region (nv v_assign (nx_nil (nx_then (nx_seq (nx_seq (nx_region (nv v_move (nv v_len (nv v_move ?_)))))))))))
  refine nv v_len (nv v_neq (nx_nil (nx_then ?_)))
  refine nx_cond_dec rfl (fun c10 => ?_) (fun c10 => ?_)
  have hne : ¬ l = m := by intro e; subst e; omega
  refine nx_seq (nx_region (nv v_assign (nx_nil (nx_then (nx_ret (nx_then_ret ?_))))))
  exact nx_ret1 rfl (.tmp rfl) (rs (by rw [decide_eq_false hne]))
  obtain rfl : n = n' := by omega
  refine nx_skip (nx_then (nx_seq (nx_seq (nx_region (nv v_move (nv v_len (nv v_move (nx_nil (nx_then (nx_block ?_))))))))))
  refine nx_loop_v (σ := Nat) [0, 1, 6, 7, 8, 9, 10, 11, 12] (fun s => [(13, .int .i64 (s : Int))]) (fun s => G) (fun _ => _) (fun s => decide (l = m) = decide (l.drop s = m.drop s)) (fun s => n - s) 0 (.cons rfl (.cons rfl (.cons rfl (.cons rfl (.cons rfl (.cons rfl (.cons rfl (.cons rfl (.cons rfl (.nil)))))))))) ⟨rfl, trivial⟩ rfl rfl rfl ?_
  intro k hI K next
  refine nx_seq (nx_region (nv v_lss (nx_nil (nx_then (nx_seq ?_)))))
  refine nx_cond_dec rfl (fun c14 => ?_) (fun c14 => ?_)
  obtain ⟨x, rest, hd, hx⟩ := drop_of_lt (xs := l) (k := k) (by omega)
  obtain ⟨y, rest', hd', hy⟩ := drop_of_lt (xs := m) (k := k) (by omega)
  obtain ⟨xb, xo, xe, xk, xr, xf0, xf1, xf2⟩ := next_Step hs hd
  cases xe
  obtain ⟨yb, yo, ye, yk, yr, yf0, yf1, yf2⟩ := next_Step ht hd'
  cases ye
  refine nx_skip (nx_then (nx_seq (nx_block (nx_seq (nx_region (nv v_move (nv v_assign (nx_nil (nx_then (nx_seq (dr_begin 9 (.q 0 (.q 1 (.q 2 (.q 3 (.q 4 (.q 5 (.q 6 (.q 7 (.q 8 .done))))))))) rfl (by kernel_rfl) ?_)))))))))))
  refine dr_q rfl rfl v_move ic (dr_q rfl rfl v_move ic (dr_q rfl rfl (v_indexAddr_nat rfl rfl rfl (by omega)) ic (dr_q rfl rfl v_load_s ic (dr_q rfl rfl v_move ic (dr_q rfl rfl v_move ic (dr_q rfl rfl (v_indexAddr_nat rfl rfl rfl (by omega)) ic (dr_q rfl rfl v_load_s ic (dr_q rfl rfl (v_neq_T Step.cells x y rfl rfl rfl) ic (dr_end rfl ?_)))))))))
  refine nx_nil (nx_np ?_)
  refine nx_then ?_
  refine nx_cond_dec rfl (fun c24 => ?_) (fun c24 => ?_)
  refine nx_seq (nx_region (nv v_assign (nx_nil (nx_then (nx_ret (nx_in_ret (nx_then_ret (nx_then_ret (nx_in_ret (nx_then_ret ?_))))))))))
  exact nx_ret1 rfl (.tmp rfl) (rs (by rw [hI, hd, hd', decide_eq_false (by simp only [List.cons.injEq, not_and]; intro h; exact absurd h c24)]))
  refine nx_skip (nx_in _ (nx_then (nx_region (nv v_add (nv v_move (nx_nil (nx_then ?_)))))))
  exact nn (next (k + 1) (by rw [hI, hd, hd', xr, yr]; simp only [List.cons.injEq, Decidable.not_not.1 c24, true_and]) (by omega))
  refine nx_exit (nx_then_exit (nx_then_exit (nx_in_eq (nx_then (nx_seq (nx_region (nv v_assign (nx_nil (nx_then (nx_ret ?_))))))))))
  exact nx_ret1 rfl (.tmp rfl) (rs (by rw [hI, List.drop_eq_nil_of_le (by omega), List.drop_eq_nil_of_le (by omega)]; rfl))
set_option maxRecDepth 20000 in
set_option maxHeartbeats 1000000 in
theorem equal_Need {G : Gh} {H : List (Nat × Obj)} {W : World} (hp : Hp G H W) {A B : Option Addr} {n c n' c' : Nat} {l m : List Need} (hs : Sl tNeed G A n c l) (ht : Sl tNeed G B n' c' m) : Calls Tryz.prog 196 ⟨[.slice A n c, .slice B n' c']⟩ W (RetS G H (.bool (decide (l = m)))) := by
  have hl := hs.length
  have hm := ht.length
  have hb := Nat.le_trans hs.cap hs.room
  refine enter Tryz.func196 rfl Tryz.ntmps196 (Nat.le_of_ble_eq_true rfl) hp (nx_seq (nx_region (nv v_assign (nx_nil (nx_then (nx_seq (nx_seq (nx_region (nv v_move (nv v_len (nv v_move ?_)))))))))))
  refine nv v_len (nv v_neq (nx_nil (nx_then ?_)))
  refine nx_cond_dec rfl (fun c10 => ?_) (fun c10 => ?_)
  have hne : ¬ l = m := by intro e; subst e; omega
  refine nx_seq (nx_region (nv v_assign (nx_nil (nx_then (nx_ret (nx_then_ret ?_))))))
  exact nx_ret1 rfl (.tmp rfl) (rs (by rw [decide_eq_false hne]))
  obtain rfl : n = n' := by omega
  refine nx_skip (nx_then (nx_seq (nx_seq (nx_region (nv v_move (nv v_len (nv v_move (nx_nil (nx_then (nx_block ?_))))))))))
  refine nx_loop_v (σ := Nat) [0, 1, 6, 7, 8, 9, 10, 11, 12] (fun s => [(13, .int .i64 (s : Int))]) (fun s => G) (fun _ => _) (fun s => decide (l = m) = decide (l.drop s = m.drop s)) (fun s => n - s) 0 (.cons rfl (.cons rfl (.cons rfl (.cons rfl (.cons rfl (.cons rfl (.cons rfl (.cons rfl (.cons rfl (.nil)))))))))) ⟨rfl, trivial⟩ rfl rfl rfl ?_
  intro k hI K next
  refine nx_seq (nx_region (nv v_lss (nx_nil (nx_then (nx_seq ?_)))))
  refine nx_cond_dec rfl (fun c14 => ?_) (fun c14 => ?_)
  obtain ⟨x, rest, hd, hx⟩ := drop_of_lt (xs := l) (k := k) (by omega)
  obtain ⟨y, rest', hd', hy⟩ := drop_of_lt (xs := m) (k := k) (by omega)
  obtain ⟨xb, xo, xe, xk, xr, xf0, xf1⟩ := next_Need hs hd
  cases xe
  obtain ⟨yb, yo, ye, yk, yr, yf0, yf1⟩ := next_Need ht hd'
  cases ye
  refine nx_skip (nx_then (nx_seq (nx_block (nx_seq (nx_region (nv v_move (nv v_assign (nx_nil (nx_then (nx_seq (dr_begin 9 (.q 0 (.q 1 (.q 2 (.q 3 (.q 4 (.q 5 (.q 6 (.q 7 (.q 8 .done))))))))) rfl (by kernel_rfl) ?_)))))))))))
  refine dr_q rfl rfl v_move ic (dr_q rfl rfl v_move ic (dr_q rfl rfl (v_indexAddr_nat rfl rfl rfl (by omega)) ic (dr_q rfl rfl v_load_s ic (dr_q rfl rfl v_move ic (dr_q rfl rfl v_move ic (dr_q rfl rfl (v_indexAddr_nat rfl rfl rfl (by omega)) ic (dr_q rfl rfl v_load_s ic (dr_q rfl rfl (v_neq_T Need.cells x y rfl rfl rfl) ic (dr_end rfl ?_)))))))))
  refine nx_nil (nx_np ?_)
  refine nx_then ?_
  refine nx_cond_dec rfl (fun c24 => ?_) (fun c24 => ?_)
  refine nx_seq (nx_region (nv v_assign (nx_nil (nx_then (nx_ret (nx_in_ret (nx_then_ret (nx_then_ret (nx_in_ret (nx_then_ret ?_))))))))))
  exact nx_ret1 rfl (.tmp rfl) (rs (by rw [hI, hd, hd', decide_eq_false (by simp only [List.cons.injEq, not_and]; intro h; exact absurd h c24)]))
  refine nx_skip (nx_in _ (nx_then (nx_region (nv v_add (nv v_move (nx_nil (nx_then ?_)))))))
  exact nn (next (k + 1) (by rw [hI, hd, hd', xr, yr]; simp only [List.cons.injEq, Decidable.not_not.1 c24, true_and]) (by omega))
  refine nx_exit (nx_then_exit (nx_then_exit (nx_in_eq (nx_then (nx_seq (nx_region (nv v_assign (nx_nil (nx_then (nx_ret ?_))))))))))
  exact nx_ret1 rfl (.tmp rfl) (rs (by rw [hI, List.drop_eq_nil_of_le (by omega), List.drop_eq_nil_of_le (by omega)]; rfl))
set_option maxRecDepth 20000 in
set_option maxHeartbeats 1000000 in
theorem equal_Int {G : Gh} {H : List (Nat × Obj)} {W : World} (hp : Hp G H W) {A B : Option Addr} {n c n' c' : Nat} {l m : List Int} (hs : Sl tInt G A n c l) (ht : Sl tInt G B n' c' m) : Calls Tryz.prog 194 ⟨[.slice A n c, .slice B n' c']⟩ W (RetS G H (.bool (decide (l = m)))) := by
  have hl := hs.length
  have hm := ht.length
  have hb := Nat.le_trans hs.cap hs.room
  refine enter Tryz.func194 rfl Tryz.ntmps194 (Nat.le_of_ble_eq_true rfl) hp (nx_seq (nx_region (nv v_assign (nx_nil (nx_then (nx_seq (nx_seq (nx_region (nv v_move (nv v_len (nv v_move ?_)))))))))))
  refine nv v_len (nv v_neq (nx_nil (nx_then ?_)))
  refine nx_cond_dec rfl (fun c10 => ?_) (fun c10 => ?_)
  have hne : ¬ l = m := by intro e; subst e; omega
  refine nx_seq (nx_region (nv v_assign (nx_nil (nx_then (nx_ret (nx_then_ret ?_))))))
  exact nx_ret1 rfl (.tmp rfl) (rs (by rw [decide_eq_false hne]))
  obtain rfl : n = n' := by omega
  refine nx_skip (nx_then (nx_seq (nx_seq (nx_region (nv v_move (nv v_len (nv v_move (nx_nil (nx_then (nx_block ?_))))))))))
  refine nx_loop_v (σ := Nat) [0, 1, 6, 7, 8, 9, 10, 11, 12] (fun s => [(13, .int .i64 (s : Int))]) (fun s => G) (fun _ => _) (fun s => decide (l = m) = decide (l.drop s = m.drop s)) (fun s => n - s) 0 (.cons rfl (.cons rfl (.cons rfl (.cons rfl (.cons rfl (.cons rfl (.cons rfl (.cons rfl (.cons rfl (.nil)))))))))) ⟨rfl, trivial⟩ rfl rfl rfl ?_
  intro k hI K next
  refine nx_seq (nx_region (nv v_lss (nx_nil (nx_then (nx_seq ?_)))))
  refine nx_cond_dec rfl (fun c14 => ?_) (fun c14 => ?_)
  obtain ⟨x, rest, hd, hx⟩ := drop_of_lt (xs := l) (k := k) (by omega)
  obtain ⟨y, rest', hd', hy⟩ := drop_of_lt (xs := m) (k := k) (by omega)
  obtain ⟨xb, xo, xe, xk, xr, xf0⟩ := next_Int hs hd
  cases xe
  obtain ⟨yb, yo, ye, yk, yr, yf0⟩ := next_Int ht hd'
  cases ye
  refine nx_skip (nx_then (nx_seq (nx_block (nx_seq (nx_region (nv v_move (nv v_assign (nx_nil (nx_then (nx_seq (dr_begin 9 (.q 0 (.q 1 (.q 2 (.q 3 (.q 4 (.q 5 (.q 6 (.q 7 (.q 8 .done))))))))) rfl (by kernel_rfl) ?_)))))))))))
  refine dr_q rfl rfl v_move ic (dr_q rfl rfl v_move ic (dr_q rfl rfl (v_indexAddr_nat rfl rfl rfl (by omega)) ic (dr_q rfl rfl v_load1_s ic (dr_q rfl rfl v_move ic (dr_q rfl rfl v_move ic (dr_q rfl rfl (v_indexAddr_nat rfl rfl rfl (by omega)) ic (dr_q rfl rfl v_load1_s ic (dr_q rfl rfl v_neq ic (dr_end rfl ?_)))))))))
  refine nx_nil (nx_np ?_)
  refine nx_then ?_
  refine nx_cond_dec rfl (fun c24 => ?_) (fun c24 => ?_)
  refine nx_seq (nx_region (nv v_assign (nx_nil (nx_then (nx_ret (nx_in_ret (nx_then_ret (nx_then_ret (nx_in_ret (nx_then_ret ?_))))))))))
  exact nx_ret1 rfl (.tmp rfl) (rs (by rw [hI, hd, hd', decide_eq_false (by simp only [List.cons.injEq, not_and]; intro h; exact absurd h c24)]))
  refine nx_skip (nx_in _ (nx_then (nx_region (nv v_add (nv v_move (nx_nil (nx_then ?_)))))))
  exact nn (next (k + 1) (by rw [hI, hd, hd', xr, yr]; simp only [List.cons.injEq, Decidable.not_not.1 c24, true_and]) (by omega))
  refine nx_exit (nx_then_exit (nx_then_exit (nx_in_eq (nx_then (nx_seq (nx_region (nv v_assign (nx_nil (nx_then (nx_ret ?_))))))))))
  exact nx_ret1 rfl (.tmp rfl) (rs (by rw [hI, List.drop_eq_nil_of_le (by omega), List.drop_eq_nil_of_le (by omega)]; rfl))
set_option maxRecDepth 20000 in
set_option maxHeartbeats 1000000 in
theorem clone_Port {G : Gh} {H : List (Nat × Obj)} {W : World} (hp : Hp G H W) {A : Option Addr} {n c : Nat} {l : List Port} (hs : Sl tPort G A n c l) (hb : n * 16 ≤ 140737488355328) : Calls Tryz.prog 116 ⟨[.slice A n c]⟩ W (RetD G H (IsSl tPort l)) := by
  have hl := hs.length
  have hbb := Nat.le_trans hs.cap hs.room
  refine enter Tryz.func116 rfl Tryz.ntmps116 (Nat.le_of_ble_eq_true rfl) hp (nx_seq (nx_region (nv v_assign (nx_nil (nx_then (nx_seq (nx_seq (nx_region (nv v_move (nv v_eql_nil (nx_nil ?_)))))))))))
  refine nx_then ?_
  refine nx_cond rfl (fun c4 => ?_) (fun c4 => ?_)
  have hl0 : l = [] := by
    rcases Nat.eq_zero_or_pos c with h0 | h0
    · have := hs.cap; exact List.length_eq_zero_iff.1 (by omega)
    · obtain ⟨b, o, rfl, _⟩ := hs.at_ h0; simp at c4
  subst hl0
  refine nx_seq (nx_region (nv v_assign (nx_nil (nx_then (nx_ret (nx_then_ret ?_))))))
  exact nx_ret1 rfl (.tmp rfl) (rt ((Gh.le.refl _)) (IsSl.nil _))
  refine nx_skip (nx_then (nx_seq (nx_region ?_)))
  refine nx_op rfl (op_buildSlice0 rfl (fun b5 => ?_))
  refine nv v_move ?_
  refine nx_op rfl (op_append (T := tPort) rfl rfl rfl (OwnS.row0 (b := b5)) (N := [(b5, row [] _)]) (by exact Pull.here) (Src.still (hs.le (Gh.le.refl _))) (by simp; omega) (by simp [maxLen]; omega) (fun v7 N7 o7 => ?_))
  refine nv v_assign (nx_nil (nx_then (nx_ret ?_)))
  refine nx_still o7 (by repeat (first | exact Pull.here | apply Pull.cons | apply Pull.app)) (fun G8 A8 c8 le8 hv hs8 => ?_)
  subst hv
  exact nx_ret1 rfl (.tmp rfl) (rt (Gh.le.trans (Gh.le.refl _) le8) (IsSl.of hs8))
set_option maxRecDepth 20000 in
set_option maxHeartbeats 1000000 in
theorem clone_Elem {G : Gh} {H : List (Nat × Obj)} {W : World} (hp : Hp G H W) {A : Option Addr} {n c : Nat} {l : List Elem} (hs : Sl tElem G A n c l) (hb : n * 32 ≤ 140737488355328) : Calls Tryz.prog 132 ⟨[.slice A n c]⟩ W (RetD G H (IsSl tElem l)) := by
  have hl := hs.length
  have hbb := Nat.le_trans hs.cap hs.room
  refine enter Tryz.func132 rfl Tryz.ntmps132 (Nat.le_of_ble_eq_true rfl) hp (nx_seq (nx_region (nv v_assign (nx_nil (nx_then (nx_seq (nx_seq (nx_region (nv v_move (nv v_eql_nil (nx_nil ?_)))))))))))
  refine nx_then ?_
  refine nx_cond rfl (fun c4 => ?_) (fun c4 => ?_)
  have hl0 : l = [] := by
    rcases Nat.eq_zero_or_pos c with h0 | h0
    · have := hs.cap; exact List.length_eq_zero_iff.1 (by omega)
    · obtain ⟨b, o, rfl, _⟩ := hs.at_ h0; simp at c4
  subst hl0
  refine nx_seq (nx_region (nv v_assign (nx_nil (nx_then (nx_ret (nx_then_ret ?_))))))
  exact nx_ret1 rfl (.tmp rfl) (rt ((Gh.le.refl _)) (IsSl.nil _))
  refine nx_skip (nx_then (nx_seq (nx_region ?_)))
  refine nx_op rfl (op_buildSlice0 rfl (fun b5 => ?_))
  refine nv v_move ?_
  refine nx_op rfl (op_append (T := tElem) rfl rfl rfl (OwnS.row0 (b := b5)) (N := [(b5, row [] _)]) (by exact Pull.here) (Src.still (hs.le (Gh.le.refl _))) (by simp; omega) (by simp [maxLen]; omega) (fun v7 N7 o7 => ?_))
  refine nv v_assign (nx_nil (nx_then (nx_ret ?_)))
  refine nx_still o7 (by repeat (first | exact Pull.here | apply Pull.cons | apply Pull.app)) (fun G8 A8 c8 le8 hv hs8 => ?_)
  subst hv
  exact nx_ret1 rfl (.tmp rfl) (rt (Gh.le.trans (Gh.le.refl _) le8) (IsSl.of hs8))
set_option maxRecDepth 20000 in
set_option maxHeartbeats 1000000 in
theorem clone_Join {G : Gh} {H : List (Nat × Obj)} {W : World} (hp : Hp G H W) {A : Option Addr} {n c : Nat} {l : List Join} (hs : Sl tJoin G A n c l) (hb : n * 32 ≤ 140737488355328) : Calls Tryz.prog 133 ⟨[.slice A n c]⟩ W (RetD G H (IsSl tJoin l)) := by
  have hl := hs.length
  have hbb := Nat.le_trans hs.cap hs.room
  refine enter Tryz.func133 rfl Tryz.ntmps133 (Nat.le_of_ble_eq_true rfl) hp (nx_seq (nx_region (nv v_assign (nx_nil (nx_then (nx_seq (nx_seq (nx_region (nv v_move (nv v_eql_nil (nx_nil ?_)))))))))))
  refine nx_then ?_
  refine nx_cond rfl (fun c4 => ?_) (fun c4 => ?_)
  have hl0 : l = [] := by
    rcases Nat.eq_zero_or_pos c with h0 | h0
    · have := hs.cap; exact List.length_eq_zero_iff.1 (by omega)
    · obtain ⟨b, o, rfl, _⟩ := hs.at_ h0; simp at c4
  subst hl0
  refine nx_seq (nx_region (nv v_assign (nx_nil (nx_then (nx_ret (nx_then_ret ?_))))))
  exact nx_ret1 rfl (.tmp rfl) (rt ((Gh.le.refl _)) (IsSl.nil _))
  refine nx_skip (nx_then (nx_seq (nx_region ?_)))
  refine nx_op rfl (op_buildSlice0 rfl (fun b5 => ?_))
  refine nv v_move ?_
  refine nx_op rfl (op_append (T := tJoin) rfl rfl rfl (OwnS.row0 (b := b5)) (N := [(b5, row [] _)]) (by exact Pull.here) (Src.still (hs.le (Gh.le.refl _))) (by simp; omega) (by simp [maxLen]; omega) (fun v7 N7 o7 => ?_))
  refine nv v_assign (nx_nil (nx_then (nx_ret ?_)))
  refine nx_still o7 (by repeat (first | exact Pull.here | apply Pull.cons | apply Pull.app)) (fun G8 A8 c8 le8 hv hs8 => ?_)
  subst hv
  exact nx_ret1 rfl (.tmp rfl) (rt (Gh.le.trans (Gh.le.refl _) le8) (IsSl.of hs8))
set_option maxRecDepth 20000 in
set_option maxHeartbeats 1000000 in
theorem clone_Signal {G : Gh} {H : List (Nat × Obj)} {W : World} (hp : Hp G H W) {A : Option Addr} {n c : Nat} {l : List Signal} (hs : Sl tSignal G A n c l) (hb : n * 40 ≤ 140737488355328) : Calls Tryz.prog 134 ⟨[.slice A n c]⟩ W (RetD G H (IsSl tSignal l)) := by
  have hl := hs.length
  have hbb := Nat.le_trans hs.cap hs.room
  refine enter Tryz.func134 rfl Tryz.ntmps134 (Nat.le_of_ble_eq_true rfl) hp (nx_seq (nx_region (nv v_assign (nx_nil (nx_then (nx_seq (nx_seq (nx_region (nv v_move (nv v_eql_nil (nx_nil ?_)))))))))))
  refine nx_then ?_
  refine nx_cond rfl (fun c4 => ?_) (fun c4 => ?_)
  have hl0 : l = [] := by
    rcases Nat.eq_zero_or_pos c with h0 | h0
    · have := hs.cap; exact List.length_eq_zero_iff.1 (by omega)
    · obtain ⟨b, o, rfl, _⟩ := hs.at_ h0; simp at c4
  subst hl0
  refine nx_seq (nx_region (nv v_assign (nx_nil (nx_then (nx_ret (nx_then_ret ?_))))))
  exact nx_ret1 rfl (.tmp rfl) (rt ((Gh.le.refl _)) (IsSl.nil _))
  refine nx_skip (nx_then (nx_seq (nx_region ?_)))
  refine nx_op rfl (op_buildSlice0 rfl (fun b5 => ?_))
  refine nv v_move ?_
  refine nx_op rfl (op_append (T := tSignal) rfl rfl rfl (OwnS.row0 (b := b5)) (N := [(b5, row [] _)]) (by exact Pull.here) (Src.still (hs.le (Gh.le.refl _))) (by simp; omega) (by simp [maxLen]; omega) (fun v7 N7 o7 => ?_))
  refine nv v_assign (nx_nil (nx_then (nx_ret ?_)))
  refine nx_still o7 (by repeat (first | exact Pull.here | apply Pull.cons | apply Pull.app)) (fun G8 A8 c8 le8 hv hs8 => ?_)
  subst hv
  exact nx_ret1 rfl (.tmp rfl) (rt (Gh.le.trans (Gh.le.refl _) le8) (IsSl.of hs8))
set_option maxRecDepth 20000 in
set_option maxHeartbeats 1000000 in
theorem clone_Int {G : Gh} {H : List (Nat × Obj)} {W : World} (hp : Hp G H W) {A : Option Addr} {n c : Nat} {l : List Int} (hs : Sl tInt G A n c l) (hb : n * 8 ≤ 140737488355328) : Calls Tryz.prog 136 ⟨[.slice A n c]⟩ W (RetD G H (IsSl tInt l)) := by
  have hl := hs.length
  have hbb := Nat.le_trans hs.cap hs.room
  refine enter Tryz.func136 rfl Tryz.ntmps136 (Nat.le_of_ble_eq_true rfl) hp (nx_seq (nx_region (nv v_assign (nx_nil (nx_then (nx_seq (nx_seq (nx_region (nv v_move (nv v_eql_nil (nx_nil ?_)))))))))))
  refine nx_then ?_
  refine nx_cond rfl (fun c4 => ?_) (fun c4 => ?_)
  have hl0 : l = [] := by
    rcases Nat.eq_zero_or_pos c with h0 | h0
    · have := hs.cap; exact List.length_eq_zero_iff.1 (by omega)
    · obtain ⟨b, o, rfl, _⟩ := hs.at_ h0; simp at c4
  subst hl0
  refine nx_seq (nx_region (nv v_assign (nx_nil (nx_then (nx_ret (nx_then_ret ?_))))))
  exact nx_ret1 rfl (.tmp rfl) (rt ((Gh.le.refl _)) (IsSl.nil _))
  refine nx_skip (nx_then (nx_seq (nx_region ?_)))
  refine nx_op rfl (op_buildSlice0 rfl (fun b5 => ?_))
  refine nv v_move ?_
  refine nx_op rfl (op_append (T := tInt) rfl rfl rfl (OwnS.row0 (b := b5)) (N := [(b5, row [] _)]) (by exact Pull.here) (Src.still (hs.le (Gh.le.refl _))) (by simp; omega) (by simp [maxLen]; omega) (fun v7 N7 o7 => ?_))
  refine nv v_assign (nx_nil (nx_then (nx_ret ?_)))
  refine nx_still o7 (by repeat (first | exact Pull.here | apply Pull.cons | apply Pull.app)) (fun G8 A8 c8 le8 hv hs8 => ?_)
  subst hv
  exact nx_ret1 rfl (.tmp rfl) (rt (Gh.le.trans (Gh.le.refl _) le8) (IsSl.of hs8))
set_option maxRecDepth 20000 in
set_option maxHeartbeats 1000000 in
theorem clone_Step {G : Gh} {H : List (Nat × Obj)} {W : World} (hp : Hp G H W) {A : Option Addr} {n c : Nat} {l : List Step} (hs : Sl tStep G A n c l) (hb : n * 24 ≤ 140737488355328) : Calls Tryz.prog 139 ⟨[.slice A n c]⟩ W (RetD G H (IsSl tStep l)) := by
  have hl := hs.length
  have hbb := Nat.le_trans hs.cap hs.room
  refine enter Tryz.func139 rfl Tryz.ntmps139 (Nat.le_of_ble_eq_true rfl) hp (nx_seq (nx_region (nv v_assign (nx_nil (nx_then (nx_seq (nx_seq (nx_region (nv v_move (nv v_eql_nil (nx_nil ?_)))))))))))
  refine nx_then ?_
  refine nx_cond rfl (fun c4 => ?_) (fun c4 => ?_)
  have hl0 : l = [] := by
    rcases Nat.eq_zero_or_pos c with h0 | h0
    · have := hs.cap; exact List.length_eq_zero_iff.1 (by omega)
    · obtain ⟨b, o, rfl, _⟩ := hs.at_ h0; simp at c4
  subst hl0
  refine nx_seq (nx_region (nv v_assign (nx_nil (nx_then (nx_ret (nx_then_ret ?_))))))
  exact nx_ret1 rfl (.tmp rfl) (rt ((Gh.le.refl _)) (IsSl.nil _))
  refine nx_skip (nx_then (nx_seq (nx_region ?_)))
  refine nx_op rfl (op_buildSlice0 rfl (fun b5 => ?_))
  refine nv v_move ?_
  refine nx_op rfl (op_append (T := tStep) rfl rfl rfl (OwnS.row0 (b := b5)) (N := [(b5, row [] _)]) (by exact Pull.here) (Src.still (hs.le (Gh.le.refl _))) (by simp; omega) (by simp [maxLen]; omega) (fun v7 N7 o7 => ?_))
  refine nv v_assign (nx_nil (nx_then (nx_ret ?_)))
  refine nx_still o7 (by repeat (first | exact Pull.here | apply Pull.cons | apply Pull.app)) (fun G8 A8 c8 le8 hv hs8 => ?_)
  subst hv
  exact nx_ret1 rfl (.tmp rfl) (rt (Gh.le.trans (Gh.le.refl _) le8) (IsSl.of hs8))
set_option maxRecDepth 20000 in
set_option maxHeartbeats 1000000 in
theorem clone_Need {G : Gh} {H : List (Nat × Obj)} {W : World} (hp : Hp G H W) {A : Option Addr} {n c : Nat} {l : List Need} (hs : Sl tNeed G A n c l) (hb : n * 16 ≤ 140737488355328) : Calls Tryz.prog 140 ⟨[.slice A n c]⟩ W (RetD G H (IsSl tNeed l)) := by
  have hl := hs.length
  have hbb := Nat.le_trans hs.cap hs.room
  refine enter Tryz.func140 rfl Tryz.ntmps140 (Nat.le_of_ble_eq_true rfl) hp (nx_seq (nx_region (nv v_assign (nx_nil (nx_then (nx_seq (nx_seq (nx_region (nv v_move (nv v_eql_nil (nx_nil ?_)))))))))))
  refine nx_then ?_
  refine nx_cond rfl (fun c4 => ?_) (fun c4 => ?_)
  have hl0 : l = [] := by
    rcases Nat.eq_zero_or_pos c with h0 | h0
    · have := hs.cap; exact List.length_eq_zero_iff.1 (by omega)
    · obtain ⟨b, o, rfl, _⟩ := hs.at_ h0; simp at c4
  subst hl0
  refine nx_seq (nx_region (nv v_assign (nx_nil (nx_then (nx_ret (nx_then_ret ?_))))))
  exact nx_ret1 rfl (.tmp rfl) (rt ((Gh.le.refl _)) (IsSl.nil _))
  refine nx_skip (nx_then (nx_seq (nx_region ?_)))
  refine nx_op rfl (op_buildSlice0 rfl (fun b5 => ?_))
  refine nv v_move ?_
  refine nx_op rfl (op_append (T := tNeed) rfl rfl rfl (OwnS.row0 (b := b5)) (N := [(b5, row [] _)]) (by exact Pull.here) (Src.still (hs.le (Gh.le.refl _))) (by simp; omega) (by simp [maxLen]; omega) (fun v7 N7 o7 => ?_))
  refine nv v_assign (nx_nil (nx_then (nx_ret ?_)))
  refine nx_still o7 (by repeat (first | exact Pull.here | apply Pull.cons | apply Pull.app)) (fun G8 A8 c8 le8 hv hs8 => ?_)
  subst hv
  exact nx_ret1 rfl (.tmp rfl) (rt (Gh.le.trans (Gh.le.refl _) le8) (IsSl.of hs8))
end Go.Proofs.YtjckojnlapchoaaGreat
open Go Go.RowKit
namespace Go.Proofs.YtjckojnlapchoaaGreat
open Go.Proofs
def letterI (k : Int) : Bool := (decide (97 ≤ k) && decide (k ≤ 122)) || (decide (65 ≤ k) && decide (k ≤ 90))
def nameB (b : UInt8) : Bool := letterI b.toNat || (decide (48 ≤ (b.toNat : Int)) && decide ((b.toNat : Int) ≤ 57))
def nameOk (s : ByteArray) : Bool := match s.data.toList with
  | [] => false
  | c :: r => decide (s.data.toList.length ≤ 8) && letterI c.toNat && r.all nameB
theorem ba_size (s : ByteArray) : s.size = s.data.toList.length := by obtain ⟨⟨l⟩⟩ := s; rfl
theorem ba_get {s : ByteArray} {k : Nat} {b : UInt8} (h : s.data.toList[k]? = some b) : s[k]? = some b := by
  have hk : k < s.data.toList.length := (List.getElem?_eq_some_iff.1 h).1
  have hk' : k < s.size := by rw [ba_size]; exact hk
  rw [getElem?_pos s k hk']
  rw [← h]
  simp only [List.getElem?_eq_getElem hk]
  rfl
theorem name_no {s : ByteArray} {c : UInt8} {r : List UInt8} (h : s.data.toList = c :: r) (k : ¬ s.data.toList.length ≤ 8 ∨ letterI c.toNat = false ∨ r.all nameB = false) : nameOk s = false := by
  unfold nameOk; rw [h]; rw [h] at k; simp only
  rcases k with k | k | k
  · rw [decide_eq_false k]; rfl
  · rw [k]; simp
  · rw [k]; simp
theorem name_yes {s : ByteArray} {c : UInt8} {r : List UInt8} (h : s.data.toList = c :: r) (h1 : s.data.toList.length ≤ 8) (h2 : letterI c.toNat = true) (h3 : r.all nameB = true) : nameOk s = true := by
  unfold nameOk; rw [h]; rw [h] at h1; simp only
  rw [decide_eq_true h1, h2, h3]; rfl
set_option maxRecDepth 20000 in
set_option maxHeartbeats 1000000 in
theorem letter_ok {G : Gh} {H : List (Nat × Obj)} {W : World} (hp : Hp G H W) (k : Int) : Calls Tryz.prog 163 ⟨[.int .u8 k]⟩ W (RetS G H (.bool (letterI k))) := by
  refine enter Tryz.func163 rfl Tryz.ntmps163 (Nat.le_of_ble_eq_true rfl) hp (nx_seq (nx_region (nv v_assign (nx_nil (nx_then (nx_seq (nx_region (nv v_move (nv v_geq (nv v_move ?_))))))))))
  refine nx_guard_dec (t := 5) rfl (fun g5 => ?_) (fun g5 => ?_)
  refine nr v_move (nr v_leq (nv v_pick_t (nv v_move ?_)))
  refine nx_guard_dec (t := 9) rfl (fun g9 => ?_) (fun g9 => ?_)
  refine nk (k := nk (k := nk (k := nu (k := nu (k := nk (k := nv v_pick_t (nv v_assign (nx_nil (nx_then (nx_ret ?_))))))))))
  exact nx_ret1 rfl (.tmp rfl) (rs (by simp [letterI, *]))
  refine nr v_move (nr v_geq (nr v_move ?_))
  refine nx_guard_dec (t := 12) rfl (fun g12 => ?_) (fun g12 => ?_)
  refine nr v_move (nr v_leq (nr v_pick_t (nv v_pick_f (nv v_assign (nx_nil (nx_then (nx_ret ?_)))))))
  exact nx_ret1 rfl (.tmp rfl) (rs (by simp [letterI, *]))
  refine nk (k := nk (k := nr v_pick_f (nv v_pick_f (nv v_assign (nx_nil (nx_then (nx_ret ?_)))))))
  exact nx_ret1 rfl (.tmp rfl) (rs (by simp [letterI, *]))
  refine nk (k := nk (k := nv v_pick_f (nv v_move (nr v_move (nr v_geq (nr v_move ?_))))))
  refine nx_guard_dec (t := 12) rfl (fun g12 => ?_) (fun g12 => ?_)
  refine nr v_move (nr v_leq (nr v_pick_t (nv v_pick_f (nv v_assign (nx_nil (nx_then (nx_ret ?_)))))))
  exact nx_ret1 rfl (.tmp rfl) (rs (by simp [letterI, *]))
  refine nk (k := nk (k := nr v_pick_f (nv v_pick_f (nv v_assign (nx_nil (nx_then (nx_ret ?_)))))))
  exact nx_ret1 rfl (.tmp rfl) (rs (by simp [letterI, *]))
set_option maxRecDepth 20000 in
set_option maxHeartbeats 1000000 in
theorem name_ok {G : Gh} {H : List (Nat × Obj)} {W : World} (hp : Hp G H W) (s : ByteArray) : Calls Tryz.prog 105 ⟨[.string s]⟩ W (RetS G H (.bool (nameOk s))) := by
  have hsz := ba_size s
  have hnil : s = ⟨#[]⟩ ↔ s.data.toList = [] := by obtain ⟨⟨l⟩⟩ := s; simp
  refine enter Tryz.func105 rfl Tryz.ntmps105 (Nat.le_of_ble_eq_true rfl) hp (nx_seq (nx_region (nv v_assign (nx_nil (nx_then (nx_seq (nx_seq (nx_region (nv v_move (nv v_eql_str (nv v_move ?_)))))))))))
  refine nx_guard_dec (t := 6) rfl (fun g6 => ?_) (fun g6 => ?_)
  refine nk (k := nk (k := nk (k := nv v_pick_t (nv v_move (nk (k := nk (k := nk (k := nk (k := nv v_pick_t (nx_nil (nx_then ?_)))))))))))
  refine nx_cond_t rfl (nx_seq (nx_region (nv v_assign (nx_nil (nx_then (nx_ret (nx_then_ret ?_)))))))
  exact nx_ret1 rfl (.tmp rfl) (rs (by unfold nameOk; rw [hnil.1 g6]))
  obtain ⟨c, r, hc, _⟩ := drop_of_lt (xs := s.data.toList) (k := 0) (by rcases Nat.eq_zero_or_pos s.data.toList.length with h | h; exact absurd (hnil.2 (List.length_eq_zero_iff.1 h)) g6; exact h)
  have hc0 : s.data.toList = c :: r := by simpa using hc
  have hr : s.data.toList.drop 1 = r := by rw [hc0]; rfl
  refine nr v_move (nr v_len_str (nr v_gtr (nv v_pick_f (nv v_move ?_))))
  refine nx_guard_dec (t := 11) rfl (fun g11 => ?_) (fun g11 => ?_)
  refine nk (k := nk (k := nk (k := nk (k := nv v_pick_t (nx_nil (nx_then (nx_cond_t rfl (nx_seq (nx_region (nv v_assign (nx_nil ?_)))))))))))
  refine nx_then (nx_ret (nx_then_ret ?_))
  exact nx_ret1 rfl (.tmp rfl) (rs (by rw [name_no hc0 (.inl (by omega))]))
  refine nr v_move ?_
  refine nr (v_index_str (i := 0) rfl rfl rfl (ba_get (by rw [hc0]; rfl))) ?_
  refine nx_op_run rfl rfl rfl (op_callS rfl rfl rfl (fun W hp => letter_ok hp _) ?_)
  refine nr v_not (nv v_pick_f (nx_nil (nx_then ?_)))
  refine nx_cond rfl (fun c16 => ?_) (fun c16 => ?_)
  refine nx_seq (nx_region (nv v_assign (nx_nil (nx_then (nx_ret (nx_then_ret ?_))))))
  exact nx_ret1 rfl (.tmp rfl) (rs (by rw [name_no hc0 (.inr (.inl (by simpa using c16)))]))
  refine nx_skip (nx_then (nx_seq (nx_seq (nx_region (nv v_assign (nx_nil (nx_then (nx_block ?_))))))))
  refine nx_loop_v (σ := Nat) [0, 4, 5, 6, 7, 8, 9, 10, 11, 12, 13, 14, 15, 16] (fun k => [(3, .int .i64 (k : Int))]) (fun _ => G) (fun _ => _) (fun k => (s.data.toList.drop k).all nameB = r.all nameB) (fun k => s.size - k) 1 (.cons rfl (.cons rfl (.cons rfl (.cons rfl (.cons rfl (.cons rfl (.cons rfl (.cons rfl (.cons rfl (.cons rfl (.cons rfl (.cons rfl (.cons rfl (.cons rfl (.nil))))))))))))))) ⟨rfl, trivial⟩ (by rw [hr]) rfl rfl ?_
  intro k hI K next
  refine nx_seq (nx_seq (nx_region (nv v_move (nv v_move (nv v_len_str (nv v_lss (nx_nil (nx_then ?_))))))))
  refine nx_cond_dec rfl (fun c20 => ?_) (fun c20 => ?_)
  obtain ⟨x, rest, hd, hx⟩ := drop_of_lt (xs := s.data.toList) (k := k) (by omega)
  have hr' : s.data.toList.drop (k + 1) = rest := by rw [← List.tail_drop, hd]; rfl
  rw [hd, List.all_cons] at hI
  have hlt : (x.toNat : Int) < 256 := by have := x.toNat_lt; omega
  refine nx_skip (nx_then (nx_seq (nx_block (nx_seq (nx_region (nv v_move (nv v_move (nv (v_index_str (i := k) rfl rfl rfl (ba_get hx)) ?_))))))))
  refine nx_op rfl (op_callS rfl rfl rfl (fun W hp => letter_ok hp _) ?_)
  refine nv v_not (nv v_move ?_)
  refine nx_guard (t := 28) rfl (fun g28 => ?_) (fun g28 => ?_)
  refine nr v_move (nr v_move (nr (v_index_str (i := k) rfl rfl rfl (ba_get hx)) (nr v_lss (nr v_move ?_))))
  refine nx_guard_dec (t := 33) rfl (fun g33 => ?_) (fun g33 => ?_)
  refine nk (k := nk (k := nk (k := nk (k := nr v_pick_t (nv v_pick_t (nx_nil (nx_then (nx_cond_t rfl ?_))))))))
  have hno : nameB x = false := by
    have h1 : letterI x.toNat = false := by simpa using g28
    unfold nameB; rw [h1]; simp; omega
  refine nx_seq (nx_region (nv v_assign (nx_nil (nx_then (nx_ret (nx_in_ret (nx_then_ret (nx_then_ret (nx_in_ret (nx_then_ret ?_))))))))))
  exact nx_ret1 rfl (.tmp rfl) (rs (by rw [name_no hc0 (.inr (.inr (by rw [← hI, hno]; rfl)))]))
  refine nr v_move (nr v_move (nr (v_index_str (i := k) rfl rfl rfl (ba_get hx)) (nr v_gtr (nr v_pick_f (nv v_pick_t (nx_nil (nx_then ?_)))))))
  refine nx_cond_dec rfl (fun c39 => ?_) (fun c39 => ?_)
  have hno : nameB x = false := by
    have h1 : letterI x.toNat = false := by simpa using g28
    unfold nameB; rw [h1]; simp; omega
  refine nx_seq (nx_region (nv v_assign (nx_nil (nx_then (nx_ret (nx_in_ret (nx_then_ret (nx_then_ret (nx_in_ret (nx_then_ret ?_))))))))))
  exact nx_ret1 rfl (.tmp rfl) (rs (by rw [name_no hc0 (.inr (.inr (by rw [← hI, hno]; rfl)))]))
  have hyes : nameB x = true := by
    unfold nameB; simp_all
  refine nx_skip (nx_in _ (nx_then (nx_region (nv v_move (nv v_add (nv v_assign (nx_nil (nx_then ?_))))))))
  exact nn (next (k + 1) (by rw [hr', ← hI, hyes]; rfl) (by omega))
  refine nk (k := nk (k := nk (k := nk (k := nk (k := nu (k := nu (k := nu (k := nu (k := nk (k := nv v_pick_f (nx_nil ?_)))))))))))
  refine nx_then (nx_cond_f rfl ?_)
  have hyes : nameB x = true := by
    unfold nameB; simp_all
  refine nx_skip (nx_in _ (nx_then (nx_region (nv v_move (nv v_add (nv v_assign (nx_nil (nx_then ?_))))))))
  exact nn (next (k + 1) (by rw [hr', ← hI, hyes]; rfl) (by omega))
  refine nx_exit (nx_then_exit (nx_then_exit (nx_in_eq (nx_then (nx_seq (nx_region (nv v_assign (nx_nil (nx_then (nx_ret ?_))))))))))
  exact nx_ret1 rfl (.tmp rfl) (rs (by rw [name_yes hc0 (by omega) (by simpa using c16) (by rw [← hI, List.drop_eq_nil_of_le (by omega)]; rfl)]))
end Go.Proofs.YtjckojnlapchoaaGreat
