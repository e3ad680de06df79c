/- Part 1 of a proof of a law over the program: Base, Pl, Draw, Pm, Pn, Po, Short, Pq, Pr, Ps, Pt, Draw2, Pu. Conditions: none beyond what each statement says. -/
import Derived.WalkKit
import Derived.Deep.QuietTactic
import Derived.BigQuiet
import Derived.Deep.LoopGhost
import Derived.WideLaws
import Derived.Laws.Rows
import Derived.OrdersHeld
import Derived.Scope
import Derived.Deep.RegionHeld3
import Derived.StillTail
import Derived.Maps.AppendAt
import Derived.Laws.Cover3
import Derived.Laws.Pointers
import Derived.Laws.MakeOwn
set_option linter.unusedVariables false
set_option linter.unusedSimpArgs false
open Go Go.RowKit
namespace Go.Proofs.YtjckojnlapchoaaGreat
structure Gh where
  get : Nat → Option Obj
  os : Os
  tape : Nat → Question → Nat
  output : Array (Nat × ByteArray)
structure Gh.le (G G' : Gh) : Prop where
  get : ∀ k o, G.get k = some o → G'.get k = some o
  os : G'.os = G.os
  tape : G'.tape = G.tape
  output : G'.output = G.output
theorem Gh.le.refl (G : Gh) : G.le G := ⟨fun _ _ h => h, rfl, rfl, rfl⟩
theorem Gh.le.trans {A B C : Gh} (h : A.le B) (k : B.le C) : A.le C := ⟨fun i o x => k.get i o (h.get i o x), k.os.trans h.os, k.tape.trans h.tape, k.output.trans h.output⟩
structure Hp (G : Gh) (H : List (Nat × Obj)) (W : World) : Prop where
  os : W.os = G.os
  tape : W.tape = G.tape
  output : W.output = G.output
  imm : ∀ k o, G.get k = some o → W.heap[k]? = some o
  mem : ∀ b o, (b, o) ∈ H → W.heap[b]? = some o
  apart : ∀ b o, (b, o) ∈ H → G.get b = none
  nodup : (H.map (·.1)).Nodup
def Gh.of (W : World) : Gh := ⟨fun k => W.heap[k]?, W.os, W.tape, W.output⟩
theorem Hp.start (W : World) : Hp (Gh.of W) [] W := ⟨rfl, rfl, rfl, fun _ _ h => h, fun _ _ h => absurd h List.not_mem_nil, fun _ _ h => absurd h List.not_mem_nil, List.nodup_nil⟩
theorem Hp.ends {W W' : World} {G : Gh} {H : List (Nat × Obj)} (hl : (Gh.of W).le G) (h : Hp G H W') : Below W.heap.size W W' := by
  refine ⟨h.os.trans hl.os, h.tape.trans hl.tape, h.output.trans hl.output, ?_, ?_⟩
  · rcases Nat.lt_or_ge W'.heap.size W.heap.size with hlt | hge
    · have hk : W.heap[W'.heap.size]? = some W.heap[W'.heap.size] := Array.getElem?_eq_getElem hlt
      have := h.imm _ _ (hl.get _ _ hk)
      simp at this
    · exact hge
  · intro k hk
    have he : W.heap[k]? = some W.heap[k] := Array.getElem?_eq_getElem hk
    rw [h.imm _ _ (hl.get _ _ he), he]
theorem Hp.drew {G : Gh} {H : List (Nat × Obj)} {W : World} (h : Hp G H W) : Hp G H { W with drawn := W.drawn + 1 } := ⟨h.os, h.tape, h.output, h.imm, h.mem, h.apart, h.nodup⟩
theorem Hp.drop {G : Gh} {H : List (Nat × Obj)} {x : Nat × Obj} {W : World} (h : Hp G (x :: H) W) : Hp G H W :=
  ⟨h.os, h.tape, h.output, h.imm, fun b o hm => h.mem b o (List.mem_cons_of_mem _ hm), fun b o hm => h.apart b o (List.mem_cons_of_mem _ hm), (List.nodup_cons.1 (by simpa using h.nodup)).2⟩
theorem Hp.perm {G : Gh} {H H' : List (Nat × Obj)} {W : World} (h : Hp G H W) (p : H.Perm H') : Hp G H' W :=
  ⟨h.os, h.tape, h.output, h.imm, fun b o hm => h.mem b o (p.mem_iff.2 hm), fun b o hm => h.apart b o (p.mem_iff.2 hm), (p.map _).nodup_iff.1 h.nodup⟩
theorem Hp.freeze {G : Gh} {H : List (Nat × Obj)} {b : Nat} {o : Obj} {W : World} (h : Hp G ((b, o) :: H) W) :
    ∃ G' : Gh, G.le G' ∧ G'.get b = some o ∧ Hp G' H W := by
  refine ⟨{ G with get := fun k => if k = b then some o else G.get k }, ⟨?_, rfl, rfl, rfl⟩, by simp, ?_⟩
  · intro k o' hk
    have hb := h.apart b o List.mem_cons_self
    by_cases e : k = b
    · subst e; rw [hb] at hk; cases hk
    · simp [e, hk]
  · have hn : b ∉ H.map (·.1) ∧ (H.map (·.1)).Nodup := by simpa using h.nodup
    refine ⟨h.os, h.tape, h.output, ?_, fun b' o' hm => h.mem b' o' (List.mem_cons_of_mem _ hm), ?_, hn.2⟩
    · intro k o' hk
      by_cases e : k = b
      · subst e
        simp at hk
        subst hk
        exact h.mem k o List.mem_cons_self
      · simp [e] at hk
        exact h.imm k o' hk
    · intro b' o' hm
      have hne : b' ≠ b := by
        intro e; subst e
        exact hn.1 (List.mem_map.2 ⟨_, hm, rfl⟩)
      simp [hne, h.apart b' o' (List.mem_cons_of_mem _ hm)]
theorem Hp.lt {G : Gh} {H : List (Nat × Obj)} {W : World} (h : Hp G H W) {b : Nat} {o : Obj} (hm : (b, o) ∈ H) : b < W.heap.size := (Array.getElem?_eq_some_iff.1 (h.mem b o hm)).1
theorem Hp.alloc {G : Gh} {H : List (Nat × Obj)} {W : World} (h : Hp G H W) (o : Obj) : Hp G ((W.heap.size, o) :: H) (W.alloc o) := by
  have hg : ∀ k x, G.get k = some x → k < W.heap.size := fun k x hk => (Array.getElem?_eq_some_iff.1 (h.imm k x hk)).1
  refine ⟨h.os, h.tape, h.output, ?_, ?_, ?_, ?_⟩
  · intro k x hk
    rw [heap_alloc_old W o (hg k x hk)]
    exact h.imm k x hk
  · intro b x hm
    rcases List.mem_cons.1 hm with e | hm
    · cases e; exact heap_alloc_new W _
    · rw [heap_alloc_old W o (h.lt hm)]; exact h.mem b x hm
  · intro b x hm
    rcases List.mem_cons.1 hm with e | hm
    · cases e
      cases hx : G.get W.heap.size with
      | none => rfl
      | some y => have := hg _ _ hx; omega
    · exact h.apart b x hm
  · simp only [List.map_cons, List.nodup_cons]
    refine ⟨?_, h.nodup⟩
    intro hm
    obtain ⟨x, hx, he⟩ := List.mem_map.1 hm
    have := h.lt (b := x.1) (o := x.2) hx
    omega
theorem Hp.write {G : Gh} {H : List (Nat × Obj)} {b : Nat} {o o' : Obj} {W W' : World} (h : Hp G ((b, o) :: H) W)
    (hos : W'.os = W.os) (htape : W'.tape = W.tape) (hout : W'.output = W.output) (hb : W'.heap[b]? = some o') (hoth : ∀ k, k ≠ b → W'.heap[k]? = W.heap[k]?) : Hp G ((b, o') :: H) W' := by
  have hn : b ∉ H.map (·.1) ∧ (H.map (·.1)).Nodup := by simpa using h.nodup
  refine ⟨hos.trans h.os, htape.trans h.tape, hout.trans h.output, ?_, ?_, ?_, ?_⟩
  · intro k x hk
    have hne : k ≠ b := by
      intro e; subst e
      rw [h.apart k o List.mem_cons_self] at hk; cases hk
    rw [hoth k hne]; exact h.imm k x hk
  · intro b' x hm
    rcases List.mem_cons.1 hm with e | hm
    · cases e; exact hb
    · have hne : b' ≠ b := fun e => hn.1 (List.mem_map.2 ⟨(b', x), hm, e⟩)
      rw [hoth b' hne]; exact h.mem b' x (List.mem_cons_of_mem _ hm)
  · intro b' x hm
    rcases List.mem_cons.1 hm with e | hm
    · cases e; exact h.apart b o List.mem_cons_self
    · exact h.apart b' x (List.mem_cons_of_mem _ hm)
  · simpa using h.nodup
def Gh.cell (G : Gh) (b o : Nat) : Option Value :=
  match G.get b with
  | some (.cells c _ _) => c[o]?
  | _ => none
theorem Gh.le.cell {G G' : Gh} (h : G.le G') {b o : Nat} {v : Value} (hc : G.cell b o = some v) : G'.cell b o = some v := by
  unfold Gh.cell at *
  cases hb : G.get b with
  | none => simp [hb] at hc
  | some x => rw [h.get b x hb]; rw [hb] at hc; exact hc
theorem Hp.cell {G : Gh} {H : List (Nat × Obj)} {W : World} (h : Hp G H W) {b o : Nat} {v : Value} (hc : G.cell b o = some v) : W.cell? ⟨b, o, none⟩ = some v := by
  unfold Gh.cell at hc
  cases hb : G.get b with
  | none => simp [hb] at hc
  | some x =>
    rw [hb] at hc
    have := h.imm b x hb
    cases x <;> simp at hc
    simp [World.cell?, this, hc]
theorem Hp.own {G : Gh} {H : List (Nat × Obj)} {W : World} (h : Hp G H W) {b o : Nat} {c : Array Value} {T : TypeId} {fr : Nat × Nat} (hm : (b, Obj.cells c T fr) ∈ H) : W.cell? ⟨b, o, none⟩ = c[o]? := by
  simp [World.cell?, h.mem b _ hm]
structure Tell (α : Type) where
  sz : Nat
  R : Gh → List Value → α → Prop
  len : ∀ {G cs a}, R G cs a → cs.length = sz
  le : ∀ {G G' cs a}, G.le G' → R G cs a → R G' cs a
  one : ∀ {G cs a}, R G cs a → ∀ v ∈ cs, v.oneCell' = true
def Tell.flat {α : Type} (n : Nat) (f : α → List Value) (h : ∀ a, (f a).length = n) (h1 : ∀ a, ∀ v ∈ f a, v.oneCell' = true) : Tell α where
  sz := n
  R := fun _ cs a => cs = f a
  len := fun e => by rw [e]; exact h _
  le := fun _ e => e
  one := fun e => by rw [e]; exact h1 _
def tInt : Tell Int := Tell.flat 1 (fun a => [.int .i64 a]) (fun _ => rfl) (fun _ v hv => by simp at hv; subst hv; rfl)
def tBool : Tell Bool := Tell.flat 1 (fun a => [.bool a]) (fun _ => rfl) (fun _ v hv => by simp at hv; subst hv; rfl)
def tStr : Tell ByteArray := Tell.flat 1 (fun a => [.string a]) (fun _ => rfl) (fun _ v hv => by simp at hv; subst hv; rfl)
structure Sl {α : Type} (T : Tell α) (G : Gh) (A : Option Addr) (n c : Nat) (xs : List α) : Prop where
  length : xs.length = n
  cap : n ≤ c
  room : c ≤ 9223372036854775807
  at_ : 0 < c → ∃ b o, A = Option.some ⟨b, o, none⟩ ∧ ∀ k x, xs[k]? = Option.some x → ∃ cs, (∀ j v, cs[j]? = Option.some v → G.cell b (o + k * T.sz + j) = Option.some v) ∧ T.R G cs x
theorem Sl.nil {α : Type} (T : Tell α) (G : Gh) : Sl T G none 0 0 [] := ⟨rfl, Nat.le_refl _, Nat.zero_le _, fun h => by omega⟩
theorem Sl.le {α : Type} {T : Tell α} {G G' : Gh} {A : Option Addr} {n c : Nat} {xs : List α} (h : Sl T G A n c xs) (e : G.le G') : Sl T G' A n c xs :=
  ⟨h.length, h.cap, h.room, fun hn => by
    obtain ⟨b, o, hA, hx⟩ := h.at_ hn
    refine ⟨b, o, hA, fun k x hk => ?_⟩
    obtain ⟨cs, hc, hr⟩ := hx k x hk
    exact ⟨cs, fun j v hj => e.cell (hc j v hj), T.le e hr⟩⟩
theorem Sl.get {α : Type} {T : Tell α} {G : Gh} {A : Option Addr} {n c : Nat} {xs : List α} (h : Sl T G A n c xs) {k : Nat} {x : α} (hk : xs[k]? = Option.some x) :
    ∃ b o cs, A = Option.some ⟨b, o, none⟩ ∧ k < n ∧ cs.length = T.sz ∧ (∀ j v, cs[j]? = Option.some v → G.cell b (o + k * T.sz + j) = Option.some v) ∧ T.R G cs x := by
  have hlt : k < xs.length := (List.getElem?_eq_some_iff.1 hk).1
  have hn : k < n := by rw [← h.length]; exact hlt
  have := h.cap
  obtain ⟨b, o, hA, hx⟩ := h.at_ (by omega)
  obtain ⟨cs, hc, hr⟩ := hx k x hk
  exact ⟨b, o, cs, hA, hn, T.len hr, hc, hr⟩
theorem Sl.next {α : Type} {T : Tell α} {G : Gh} {A : Option Addr} {n c : Nat} {xs : List α} (h : Sl T G A n c xs) {k : Nat} {x : α} {rest : List α} (hd : xs.drop k = x :: rest) :
    ∃ b o cs, A = Option.some ⟨b, o, none⟩ ∧ k < n ∧ xs.drop (k + 1) = rest ∧ cs.length = T.sz ∧ (∀ j v, cs[j]? = Option.some v → G.cell b (o + k * T.sz + j) = Option.some v) ∧ T.R G cs x := by
  have hk : xs[k]? = Option.some x := by have := congrArg (fun l => l[0]?) hd; simpa using this
  obtain ⟨b, o, cs, hA, hn, hl, hc, hr⟩ := h.get hk
  refine ⟨b, o, cs, hA, hn, ?_, hl, hc, hr⟩
  have := congrArg List.tail hd
  simpa [List.tail_drop] using this
theorem drop_of_lt {α : Type} {xs : List α} {k : Nat} (h : k < xs.length) : ∃ x rest, xs.drop k = x :: rest ∧ xs[k]? = some x := ⟨xs[k], xs.drop (k + 1), List.drop_eq_getElem_cons h, List.getElem?_eq_getElem h⟩
def tSl {α : Type} (T : Tell α) : Tell (List α) where
  sz := 1
  R := fun G cs xs => ∃ A n c, cs = [.slice A n c] ∧ Sl T G A n c xs
  len := by rintro G cs a ⟨A, n, c, rfl, _⟩; rfl
  le := by rintro G G' cs a e ⟨A, n, c, rfl, h⟩; exact ⟨A, n, c, rfl, h.le e⟩
  one := by rintro G cs a ⟨A, n, c, rfl, _⟩ v hv; simp at hv; subst hv; rfl
def findK {κ ν : Type} [DecidableEq κ] : List (κ × ν) → κ → Nat → Option (Nat × ν)
  | [], _, _ => none
  | (k', v) :: l, k, i => if k = k' then some (i, v) else findK l k (i + 1)
def getK {κ ν : Type} [DecidableEq κ] (l : List (κ × ν)) (k : κ) : Option ν := (findK l k 0).map (·.2)
def putK {κ ν : Type} [DecidableEq κ] (l : List (κ × ν)) (k : κ) (v : ν) : List (κ × ν) :=
  match l with
  | [] => [(k, v)]
  | (k', v') :: l => if k = k' then (k, v) :: l else (k', v') :: putK l k v
theorem getK_cons {κ ν : Type} [DecidableEq κ] (a : κ × ν) (l : List (κ × ν)) (k : κ) : getK (a :: l) k = if k = a.1 then some a.2 else getK l k := by
  have h : ∀ (l : List (κ × ν)) i j, (findK l k i).map (·.2) = (findK l k j).map (·.2) := by
    intro l
    induction l with
    | nil => intro i j; rfl
    | cons x l ih => intro i j; unfold findK; split; rfl; exact ih _ _
  obtain ⟨a1, a2⟩ := a
  show (if k = a1 then some (0, a2) else findK l k (0 + 1)).map (·.2) = _
  split
  · rfl
  · exact h l 1 0
theorem getK_put {κ ν : Type} [DecidableEq κ] (l : List (κ × ν)) (k : κ) (v : ν) (k' : κ) : getK (putK l k v) k' = if k' = k then some v else getK l k' := by
  induction l with
  | nil => simp only [putK]; rw [getK_cons]
  | cons a l ih =>
    obtain ⟨a1, a2⟩ := a
    unfold putK
    split
    · rename_i h; subst h; rw [getK_cons, getK_cons]; simp only; split <;> rfl
    · rename_i h
      rw [getK_cons, getK_cons, ih]
      simp only
      by_cases h1 : k' = a1
      · have : ¬ k' = k := by intro e; exact h (e ▸ h1)
        simp [h1, this]; intro e; exact absurd e.symm h
      · simp [h1]
def MapObj {κ ν : Type} (kenc : κ → Value) (venc : ν → Value) (o : Obj) (l : List (κ × ν)) : Prop :=
  ∃ es clk, o = .map es clk ∧ es.toList.map (fun e => (e.key, e.val)) = l.map (fun kv => (kenc kv.1, venc kv.2))
def MapIs {κ ν : Type} (kenc : κ → Value) (venc : ν → Value) (w : World) (m : Nat) (l : List (κ × ν)) : Prop :=
  ∃ o, w.heap[m]? = some o ∧ MapObj kenc venc o l
def GMap {κ ν : Type} (kenc : κ → Value) (venc : ν → Value) (G : Gh) (m : Nat) (l : List (κ × ν)) : Prop :=
  ∃ o, G.get m = some o ∧ MapObj kenc venc o l
theorem GMap.le {κ ν : Type} {kenc : κ → Value} {venc : ν → Value} {G G' : Gh} {m : Nat} {l : List (κ × ν)} (h : GMap kenc venc G m l) (e : G.le G') : GMap kenc venc G' m l := by
  obtain ⟨o, h1, h2⟩ := h
  exact ⟨o, e.get _ _ h1, h2⟩
theorem MapObj.new {κ ν : Type} (kenc : κ → Value) (venc : ν → Value) (clk : Nat) : MapObj kenc venc (.map #[] clk) ([] : List (κ × ν)) := ⟨#[], clk, rfl, rfl⟩
theorem run_findAsking {κ ν : Type} [DecidableEq κ] {P : Program} {w : World} {K : TypeId} {kenc : κ → Value} {venc : ν → Value}
    (keq : ∀ k k', (Op.equal K (kenc k) (kenc k')).run P w = .ok (decide (k = k')) w) (k : κ) :
    ∀ (es : List MapEntry) (l : List (κ × ν)) (i : Nat), es.map (fun e => (e.key, e.val)) = l.map (fun kv => (kenc kv.1, venc kv.2)) →
      (Instr.findAsking K (kenc k) es i).run P w = .ok ((findK l k i).map fun x => (x.1, venc x.2)) w := by
  intro es
  induction es with
  | nil => intro l i h; cases l with
    | nil => simp [Instr.findAsking, findK, go_sem]
    | cons a l => simp at h
  | cons e es ih => intro l i h; cases l with
    | nil => simp at h
    | cons a l =>
      simp only [List.map_cons, List.cons.injEq, Prod.mk.injEq] at h
      obtain ⟨⟨h1, h2⟩, h3⟩ := h
      obtain ⟨a1, a2⟩ := a
      simp only at h1 h2
      unfold Instr.findAsking findK
      rw [h1]
      simp [go_sem, keq]
      by_cases hk : k = a1
      · simp [hk, h2, go_sem]
      · simp [hk, go_sem, ih l (i+1) h3]
theorem run_getObj_map {P : Program} {w : World} {m : Nat} {es : Array MapEntry} {clk : Nat} (h : w.heap[m]? = some (.map es clk)) : (getObj m).run P w = .ok (.map es clk) w := by
  simp [getObj, Sem.run, h]
theorem run_setObj_map {P : Program} {w : World} {m : Nat} {es : Array MapEntry} {clk : Nat} (h : w.heap[m]? = some (.map es clk)) (o : Obj) : (setObj m o).run P w = .ok () { w with heap := w.heap.setIfInBounds m o } := by
  simp [setObj, Sem.run, h]
structure KeyOk (P : Program) (K : TypeId) {κ : Type} [DecidableEq κ] (kenc : κ → Value) : Prop where
  find : ∀ {ν : Type} {venc : ν → Value} (w : World) (k : κ) (es : List MapEntry) (l : List (κ × ν)), es.map (fun e => (e.key, e.val)) = l.map (fun kv => (kenc kv.1, venc kv.2)) →
      (Instr.findKey K (kenc k) es).run P w = .ok ((findK l k 0).map fun x => (x.1, venc x.2)) w
  check : ∀ (b : Bool) (w : World) (k : κ), (Instr.checkKey b 10000 K (kenc k)).run P w = .ok () w
  bits : ∀ k, Instr.sameBits 10000 (kenc k) (kenc k) = true
def orZero {ν : Type} (venc : ν → Value) (z : Value) : Option ν → Value
  | some v => venc v
  | none => z
def orZeroOk {ν : Type} (venc : ν → Value) (z : Value) : Option ν → Value
  | some v => .tuple #[venc v, .bool true]
  | none => .tuple #[z, .bool false]
theorem run_lookup_ok {κ ν : Type} [DecidableEq κ] {P : Program} {K T E : TypeId} {kenc : κ → Value} {venc : ν → Value} (hk : KeyOk P K kenc)
    (hT : P.underlying T = some (.map K E)) {w : World} {m : Nat} {l : List (κ × ν)} (h : MapIs kenc venc w m l) (z : Value) (hz : (zeroValue E).run P w = .ok z w) (k : κ) :
    (Instr.lookup T (.map (some m)) (kenc k) true).run P w = .ok (orZeroOk venc z (getK l k)) w := by
  obtain ⟨_, h1, es, clk, rfl, h2⟩ := h
  have hf := hk.find w k es.toList l h2
  have hc := hk.check (Array.isEmpty es) w k
  unfold Instr.lookup getK
  simp [go_sem, run_underlying hT, run_getObj_map h1, hc, hf]
  cases findK l k 0 with
  | none => simp [go_sem, hz, orZeroOk]
  | some x => simp [go_sem, orZeroOk]
theorem run_lookup_plain {κ ν : Type} [DecidableEq κ] {P : Program} {K T E : TypeId} {kenc : κ → Value} {venc : ν → Value} (hk : KeyOk P K kenc)
    (hT : P.underlying T = some (.map K E)) {w : World} {m : Nat} {l : List (κ × ν)} (h : MapIs kenc venc w m l) (z : Value) (hz : (zeroValue E).run P w = .ok z w) (k : κ) :
    (Instr.lookup T (.map (some m)) (kenc k) false).run P w = .ok (orZero venc z (getK l k)) w := by
  obtain ⟨_, h1, es, clk, rfl, h2⟩ := h
  have hf := hk.find w k es.toList l h2
  have hc := hk.check (Array.isEmpty es) w k
  unfold Instr.lookup getK
  simp [go_sem, run_underlying hT, run_getObj_map h1, hc, hf]
  cases findK l k 0 with
  | none => simp [go_sem, hz, orZero]
  | some x => simp [go_sem, orZero]
theorem findK_put_none {κ ν : Type} [DecidableEq κ] (l : List (κ × ν)) (k : κ) (v : ν) : ∀ i, findK l k i = none → putK l k v = l ++ [(k, v)] := by
  induction l with
  | nil => intro i _; rfl
  | cons a l ih =>
    intro i h
    obtain ⟨a1, a2⟩ := a
    unfold findK at h
    unfold putK
    split at h
    · simp at h
    · rename_i hne
      rw [if_neg hne, ih _ h]; rfl
theorem findK_put_some {κ ν : Type} [DecidableEq κ] (l : List (κ × ν)) (k : κ) (v : ν) : ∀ i j u, findK l k i = some (j, u) → i ≤ j ∧ putK l k v = l.modify (j - i) (fun _ => (k, v)) ∧ (∃ h : j - i < l.length, l[j - i] = (k, u)) := by
  induction l with
  | nil => intro i j u h; simp [findK] at h
  | cons a l ih =>
    intro i j u h
    obtain ⟨a1, a2⟩ := a
    unfold findK at h
    unfold putK
    split at h
    · rename_i he
      simp at h
      obtain ⟨rfl, rfl⟩ := h
      simp [he]
    · rename_i hne
      obtain ⟨h1, h2, h3, h4⟩ := ih (i + 1) j u h
      have e : j - i = (j - (i + 1)) + 1 := by omega
      rw [if_neg hne, h2, e]
      exact ⟨by omega, by simp [List.modify_succ_cons], by simp; omega, by simpa using h4⟩
def setBlk (w : World) (m : Nat) (o : Obj) : World := { w with heap := w.heap.setIfInBounds m o }
theorem setBlk_size (w : World) (m : Nat) (o : Obj) : (setBlk w m o).heap.size = w.heap.size := by simp [setBlk]
theorem setBlk_heap (w : World) (m : Nat) (o : Obj) (k : Nat) (h : k ≠ m) : (setBlk w m o).heap[k]? = w.heap[k]? := by
  simp [setBlk, Array.getElem?_setIfInBounds, h.symm]
structure Only (m : Nat) (w w' : World) : Prop where
  os : w'.os = w.os
  tape : w'.tape = w.tape
  output : w'.output = w.output
  size : w'.heap.size = w.heap.size
  block : ∀ k, k ≠ m → w'.heap[k]? = w.heap[k]?
theorem Only.set (w : World) (m : Nat) (o : Obj) : Only m w (setBlk w m o) := ⟨rfl, rfl, rfl, setBlk_size w m o, setBlk_heap w m o⟩
theorem Only.cells {m : Nat} {w w' : World} (h : Only m w w') : ∀ k o, k ≠ m → w'.cell? ⟨k, o, none⟩ = w.cell? ⟨k, o, none⟩ := fun k _ hk => World.cell?_of_block (h.block k hk)
theorem run_mapUpdate {κ ν : Type} [DecidableEq κ] {P : Program} {K T E : TypeId} {kenc : κ → Value} {venc : ν → Value} (hk : KeyOk P K kenc)
    (hT : P.underlying T = some (.map K E)) {w : World} {m : Nat} {l : List (κ × ν)} (h : MapIs kenc venc w m l) (k : κ) (v : ν) :
    ∃ w', (Instr.mapUpdate T (.map (some m)) (kenc k) (venc v)).run P w = .ok () w' ∧ Only m w w' ∧ MapIs kenc venc w' m (putK l k v) := by
  obtain ⟨_, h1, es, clk, rfl, h2⟩ := h
  have hf := hk.find w k es.toList l h2
  have hc := hk.check false w k
  have hm : m < w.heap.size := (Array.getElem?_eq_some_iff.1 h1).1
  cases hfk : findK l k 0 with
  | none =>
    refine ⟨setBlk w m (.map (es.push { key := kenc k, val := venc v, born := clk }) (clk + 1)), ?_, Only.set _ _ _, ?_⟩
    · unfold Instr.mapUpdate setBlk
      simp [go_sem, run_underlying hT, run_getObj_map h1, run_setObj_map h1, hc, hf, hfk]
    · refine ⟨_, (by unfold setBlk; simp only [Array.getElem?_setIfInBounds_self_of_lt hm]; rfl), _, _, rfl, ?_⟩
      rw [findK_put_none l k v 0 hfk]
      simp [h2]
  | some x =>
    obtain ⟨j, u⟩ := x
    obtain ⟨_, h3, h4, h5⟩ := findK_put_some l k v 0 j u hfk
    simp only [Nat.sub_zero] at h3 h4 h5
    have hlen : es.size = l.length := by have := congrArg List.length h2; simpa using this
    have hkey : ((es[j]?).map (·.key)).getD (kenc k) = kenc k := by
      have : (es.toList.map (fun e => (e.key, e.val)))[j]? = (l.map (fun kv => (kenc kv.1, venc kv.2)))[j]? := by rw [h2]
      simp [List.getElem?_eq_getElem h4, h5, hlen, h4] at this
      simp [hlen, h4, this]
    refine ⟨setBlk w m (.map (es.modify j fun e => { e with key := kenc k, val := venc v }) clk), ?_, Only.set _ _ _, ?_⟩
    · unfold Instr.mapUpdate setBlk
      simp [go_sem, run_underlying hT, run_getObj_map h1, run_setObj_map h1, hc, hf, hfk, Instr.keyThatStays, hkey, hk.bits]
    · refine ⟨_, (by unfold setBlk; simp only [Array.getElem?_setIfInBounds_self_of_lt hm]; rfl), _, _, rfl, ?_⟩
      rw [h3]
      rw [Array.toList_modify]
      apply List.ext_getElem?
      intro i
      have := congrArg (fun z => z[i]?) h2
      simp only [List.getElem?_map] at this
      simp only [List.getElem?_map, List.getElem?_modify]
      by_cases hij : j = i
      · subst hij
        simp [h4, hlen]
      · simp only [hij, if_false, Option.map_map]
        simpa using this
theorem findNow_int {ν : Type} {venc : ν → Value} (q : IntKind) (k : Int) : ∀ (es : List MapEntry) (l : List (Int × ν)) (i : Nat), es.map (fun e => (e.key, e.val)) = l.map (fun kv => ((Value.int q kv.1 : Value), venc kv.2)) →
      Instr.findNow (.int q) (.int q k) es i = some ((findK l k i).map fun x => (x.1, venc x.2)) := by
  intro es
  induction es with
  | nil => intro l i h; cases l with
    | nil => rfl
    | cons a l => simp at h
  | cons e es ih => intro l i h; cases l with
    | nil => simp at h
    | cons a l =>
      simp only [List.map_cons, List.cons.injEq, Prod.mk.injEq] at h
      obtain ⟨⟨h1, h2⟩, h3⟩ := h
      obtain ⟨a1, a2⟩ := a
      simp only at h1 h2
      unfold Instr.findNow findK
      rw [h1]
      simp only [Instr.sameNow, if_true]
      by_cases hk : k = a1
      · subst hk; simp [h2]
      · have : (k == a1) = false := by simpa using hk
        rw [this, if_neg hk]
        exact ih l (i+1) h3
theorem keyOk_int {P : Program} {K : TypeId} {q : IntKind} (hK : P.underlying K = some (.int q)) : KeyOk P K (fun k : Int => Value.int q k) where
  find := by
    intro ν venc w k es l h
    unfold Instr.findKey
    simp [go_sem, run_underlying hK, findNow_int q k es l 0 h]
  check := by
    intro b w k
    have h : ∀ n, (Instr.checkKey b (n + 1) K (.int q k)).run P w = .ok () w := by intro n; simp [Instr.checkKey, go_sem, run_underlying hK]
    exact h 9999
  bits := by intro k; simp [Instr.sameBits]
theorem ba_beq (a b : ByteArray) : (a == b) = decide (a = b) := by
  obtain ⟨a⟩ := a
  obtain ⟨b⟩ := b
  show (a == b) = _
  by_cases h : a = b <;> simp [h]
theorem findNow_str {ν : Type} {venc : ν → Value} (k : ByteArray) : ∀ (es : List MapEntry) (l : List (ByteArray × ν)) (i : Nat), es.map (fun e => (e.key, e.val)) = l.map (fun kv => ((Value.string kv.1 : Value), venc kv.2)) →
      Instr.findNow .string (.string k) es i = some ((findK l k i).map fun x => (x.1, venc x.2)) := by
  intro es
  induction es with
  | nil => intro l i h; cases l with
    | nil => rfl
    | cons a l => simp at h
  | cons e es ih => intro l i h; cases l with
    | nil => simp at h
    | cons a l =>
      simp only [List.map_cons, List.cons.injEq, Prod.mk.injEq] at h
      obtain ⟨⟨h1, h2⟩, h3⟩ := h
      obtain ⟨a1, a2⟩ := a
      simp only at h1 h2
      unfold Instr.findNow findK
      rw [h1]
      simp only [Instr.sameNow, ba_beq]
      by_cases hk : k = a1
      · subst hk; simp [h2]
      · simp only [hk, decide_false, if_false]
        exact ih l (i+1) h3
theorem keyOk_str {P : Program} {K : TypeId} (hK : P.underlying K = some .string) : KeyOk P K (fun k : ByteArray => Value.string k) where
  find := by
    intro ν venc w k es l h
    unfold Instr.findKey
    simp [go_sem, run_underlying hK, findNow_str k es l 0 h]
  check := by
    intro b w k
    have h : ∀ n, (Instr.checkKey b (n + 1) K (.string k)).run P w = .ok () w := by intro n; simp [Instr.checkKey, go_sem, run_underlying hK]
    exact h 9999
  bits := by intro k; simp [Instr.sameBits, ba_beq]
end Go.Proofs.YtjckojnlapchoaaGreat
open Go Go.RowKit
namespace Go.Proofs.YtjckojnlapchoaaGreat
abbrev Env := List (Nat × Value)
def lk : Env → Nat → Option Value
  | [], _ => none
  | (d, v) :: e, t => bif Nat.beq d t then some v else lk e t
structure Fits (e : Env) (n : Nat) (a : Act) : Prop where
  size : a.tmps.size = n
  get : ∀ t v, lk e t = some v → a.tmps[t]? = some v
  defers : a.defers = []
def evE (e : Env) : Operand → Option Value
  | .tmp t => lk e t
  | .const v => some v
  | .func f => some (.func (.func f) #[] #[])
  | .global g => some (.pointer (some ⟨g, 0, none⟩))
theorem Fits.ev {e : Env} {n : Nat} {a : Act} (h : Fits e n a) {x : Operand} {v : Value} (hx : evE e x = some v) : a.eval x = v := by
  cases x with
  | tmp t => simp only [evE] at hx; simp [Act.eval, Array.getD_eq_getD_getElem?, h.get t v hx]
  | const u => simpa [evE, Act.eval] using hx
  | func f => simpa [evE, Act.eval] using hx
  | global g => simpa [evE, Act.eval] using hx
theorem lk_cons (d : Nat) (v : Value) (e : Env) (t : Nat) : lk ((d, v) :: e) t = if d = t then some v else lk e t := by
  show (bif Nat.beq d t then some v else lk e t) = _
  by_cases h : d = t
  · subst h; rw [Nat.beq_refl]; simp
  · have : Nat.beq d t = false := by
      cases hb : Nat.beq d t with
      | false => rfl
      | true => exact absurd (Nat.eq_of_beq_eq_true hb) h
    rw [this, if_neg h]; rfl
theorem Fits.put {e : Env} {n : Nat} {a : Act} (h : Fits e n a) {d : Nat} (hd : Nat.blt d n = true) (v : Value) : Fits ((d, v) :: e) n (a.put (some d) v) := by
  have hd' : d < a.tmps.size := by rw [h.size]; exact Nat.le_of_ble_eq_true hd
  refine ⟨by simp [Act.put, h.size], ?_, h.defers⟩
  intro t u ht
  rw [lk_cons] at ht
  simp only [Act.put, Array.getElem?_setIfInBounds]
  split at ht
  · rename_i e1
    subst e1
    simp [hd', ← ht]
  · rename_i e1
    simp [e1, h.get t u ht]
def SubE (e : Env) : Env → Prop
  | [] => True
  | (t, v) :: r => lk e t = some v ∧ SubE e r
theorem SubE.lk {e : Env} : ∀ {e' : Env}, SubE e e' → ∀ t v, lk e' t = some v → lk e t = some v
  | [], _, _, _, h => by simp [Go.Proofs.YtjckojnlapchoaaGreat.lk] at h
  | (d, u) :: r, ⟨h1, h2⟩, t, v, h => by
    rw [lk_cons] at h
    split at h
    · rename_i e1; subst e1; cases h; exact h1
    · exact SubE.lk h2 t v h
theorem Fits.sub {e e' : Env} {n : Nat} {a : Act} (h : Fits e n a) (hs : SubE e e') : Fits e' n a := ⟨h.size, fun t v ht => h.get t v (hs.lk t v ht), h.defers⟩
structure Mem (G : Gh) (H : List (Nat × Obj)) (W : World) : Prop where
  imm : ∀ k o, G.get k = some o → W.heap[k]? = some o
  mem : ∀ b o, (b, o) ∈ H → W.heap[b]? = some o
theorem Hp.toMem {G : Gh} {H : List (Nat × Obj)} {W : World} (h : Hp G H W) : Mem G H W := ⟨h.imm, h.mem⟩
theorem Mem.sub {G G' : Gh} {H H' : List (Nat × Obj)} {W : World} (h : Mem G' H' W) (hG : G.le G') (hH : ∀ x, x ∈ H → x ∈ H') : Mem G H W := ⟨fun k o hk => h.imm k o (hG.get k o hk), fun b o hm => h.mem b o (hH _ hm)⟩
theorem Mem.cell {G : Gh} {H : List (Nat × Obj)} {W : World} (h : Mem G H W) {b o : Nat} {v : Value} (hc : G.cell b o = some v) : W.cell? ⟨b, o, none⟩ = some v := by
  unfold Gh.cell at hc
  cases hb : G.get b with
  | none => simp [hb] at hc
  | some x =>
    rw [hb] at hc
    have := h.imm b x hb
    cases x <;> simp at hc
    simp [World.cell?, this, hc]
theorem Mem.own {G : Gh} {H : List (Nat × Obj)} {W : World} (h : Mem G H W) {b o : Nat} {c : Array Value} {T : TypeId} {fr : Nat × Nat} (hm : (b, Obj.cells c T fr) ∈ H) : W.cell? ⟨b, o, none⟩ = c[o]? := by
  simp [World.cell?, h.mem b _ hm]
def Nx (F : Act → World → Prop) (e : Env) (n : Nat) (G : Gh) (H : List (Nat × Obj)) : Prop := ∀ W, Hp G H W → ∀ a, Fits e n a → F a W
def OpNx (P : Program) (o : Oper) (Q : Exit → Act → World → Prop) (F : Act → World → Prop) (e : Env) (n : Nat) (G : Gh) (H : List (Nat × Obj)) : Prop := Nx (fun a w => o.wp P a w F Q) e n G H
section
variable {P : Program} {Q : Exit → Act → World → Prop} {F : Act → World → Prop} {e e' : Env} {n : Nat} {G G' : Gh} {H H' : List (Nat × Obj)} {ops : Array Oper}
theorem nx_sub (hs : SubE e e') (h : Nx F e' n G H) : Nx F e n G H := fun W hp a hf => h W hp a (hf.sub hs)
theorem nx_perm (p : H.Perm H') (h : Nx F e n G H') : Nx F e n G H := fun W hp a hf => h W (hp.perm p) a hf
theorem nx_freeze {b : Nat} {o : Obj} (h : ∀ G', G.le G' → G'.get b = some o → Nx F e n G' H) : Nx F e n G ((b, o) :: H) := by
  intro W hp a hf
  obtain ⟨G', h1, h2, h3⟩ := hp.freeze
  exact h G' h1 h2 W h3 a hf
theorem nx_seq {x y : Code} (h : Nx (x.wp P (Exit.then (y.wp P Q) Q)) e n G H) : Nx ((Code.seq x y).wp P Q) e n G H := fun W hp a hf => wp_seq (h W hp a hf)
theorem nx_skip (h : Nx (Q .normal) e n G H) : Nx (Code.skip.wp P Q) e n G H := fun W hp a hf => wp_skip (h W hp a hf)
theorem nx_scope {c : Code} (h : Nx (c.wp P (Exit.noGoto Q)) e n G H) : Nx ((Code.scope c).wp P Q) e n G H := fun W hp a hf => wp_scope_straight (h W hp a hf)
theorem nx_ng (h : Nx (Q .normal) e n G H) : Nx (Exit.noGoto Q .normal) e n G H := h
theorem nx_ng_ret (h : Nx (Q .ret) e n G H) : Nx (Exit.noGoto Q .ret) e n G H := h
theorem nx_ng_exit {id : Nat} (h : Nx (Q (.exit id)) e n G H) : Nx (Exit.noGoto Q (.exit id)) e n G H := h
theorem nx_label {l : Nat} (h : Nx (Q .normal) e n G H) : Nx ((Code.label l).wp P Q) e n G H := fun W hp a hf => wp_label (h W hp a hf)
theorem nx_block {id : Nat} {c : Code} (h : Nx (c.wp P (Exit.inBlock id Q)) e n G H) : Nx ((Code.block id c).wp P Q) e n G H := fun W hp a hf => wp_block (h W hp a hf)
theorem nx_exit {id : Nat} (h : Nx (Q (.exit id)) e n G H) : Nx ((Code.exit id).wp P Q) e n G H := fun W hp a hf => wp_exit (h W hp a hf)
theorem nx_ret (h : Nx (Q .ret) e n G H) : Nx (Code.ret.wp P Q) e n G H := fun W hp a hf => wp_ret (h W hp a hf)
theorem nx_cond {c : Operand} {x y : Code} {b : Bool} (hc : evE e c = some (.bool b)) (ht : b = true → Nx (x.wp P Q) e n G H) (hf : b = false → Nx (y.wp P Q) e n G H) : Nx ((Code.cond c x y).wp P Q) e n G H :=
  fun W hp a hfit => wp_cond_split (hfit.ev hc) (fun h => ht h W hp a hfit) (fun h => hf h W hp a hfit)
theorem nx_cond_dec {c : Operand} {x y : Code} {p : Prop} [Decidable p] (hc : evE e c = some (.bool (decide p))) (ht : p → Nx (x.wp P Q) e n G H) (hf : ¬ p → Nx (y.wp P Q) e n G H) : Nx ((Code.cond c x y).wp P Q) e n G H :=
  nx_cond hc (fun h => ht (of_decide_eq_true h)) (fun h => hf (of_decide_eq_false h))
theorem nx_cond_t {c : Operand} {x y : Code} (hc : evE e c = some (.bool true)) (h : Nx (x.wp P Q) e n G H) : Nx ((Code.cond c x y).wp P Q) e n G H :=
  nx_cond hc (fun _ => h) (fun h => by cases h)
theorem nx_cond_f {c : Operand} {x y : Code} (hc : evE e c = some (.bool false)) (h : Nx (y.wp P Q) e n G H) : Nx ((Code.cond c x y).wp P Q) e n G H :=
  nx_cond hc (fun h => by cases h) (fun _ => h)
theorem nx_region {id : Nat} {l : List Oper} (h : Nx (wpList P l.toArray Q l) e n G H) : Nx ((Code.region id l.toArray false).wp P Q) e n G H := fun W hp a hf => wp_region_lit (h W hp a hf)
theorem nx_nil (h : Nx (Q .normal) e n G H) : Nx (wpList P ops Q []) e n G H := fun W hp a hf => wpList_nil (h W hp a hf)
theorem nx_then (h : Nx F e n G H) : Nx (Exit.then F Q .normal) e n G H := h
theorem nx_then_exit {id : Nat} (h : Nx (Q (.exit id)) e n G H) : Nx (Exit.then F Q (.exit id)) e n G H := h
theorem nx_then_ret (h : Nx (Q .ret) e n G H) : Nx (Exit.then F Q .ret) e n G H := h
theorem nx_in (id : Nat) (h : Nx (Q .normal) e n G H) : Nx (Exit.inBlock id Q .normal) e n G H := h
theorem nx_in_ret {id : Nat} (h : Nx (Q .ret) e n G H) : Nx (Exit.inBlock id Q .ret) e n G H := h
theorem nx_in_eq {id : Nat} (h : Nx (Q .normal) e n G H) : Nx (Exit.inBlock id Q (.exit id)) e n G H := by
  intro W hp a hf; simp only [Exit.inBlock, if_true]; exact h W hp a hf
theorem nx_in_ne {id id' : Nat} (hne : Nat.beq id' id = false) (h : Nx (Q (.exit id')) e n G H) : Nx (Exit.inBlock id Q (.exit id')) e n G H := by
  have : ¬ id' = id := by
    intro he; subst he; rw [Nat.beq_refl] at hne; cases hne
  intro W hp a hf; simp only [Exit.inBlock, this, if_false]; exact h W hp a hf
theorem nx_loop {σ : Type} {c : Code} (E : σ → Env) (Γ : σ → Gh) (Θ : σ → List (Nat × Obj)) (I : σ → Prop) (μ : σ → Nat) (s₀ : σ) (h₀ : I s₀) (hs : SubE e (E s₀)) (hG : Γ s₀ = G) (hH : Θ s₀ = H)
    (round : ∀ s, I s → ∀ K : Act → World → Prop, (∀ s', I s' → μ s' < μ s → Nx K (E s') n (Γ s') (Θ s')) → Nx (c.wp P (Exit.then K Q)) (E s) n (Γ s) (Θ s)) : Nx ((Code.loop c).wp P Q) e n G H := by
  subst hG hH
  intro W hp a hf
  refine wp_loop_ghost (fun k a W => ∃ s, I s ∧ μ s = k ∧ Hp (Γ s) (Θ s) W ∧ Fits (E s) n a) (μ s₀) ⟨s₀, h₀, rfl, hp, hf.sub hs⟩ ?_
  rintro k a W ⟨s, hI, rfl, hp, hf⟩
  exact round s hI _ (fun s' hI' hlt W' hp' a' hf' => ⟨μ s', hlt, s', hI', rfl, hp', hf'⟩) W hp a hf
theorem nx_op {o : Oper} {rest : List Oper} (hg : o.guard = none) (h : OpNx P o Q (wpList P ops Q rest) e n G H) : Nx (wpList P ops Q (o :: rest)) e n G H := by
  intro W hp a hf
  unfold wpList
  rw [if_pos (by simp [Region.wanted, hg])]
  exact .inl (h W hp a hf)
theorem yielded_of {j t : Nat} {b : Bool} {a : Act} (ht : (ops[j]?).bind (·.dst) = some t) (hf : Fits e n a) (hv : lk e t = some (.bool b)) : yielded ops a.tmps j = some b := by
  simp [yielded, ht, hf.get t _ hv]
theorem nx_op_run {o : Oper} {rest : List Oper} {j t : Nat} {b : Bool} (hg : o.guard = some (j, b)) (ht : (ops[j]?).bind (·.dst) = some t) (hv : lk e t = some (.bool b)) (h : OpNx P o Q (wpList P ops Q rest) e n G H) : Nx (wpList P ops Q (o :: rest)) e n G H := by
  intro W hp a hf
  unfold wpList
  rw [if_pos (by simp [Region.wanted, hg, yielded_of ht hf hv])]
  exact .inl (h W hp a hf)
theorem nx_op_skip {o : Oper} {rest : List Oper} {j t d : Nat} {b : Bool} (hg : o.guard = some (j, b)) (ht : (ops[j]?).bind (·.dst) = some t) (hv : lk e t = some (.bool (!b))) (hd : o.dst = some d) (hn : Nat.blt d n = true)
    (h : Nx (wpList P ops Q rest) ((d, undef) :: e) n G H) : Nx (wpList P ops Q (o :: rest)) e n G H := by
  intro W hp a hf
  unfold wpList
  rw [if_neg (by simp [Region.wanted, hg, yielded_of ht hf hv])]
  rw [hd]
  exact h W hp _ (hf.put hn undef)
theorem yielded_undef {j t : Nat} {a : Act} (ht : (ops[j]?).bind (·.dst) = some t) (hf : Fits e n a) (hv : lk e t = some undef) : yielded ops a.tmps j = none := by
  simp [yielded, ht, hf.get t _ hv, undef]
theorem nx_op_skip_u {o : Oper} {rest : List Oper} {j t d : Nat} {b : Bool} (hg : o.guard = some (j, b)) (ht : (ops[j]?).bind (·.dst) = some t) (hv : lk e t = some undef) (hd : o.dst = some d) (hn : Nat.blt d n = true)
    (h : Nx (wpList P ops Q rest) ((d, undef) :: e) n G H) : Nx (wpList P ops Q (o :: rest)) e n G H := by
  intro W hp a hf
  unfold wpList
  rw [if_neg (by simp [Region.wanted, hg, yielded_undef ht hf hv])]
  rw [hd]
  exact h W hp _ (hf.put hn undef)
theorem nx_guard {t : Nat} {b : Bool} (hv : lk e t = some (.bool b)) (h1 : b = true → Nx F ((t, .bool true) :: e) n G H) (h2 : b = false → Nx F ((t, .bool false) :: e) n G H) : Nx F e n G H := by
  intro W hp a hf
  have hs : ∀ c, b = c → Fits ((t, .bool c) :: e) n a := by
    intro c hc
    subst hc
    refine ⟨hf.size, fun u v hu => ?_, hf.defers⟩
    rw [lk_cons] at hu
    split at hu
    · rename_i e1; subst e1; cases hu; exact hf.get t _ hv
    · exact hf.get u v hu
  cases hb : b with
  | true => exact h1 hb W hp a (hs true hb)
  | false => exact h2 hb W hp a (hs false hb)
structure OpV (P : Program) (o : Oper) (e : Env) (n : Nat) (G : Gh) (H : List (Nat × Obj)) (d : Nat) (v : Value) : Prop where
  dst : o.dst = some d
  lt : Nat.blt d n = true
  run : ∀ W, Mem G H W → ∀ a, Fits e n a → (execOp a.eval o).run P W = .ok (.value v) W
theorem OpV.nx {o : Oper} {d : Nat} {v : Value} (h : OpV P o e n G H d v) (k : Nx F ((d, v) :: e) n G H) : OpNx P o Q F e n G H := by
  intro W hp a hf
  unfold Oper.wp
  rw [h.run W hp.toMem a hf]
  simp only [Oper.upon, h.dst]
  exact k W hp _ (hf.put h.lt v)
theorem nx_v {o : Oper} {rest : List Oper} {d : Nat} {v : Value} (hg : o.guard = none) (h : OpV P o e n G H d v) (k : Nx (wpList P ops Q rest) ((d, v) :: e) n G H) : Nx (wpList P ops Q (o :: rest)) e n G H := nx_op hg (h.nx k)
theorem nx_v_run {o : Oper} {rest : List Oper} {j t d : Nat} {b : Bool} {v : Value} (hg : o.guard = some (j, b)) (ht : (ops[j]?).bind (·.dst) = some t) (hv : lk e t = some (.bool b)) (h : OpV P o e n G H d v) (k : Nx (wpList P ops Q rest) ((d, v) :: e) n G H) : Nx (wpList P ops Q (o :: rest)) e n G H :=
  nx_op_run hg ht hv (h.nx k)
variable {d : Nat} {ty : TypeId} {pos : String} {af : Array Edge} {g : Option (Nat × Bool)}
class FldA (P : Program) (s k : Nat) (off : outParam Nat) : Prop where
  run : ∀ b o W, (Instr.fieldAt s (.pointer (some ⟨b, o, none⟩)) k).run P W = .ok (.pointer (some ⟨b, o + off, none⟩)) W
class VarT (P : Program) (T : Nat) (z : outParam (List Value)) : Prop where
  zero : ∀ W, ∃ v, (zeroValue T).run P W = .ok v W ∧ v.cells.toList = z
  size : ∀ W, (sizeOf T).run P W = .ok z.length W
class OneT (P : Program) (T : Nat) : Prop where
  agg : ∀ W, (isAgg T).run P W = .ok false W
  size : ∀ W, (sizeOf T).run P W = .ok 1 W
class AggT (P : Program) (T : Nat) (n : outParam Nat) : Prop where
  agg : ∀ W, (isAgg T).run P W = .ok true W
  size : ∀ W, (sizeOf T).run P W = .ok n W
class SliceT (P : Program) (t : Nat) (E : outParam Nat) (sz bytes : outParam Nat) (z : outParam Value) : Prop where
  under : P.underlying t = some (.slice E)
  info : ∃ i, P.info? E = some i ∧ i.zero = some z ∧ i.size = sz ∧ i.bytes = bytes ∧ z.cells.size = sz
  pos : 0 < sz
class MapT (P : Program) (t : Nat) (K E : outParam Nat) (z : outParam Value) : Prop where
  under : P.underlying t = some (.map K E)
  zero : ∀ W, (zeroValue E).run P W = .ok z W
class IntT (P : Program) (t : Nat) (k : outParam IntKind) : Prop where
  under : P.underlying t = some (.int k)
class BoolT (P : Program) (t : Nat) : Prop where
  under : P.underlying t = some .bool
class StrT (P : Program) (t : Nat) : Prop where
  under : P.underlying t = some .string
theorem v_move {x : Operand} {v : Value} (hn : Nat.blt d n = true := by exact rfl) (hx : evE e x = some v := by exact rfl) : OpV P ⟨some d, .move x, ty, pos, af, g⟩ e n G H d v :=
  ⟨rfl, hn, fun W _ a hf => by simp [execOp, hf.ev hx]⟩
theorem v_assign {x : Operand} {v : Value} (hn : Nat.blt d n = true := by exact rfl) (hx : evE e x = some v := by exact rfl) : OpV P ⟨some d, .assign x, ty, pos, af, g⟩ e n G H d v :=
  ⟨rfl, hn, fun W _ a hf => by simp [execOp, hf.ev hx]⟩
theorem v_pick_t {c x y : Operand} {v : Value} (hn : Nat.blt d n = true := by exact rfl) (hc : evE e c = some (.bool true) := by exact rfl) (hx : evE e x = some v := by exact rfl) : OpV P ⟨some d, .pick c x y, ty, pos, af, g⟩ e n G H d v :=
  ⟨rfl, hn, fun W _ a hf => by simp only [execOp, hf.ev hc, hf.ev hx]; simp [go_sem]⟩
theorem v_pick_f {c x y : Operand} {v : Value} (hn : Nat.blt d n = true := by exact rfl) (hc : evE e c = some (.bool false) := by exact rfl) (hy : evE e y = some v := by exact rfl) : OpV P ⟨some d, .pick c x y, ty, pos, af, g⟩ e n G H d v :=
  ⟨rfl, hn, fun W _ a hf => by simp only [execOp, hf.ev hc, hf.ev hy]; simp [go_sem]⟩
theorem v_nilCheck {x : Operand} {p : Addr} (hn : Nat.blt d n = true := by exact rfl) (hx : evE e x = some (.pointer (some p)) := by exact rfl) : OpV P ⟨some d, .nilCheck x, ty, pos, af, g⟩ e n G H d (.pointer (some p)) :=
  ⟨rfl, hn, fun W _ a hf => by simp only [execOp, hf.ev hx]; simp [go_sem]⟩
section
variable {x y : Operand} {T U : TypeId} {k : IntKind} {i j : Int}
theorem v_lss (hn : Nat.blt d n = true := by exact rfl) (hx : evE e x = some (.int k i) := by exact rfl) (hy : evE e y = some (.int k j) := by exact rfl) : OpV P ⟨some d, .binOp .lss T x y U, ty, pos, af, g⟩ e n G H d (.bool (decide (i < j))) :=
  ⟨rfl, hn, fun W _ a hf => by simp only [execOp, hf.ev hx, hf.ev hy]; simp [go_sem]⟩
theorem v_leq (hn : Nat.blt d n = true := by exact rfl) (hx : evE e x = some (.int k i) := by exact rfl) (hy : evE e y = some (.int k j) := by exact rfl) : OpV P ⟨some d, .binOp .leq T x y U, ty, pos, af, g⟩ e n G H d (.bool (decide (i ≤ j))) :=
  ⟨rfl, hn, fun W _ a hf => by simp only [execOp, hf.ev hx, hf.ev hy]; simp [go_sem]⟩
theorem v_gtr (hn : Nat.blt d n = true := by exact rfl) (hx : evE e x = some (.int k i) := by exact rfl) (hy : evE e y = some (.int k j) := by exact rfl) : OpV P ⟨some d, .binOp .gtr T x y U, ty, pos, af, g⟩ e n G H d (.bool (decide (j < i))) :=
  ⟨rfl, hn, fun W _ a hf => by simp only [execOp, hf.ev hx, hf.ev hy]; simp [go_sem]⟩
theorem v_geq (hn : Nat.blt d n = true := by exact rfl) (hx : evE e x = some (.int k i) := by exact rfl) (hy : evE e y = some (.int k j) := by exact rfl) : OpV P ⟨some d, .binOp .geq T x y U, ty, pos, af, g⟩ e n G H d (.bool (decide (j ≤ i))) :=
  ⟨rfl, hn, fun W _ a hf => by simp only [execOp, hf.ev hx, hf.ev hy]; simp [go_sem]⟩
theorem v_eql (hn : Nat.blt d n = true := by exact rfl) (hx : evE e x = some (.int k i) := by exact rfl) (hy : evE e y = some (.int k j) := by exact rfl) : OpV P ⟨some d, .binOp .eql T x y U, ty, pos, af, g⟩ e n G H d (.bool (decide (i = j))) :=
  ⟨rfl, hn, fun W _ a hf => by simp only [execOp, hf.ev hx, hf.ev hy]; simp [go_sem, eqGuard]; rw [Bool.eq_iff_iff]; simp⟩
theorem v_neq (hn : Nat.blt d n = true := by exact rfl) (hx : evE e x = some (.int k i) := by exact rfl) (hy : evE e y = some (.int k j) := by exact rfl) : OpV P ⟨some d, .binOp .neq T x y U, ty, pos, af, g⟩ e n G H d (.bool (decide (¬ i = j))) :=
  ⟨rfl, hn, fun W _ a hf => by simp only [execOp, hf.ev hx, hf.ev hy]; simp [go_sem, eqGuard]; rw [Bool.eq_iff_iff]; simp⟩
theorem v_eql_str {s t : ByteArray} (hn : Nat.blt d n = true := by exact rfl) (hx : evE e x = some (.string s) := by exact rfl) (hy : evE e y = some (.string t) := by exact rfl) : OpV P ⟨some d, .binOp .eql T x y U, ty, pos, af, g⟩ e n G H d (.bool (decide (s = t))) :=
  ⟨rfl, hn, fun W _ a hf => by simp only [execOp, hf.ev hx, hf.ev hy]; simp [binOp, Op.stringOp, eqGuard, go_sem]; rw [← ba_beq, beq_toListBytes]⟩
theorem v_add (hn : Nat.blt d n = true := by exact rfl) (hx : evE e x = some (.int .i64 i) := by exact rfl) (hy : evE e y = some (.int .i64 j) := by exact rfl) (h1 : -9223372036854775808 ≤ i + j := by omega) (h2 : i + j ≤ 9223372036854775807 := by omega) : OpV P ⟨some d, .binOp .add T x y U, ty, pos, af, g⟩ e n G H d (.int .i64 (i + j)) :=
  ⟨rfl, hn, fun W _ a hf => by simp only [execOp, hf.ev hx, hf.ev hy]; simp [go_sem]; exact IntWalk.i64_in _ ⟨h1, h2⟩⟩
theorem v_sub (hn : Nat.blt d n = true := by exact rfl) (hx : evE e x = some (.int .i64 i) := by exact rfl) (hy : evE e y = some (.int .i64 j) := by exact rfl) (h1 : -9223372036854775808 ≤ i - j := by omega) (h2 : i - j ≤ 9223372036854775807 := by omega) : OpV P ⟨some d, .binOp .sub T x y U, ty, pos, af, g⟩ e n G H d (.int .i64 (i - j)) :=
  ⟨rfl, hn, fun W _ a hf => by simp only [execOp, hf.ev hx, hf.ev hy]; simp [go_sem]; exact IntWalk.i64_in _ ⟨h1, h2⟩⟩
end
theorem v_run1 {o : Oper} {s : Value → Sem Value} {x : Operand} {u v : Value} (hd : o.dst = some d) (hn : Nat.blt d n = true) (hx : evE e x = some u)
    (hop : ∀ ρ, execOp ρ o = (do pure (.value (← s (ρ x))))) (hrun : ∀ W, Mem G H W → (s u).run P W = .ok v W) : OpV P o e n G H d v :=
  ⟨hd, hn, fun W hp a hf => by rw [hop, hf.ev hx]; simp [go_sem, hrun W hp]⟩
theorem v_extract {x : Operand} {vs : Array Value} {ix : Nat} {v : Value} (hn : Nat.blt d n = true) (hx : evE e x = some (.tuple vs)) (hv : vs[ix]? = some v) : OpV P ⟨some d, .extract x ix, ty, pos, af, g⟩ e n G H d v :=
  v_run1 (s := fun u => Instr.extract u ix) rfl hn hx (fun _ => rfl) (fun W _ => by simp [Instr.extract, hv])
theorem v_not {x : Operand} {T : TypeId} {b : Bool} (hn : Nat.blt d n = true := by exact rfl) (hx : evE e x = some (.bool b) := by exact rfl) : OpV P ⟨some d, .unOp .not T x, ty, pos, af, g⟩ e n G H d (.bool (!b)) :=
  v_run1 (s := fun u => Op.unary .not u) rfl hn hx (fun _ => rfl) (fun W _ => by simp [Op.unary, go_sem])
theorem v_not_t {x : Operand} {T : TypeId} (hn : Nat.blt d n = true := by exact rfl) (hx : evE e x = some (.bool true) := by exact rfl) : OpV P ⟨some d, .unOp .not T x, ty, pos, af, g⟩ e n G H d (.bool false) := v_not hn hx
theorem v_not_f {x : Operand} {T : TypeId} (hn : Nat.blt d n = true := by exact rfl) (hx : evE e x = some (.bool false) := by exact rfl) : OpV P ⟨some d, .unOp .not T x, ty, pos, af, g⟩ e n G H d (.bool true) := v_not hn hx
theorem v_not_dec {x : Operand} {T : TypeId} {p : Prop} [Decidable p] (hn : Nat.blt d n = true := by exact rfl) (hx : evE e x = some (.bool (decide p)) := by exact rfl) : OpV P ⟨some d, .unOp .not T x, ty, pos, af, g⟩ e n G H d (.bool (decide (¬ p))) := by
  rw [decide_not]; exact v_not hn hx
theorem v_neg {x : Operand} {T : TypeId} {i : Int} (hn : Nat.blt d n = true := by exact rfl) (hx : evE e x = some (.int .i64 i) := by exact rfl) (h1 : -9223372036854775807 ≤ i := by omega) (h2 : i ≤ 9223372036854775807 := by omega) : OpV P ⟨some d, .unOp .neg T x, ty, pos, af, g⟩ e n G H d (.int .i64 (-i)) :=
  v_run1 (s := fun u => Op.unary .neg u) rfl hn hx (fun _ => rfl) (fun W _ => by simp [Op.unary, go_sem]; exact IntWalk.i64_in _ (by omega))
def row (l : List Value) (T : TypeId) : Obj := .cells ⟨l⟩ T (0, 0)
def readN (l : List Value) (off : Nat) : Nat → Option (List Value)
  | 0 => some []
  | n + 1 => match l[off]? with
    | some v => match readN l (off + 1) n with
      | some r => some (v :: r)
      | none => none
    | none => none
theorem readN_spec {l : List Value} : ∀ {n off : Nat} {r : List Value}, readN l off n = some r → r.length = n ∧ ∀ j v, r[j]? = some v → l[off + j]? = some v
  | 0, off, r, h => by simp [readN] at h; subst h; simp
  | n + 1, off, r, h => by
    unfold readN at h
    cases h1 : l[off]? with
    | none => simp [h1] at h
    | some v =>
      cases h2 : readN l (off + 1) n with
      | none => simp [h1, h2] at h
      | some r' =>
        simp [h1, h2] at h
        subst h
        obtain ⟨i1, i2⟩ := readN_spec h2
        refine ⟨by simp [i1], fun j u hj => ?_⟩
        cases j with
        | zero => simp at hj; subst hj; simpa using h1
        | succ j => simp at hj; have := i2 j u hj; rw [← this]; congr 1; omega
theorem readN_lt {l : List Value} {n off : Nat} {r : List Value} (h : readN l off n = some r) : r.length = n := (readN_spec h).1
inductive Rd (G : Gh) (H : List (Nat × Obj)) (b off : Nat) (r : List Value) : Prop where
  | own {l : List Value} {T : TypeId} (hm : (b, row l T) ∈ H) (hr : readN l off r.length = some r)
  | still (hr : ∀ j v, r[j]? = some v → G.cell b (off + j) = some v)
theorem Rd.cells {b off : Nat} {r : List Value} (h : Rd G H b off r) {W : World} (hp : Mem G H W) : ∀ j v, r[j]? = some v → W.cell? ⟨b, off + j, none⟩ = some v := by
  intro j v hj
  cases h with
  | own hm hr =>
    rw [row] at hm
    rw [hp.own hm]
    have := (readN_spec hr).2 j v hj
    simpa using this
  | still hr => exact hp.cell (hr j v hj)
theorem add_plain (b o j : Nat) : (⟨b, o, none⟩ : Addr).add j = ⟨b, o + j, none⟩ := by unfold Addr.add; split <;> simp_all
theorem v_load1 {x : Operand} {T : TypeId} {b off : Nat} {v : Value} [hT : OneT P T] (hn : Nat.blt d n = true) (hx : evE e x = some (.pointer (some ⟨b, off, none⟩))) (hr : Rd G H b off [v]) : OpV P ⟨some d, .load T x, ty, pos, af, g⟩ e n G H d v :=
  v_run1 (s := fun u => Instr.loadAt T u) rfl hn hx (fun _ => rfl) (fun W hp => by
    have := hr.cells hp 0 v rfl
    rw [Nat.add_zero] at this
    simp [Instr.loadAt, Instr.sureAddr, loadVar, hT.agg, go_sem, this, load, Sem.run])
theorem v_load {x : Operand} {T m : Nat} {b off : Nat} {r : List Value} [hT : AggT P T m] (hn : Nat.blt d n = true) (hx : evE e x = some (.pointer (some ⟨b, off, none⟩))) (hr : Rd G H b off r) (hl : r.length = m) : OpV P ⟨some d, .load T x, ty, pos, af, g⟩ e n G H d (.agg ⟨r⟩) :=
  v_run1 (s := fun u => Instr.loadAt T u) rfl hn hx (fun _ => rfl) (fun W hp => by
    have := run_loadCells_list (P := P) W ⟨b, off, none⟩ r (fun j v hj => by rw [add_plain]; exact hr.cells hp j v hj)
    subst hl
    simp only [loadCells] at this
    simp [Instr.loadAt, Instr.sureAddr, loadVar, loadCells, hT.agg, hT.size, go_sem, this])
theorem v_fieldAddr {x : Operand} {s k off b o : Nat} [hF : FldA P s k off] (hn : Nat.blt d n = true := by exact rfl) (hx : evE e x = some (.pointer (some ⟨b, o, none⟩)) := by exact rfl) : OpV P ⟨some d, .fieldAddr s x k, ty, pos, af, g⟩ e n G H d (.pointer (some ⟨b, o + off, none⟩)) :=
  v_run1 (s := fun u => Instr.fieldAt s u k) rfl hn hx (fun _ => rfl) (fun W _ => hF.run b o W)
theorem v_indexAddr {x y : Operand} {t E sz bytes b o len cap : Nat} {z : Value} {i : Int} [hT : SliceT P t E sz bytes z] (hn : Nat.blt d n = true) (hx : evE e x = some (.slice (some ⟨b, o, none⟩) len cap)) (hy : evE e y = some (.int .i64 i)) (h0 : 0 ≤ i) (h1 : i < len) :
    OpV P ⟨some d, .indexAddr t x y, ty, pos, af, g⟩ e n G H d (.pointer (some ⟨b, o + i.toNat * sz, none⟩)) :=
  ⟨rfl, hn, fun W _ a hf => by
    obtain ⟨i', hi, _, hs, _⟩ := hT.info
    simp only [execOp, hf.ev hx, hf.ev hy]
    simp [go_sem, Instr.indexAt, run_underlying hT.under, asIntOf, h0, h1, sizeOf, typeInfo, hi, hs, add_plain]⟩
theorem v_indexAddr_nat {x y : Operand} {t E sz bytes b o len cap k : Nat} {z : Value} [hT : SliceT P t E sz bytes z] (hn : Nat.blt d n = true) (hx : evE e x = some (.slice (some ⟨b, o, none⟩) len cap)) (hy : evE e y = some (.int .i64 (k : Int))) (h1 : k < len) :
    OpV P ⟨some d, .indexAddr t x y, ty, pos, af, g⟩ e n G H d (.pointer (some ⟨b, o + k * sz, none⟩)) := by
  have := v_indexAddr (P := P) (t := t) (G := G) (H := H) (ty := ty) (pos := pos) (af := af) (g := g) hn hx hy (by omega) (by omega : (k : Int) < len)
  simpa using this
def evL (e : Env) : List Operand → Option (List Value)
  | [] => some []
  | x :: xs => match evE e x with
    | some v => match evL e xs with
      | some r => some (v :: r)
      | none => none
    | none => none
theorem Fits.evL {a : Act} (hf : Fits e n a) : ∀ {xs : List Operand} {vs : List Value}, Go.Proofs.YtjckojnlapchoaaGreat.evL e xs = some vs → xs.map a.eval = vs
  | [], vs, h => by simp [Go.Proofs.YtjckojnlapchoaaGreat.evL] at h; subst h; rfl
  | x :: xs, vs, h => by
    unfold Go.Proofs.YtjckojnlapchoaaGreat.evL at h
    cases h1 : evE e x with
    | none => simp [h1] at h
    | some v =>
      cases h2 : Go.Proofs.YtjckojnlapchoaaGreat.evL e xs with
      | none => simp [h1, h2] at h
      | some r =>
        simp [h1, h2] at h
        subst h
        rw [List.map_cons, hf.ev h1, hf.evL h2]
theorem v_builtin {b : Builtin} {xs : List Operand} {ats : Array TypeId} {vs : List Value} {v : Value} (hn : Nat.blt d n = true) (hx : evL e xs = some vs)
    (hrun : ∀ W, Mem G H W → ∀ cs, (builtin b ats ty cs ⟨vs⟩).run P W = .ok (.value v) W) : OpV P ⟨some d, .call { callee := .builtin b, args := xs.toArray, argTypes := ats }, ty, pos, af, g⟩ e n G H d v :=
  ⟨rfl, hn, fun W hp a hf => by
    have hm : xs.toArray.map a.eval = ⟨vs⟩ := by simp [hf.evL hx]
    simp only [execOp, resolve, hm, Sem.run_bind, Sem.run_pure, Result.andThen_ok, invoke]
    exact hrun W hp _⟩
theorem v_len {x : Operand} {t E sz bytes len cap : Nat} {z : Value} {A : Option Addr} [hT : SliceT P t E sz bytes z] (hn : Nat.blt d n = true := by exact rfl) (hx : evE e x = some (.slice A len cap) := by exact rfl) :
    OpV P ⟨some d, .call { callee := .builtin .len, args := #[x], argTypes := #[t] }, ty, pos, af, g⟩ e n G H d (.int .i64 (len : Int)) :=
  v_builtin (vs := [.slice A len cap]) hn (by simp [evL, hx]) (fun W _ cs => by simp [builtin, Builtin.len_, go_sem, run_underlying hT.under, goInt])
theorem v_len_str {x : Operand} {t : Nat} {s : ByteArray} [hT : StrT P t] (hn : Nat.blt d n = true := by exact rfl) (hx : evE e x = some (.string s) := by exact rfl) :
    OpV P ⟨some d, .call { callee := .builtin .len, args := #[x], argTypes := #[t] }, ty, pos, af, g⟩ e n G H d (.int .i64 (s.size : Int)) :=
  v_builtin (vs := [.string s]) hn (by simp [evL, hx]) (fun W _ cs => by simp [builtin, Builtin.len_, go_sem, run_underlying hT.under, goInt])
theorem op_new {o : Oper} {ob : Obj} (hd : o.dst = some d) (hn : Nat.blt d n = true) (v : Nat → Value)
    (hrun : ∀ W, Hp G H W → ∀ a, Fits e n a → (execOp a.eval o).run P W = .ok (.value (v W.heap.size)) (W.alloc ob)) (h : ∀ b, Nx F ((d, v b) :: e) n G ((b, ob) :: H)) : OpNx P o Q F e n G H := by
  intro W hp a hf
  unfold Oper.wp
  rw [hrun W hp a hf]
  simp only [Oper.upon, hd]
  exact h _ _ (hp.alloc ob) _ (hf.put hn _)
theorem op_alloc {T : Nat} {z : List Value} [hT : VarT P T z] (hn : Nat.blt d n = true) (h : ∀ b, Nx F ((d, .pointer (some ⟨b, 0, none⟩)) :: e) n G ((b, row z T) :: H)) : OpNx P ⟨some d, .alloc T, ty, pos, af, g⟩ Q F e n G H :=
  op_new rfl hn (fun b => .pointer (some ⟨b, 0, none⟩)) (fun W _ a _ => by
    obtain ⟨v, hv, hz⟩ := hT.zero W
    subst hz
    simp only [execOp, Instr.alloc, Sem.run_bind, hv, Result.andThen_ok, newVar, newRow, newObj, Sem.run_pure]
    rfl) h
theorem op_box {T : Nat} {x : Operand} {c : List Value} (hn : Nat.blt d n = true) (hx : evE e x = some (.agg ⟨c⟩)) (h : ∀ b, Nx F ((d, .pointer (some ⟨b, 0, none⟩)) :: e) n G ((b, row c T) :: H)) : OpNx P ⟨some d, .box T x, ty, pos, af, g⟩ Q F e n G H :=
  op_new rfl hn (fun b => .pointer (some ⟨b, 0, none⟩)) (fun W _ a hf => by
    simp only [execOp, hf.ev hx, Instr.box, Sem.run_bind, Result.andThen_ok, newVar, newRow, newObj, Sem.run_pure, Value.cells]
    rfl) h
theorem op_box1 {T : Nat} {x : Operand} {v : Value} (hn : Nat.blt d n = true) (hx : evE e x = some v) (hv : v.cells = #[v]) (h : ∀ b, Nx F ((d, .pointer (some ⟨b, 0, none⟩)) :: e) n G ((b, row [v] T) :: H)) : OpNx P ⟨some d, .box T x, ty, pos, af, g⟩ Q F e n G H :=
  op_new rfl hn (fun b => .pointer (some ⟨b, 0, none⟩)) (fun W _ a hf => by
    simp only [execOp, hf.ev hx, Instr.box, Sem.run_bind, Result.andThen_ok, newVar, newRow, newObj, Sem.run_pure, hv]
    rfl) h
def setE : List Value → Nat → Value → Option (List Value)
  | [], _, _ => none
  | _ :: l, 0, v => some (v :: l)
  | x :: l, o + 1, v => match setE l o v with
    | some r => some (x :: r)
    | none => none
def setEs (l : List Value) (off : Nat) : List Value → Option (List Value)
  | [] => match Nat.ble off l.length with
    | true => some l
    | false => none
  | v :: vs => match setE l off v with
    | some r => setEs r (off + 1) vs
    | none => none
theorem setE_spec : ∀ {l : List Value} {o : Nat} {v : Value} {r : List Value}, setE l o v = some r → o < l.length ∧ r = l.set o v
  | [], o, v, r, h => by simp [setE] at h
  | x :: l, 0, v, r, h => by simp [setE] at h; subst h; simp
  | x :: l, o + 1, v, r, h => by
    unfold setE at h
    cases h1 : setE l o v with
    | none => simp [h1] at h
    | some r' =>
      simp [h1] at h
      obtain ⟨i1, i2⟩ := setE_spec h1
      subst h
      subst i2
      exact ⟨by simpa using i1, by simp⟩
theorem setEs_spec : ∀ {vs l : List Value} {o : Nat} {r : List Value}, setEs l o vs = some r → o + vs.length ≤ l.length ∧ r = l.take o ++ vs ++ l.drop (o + vs.length)
  | [], l, o, r, h => by
    unfold setEs at h
    cases hb : Nat.ble o l.length with
    | false => simp [hb] at h
    | true =>
      simp [hb] at h
      subst h
      exact ⟨by simpa using Nat.le_of_ble_eq_true hb, by simp⟩
  | v :: vs, l, o, r, h => by
    unfold setEs at h
    cases h1 : setE l o v with
    | none => simp [h1] at h
    | some l' =>
      simp [h1] at h
      obtain ⟨i1, i2⟩ := setE_spec h1
      obtain ⟨i3, i4⟩ := setEs_spec h
      subst i2
      rw [List.length_set] at i3
      refine ⟨by simp; omega, ?_⟩
      rw [i4]
      apply List.ext_getElem?
      intro k
      have hmin : min o l.length = o := by omega
      have hmin1 : min (o + 1) l.length = o + 1 := by omega
      simp only [List.getElem?_append, List.getElem?_take, List.getElem?_drop, List.length_take, List.length_append, List.length_cons, List.length_set, List.getElem?_set, hmin, hmin1]
      by_cases hk : k < o
      · have c1 : k < o + 1 := by omega
        have c2 : k < o + 1 + vs.length := by omega
        have c3 : k < o + (vs.length + 1) := by omega
        have c4 : ¬ o = k := by omega
        simp [hk, c1, c2, c3, c4]
      · by_cases he : k = o
        · subst he
          have c1 : k < k + 1 + vs.length := by omega
          simp [c1, i1]
        · obtain ⟨j, rfl⟩ : ∃ j, k = o + 1 + j := ⟨k - (o + 1), by omega⟩
          have c1 : ¬ o + 1 + j < o := by omega
          have c2 : ¬ o + 1 + j < o + 1 := by omega
          have c5 : o + 1 + j - o = j + 1 := by omega
          have c6 : o + 1 + j - (o + 1) = j := by omega
          by_cases h6 : j < vs.length
          · have c3 : o + 1 + j < o + 1 + vs.length := by omega
            have c4 : o + 1 + j < o + (vs.length + 1) := by omega
            simp [c1, c2, c3, c4, c5, c6]
          · have c3 : ¬ o + 1 + j < o + 1 + vs.length := by omega
            have c4 : ¬ o + 1 + j < o + (vs.length + 1) := by omega
            have c7 : ¬ o = o + 1 + vs.length + (o + 1 + j - (o + 1 + vs.length)) := by omega
            have c8 : o + 1 + vs.length + (o + 1 + j - (o + 1 + vs.length)) = o + (vs.length + 1) + (o + 1 + j - (o + (vs.length + 1))) := by omega
            simp only [c3, c4, if_false, c7]
            rw [c8]
inductive Upd (b : Nat) (o o' : Obj) : List (Nat × Obj) → List (Nat × Obj) → Prop where
  | here {H : List (Nat × Obj)} : Upd b o o' ((b, o) :: H) ((b, o') :: H)
  | there {x : Nat × Obj} {H H' : List (Nat × Obj)} (h : Upd b o o' H H') : Upd b o o' (x :: H) (x :: H')
theorem Upd.perm {b : Nat} {o o' : Obj} {H H' : List (Nat × Obj)} (h : Upd b o o' H H') : ∃ R, H.Perm ((b, o) :: R) ∧ H'.Perm ((b, o') :: R) := by
  induction h with
  | here => exact ⟨_, .refl _, .refl _⟩
  | there h ih =>
    obtain ⟨R, h1, h2⟩ := ih
    exact ⟨_ :: R, (h1.cons _).trans (.swap ..), (h2.cons _).trans (.swap ..)⟩
theorem Upd.mem {b : Nat} {o o' : Obj} {H H' : List (Nat × Obj)} (h : Upd b o o' H H') : (b, o) ∈ H := by
  obtain ⟨R, h1, _⟩ := h.perm
  exact h1.mem_iff.2 List.mem_cons_self
theorem Rd.one {b o : Nat} {v : Value} (h : G.cell b o = some v) : Rd G H b o [v] := .still fun j u hj => by
  cases j with
  | zero => simp at hj; subst hj; simpa using h
  | succ j => simp at hj
theorem Rd.cons {b o : Nat} {v : Value} {r : List Value} (h : G.cell b o = some v) (hr : ∀ j u, r[j]? = some u → G.cell b (o + 1 + j) = some u) : ∀ j u, (v :: r)[j]? = some u → G.cell b (o + j) = some u := by
  intro j u hj
  cases j with
  | zero => simp at hj; subst hj; simpa using h
  | succ j => simp at hj; rw [show o + (j + 1) = o + 1 + j by omega]; exact hr j u hj
class FnT (P : Program) (f : Nat) : Prop where
  run : ∀ args W, (callFunc f args).run P W = .ok (.enter f args) W
def Ret (G : Gh) (Φ : Gh → List (Nat × Obj) → Value → Prop) : Ending → World → Prop := fun en W' => ∃ v G' H', en = .returned v ∧ G.le G' ∧ Φ G' H' v ∧ Hp G' H' W'
def RetS (G : Gh) (H : List (Nat × Obj)) (v : Value) : Ending → World → Prop := fun en W' => en = .returned v ∧ Hp G H W'
def RetD (G : Gh) (H : List (Nat × Obj)) (Φ : Gh → Value → Prop) : Ending → World → Prop := fun en W' => ∃ v G', en = .returned v ∧ G.le G' ∧ Φ G' v ∧ Hp G' H W'
theorem op_enter {f : Nat} {fst cap : List Value} {fo : Operand} {xs : List Operand} {vs : List Value} {ats : Array TypeId} {R : Ending → World → Prop} {dst : Option Nat} [hF : FnT P f] (hfo : evE e fo = some (.func (.func f) ⟨fst⟩ ⟨cap⟩)) (hx : evL e xs = some vs)
    (hcall : ∀ W, Hp G H W → Calls P f ⟨fst ++ vs ++ cap⟩ W R)
    (h : ∀ en W', R en W' → ∃ v, en = .returned v ∧ ∀ a, Fits e n a → F (a.put dst v) W') : OpNx P ⟨dst, .call { callee := .value fo, args := xs.toArray, argTypes := ats }, ty, pos, af, g⟩ Q F e n G H := by
  intro W hp a hf
  have hm : xs.toArray.map a.eval = ⟨vs⟩ := by simp [hf.evL hx]
  unfold Oper.wp
  have he : (execOp a.eval ⟨dst, .call { callee := .value fo, args := xs.toArray, argTypes := ats }, ty, pos, af, g⟩).run P W = .ok (.enter f ⟨fst ++ vs ++ cap⟩) W := by
    simp only [execOp, resolve, hm, hf.ev hfo, Deferred.ofValue, Sem.run_bind, Sem.run_pure, Result.andThen_ok, invoke]
    rw [hF.run _ W]
    simp
  rw [he]
  simp only [Oper.upon]
  refine (hcall W hp).mono fun en W' hr => ?_
  obtain ⟨v, rfl, hk⟩ := h en W' hr
  exact hk a hf
theorem op_callS {f : Nat} {fst cap : List Value} {fo : Operand} {xs : List Operand} {vs : List Value} {ats : Array TypeId} {v : Value} [hF : FnT P f] (hn : Nat.blt d n = true) (hfo : evE e fo = some (.func (.func f) ⟨fst⟩ ⟨cap⟩)) (hx : evL e xs = some vs)
    (hcall : ∀ W, Hp G H W → Calls P f ⟨fst ++ vs ++ cap⟩ W (RetS G H v)) (h : Nx F ((d, v) :: e) n G H) : OpNx P ⟨some d, .call { callee := .value fo, args := xs.toArray, argTypes := ats }, ty, pos, af, g⟩ Q F e n G H :=
  op_enter hfo hx hcall (by rintro en W' ⟨rfl, hp⟩; exact ⟨v, rfl, fun a hf => h W' hp _ (hf.put hn v)⟩)
theorem op_callD {f : Nat} {fst cap : List Value} {fo : Operand} {xs : List Operand} {vs : List Value} {ats : Array TypeId} {Φ : Gh → Value → Prop} [hF : FnT P f] (hn : Nat.blt d n = true) (hfo : evE e fo = some (.func (.func f) ⟨fst⟩ ⟨cap⟩)) (hx : evL e xs = some vs)
    (hcall : ∀ W, Hp G H W → Calls P f ⟨fst ++ vs ++ cap⟩ W (RetD G H Φ)) (h : ∀ v G', G.le G' → Φ G' v → Nx F ((d, v) :: e) n G' H) : OpNx P ⟨some d, .call { callee := .value fo, args := xs.toArray, argTypes := ats }, ty, pos, af, g⟩ Q F e n G H :=
  op_enter hfo hx hcall (by rintro en W' ⟨v, G', rfl, hl, hΦ, hp⟩; exact ⟨v, rfl, fun a hf => h v G' hl hΦ W' hp _ (hf.put hn v)⟩)
theorem op_callR {f : Nat} {fst cap : List Value} {fo : Operand} {xs : List Operand} {vs : List Value} {ats : Array TypeId} {Φ : Gh → List (Nat × Obj) → Value → Prop} [hF : FnT P f] (hn : Nat.blt d n = true) (hfo : evE e fo = some (.func (.func f) ⟨fst⟩ ⟨cap⟩)) (hx : evL e xs = some vs)
    (hcall : ∀ W, Hp G H W → Calls P f ⟨fst ++ vs ++ cap⟩ W (Ret G Φ)) (h : ∀ v G' H', G.le G' → Φ G' H' v → Nx F ((d, v) :: e) n G' H') : OpNx P ⟨some d, .call { callee := .value fo, args := xs.toArray, argTypes := ats }, ty, pos, af, g⟩ Q F e n G H :=
  op_enter hfo hx hcall (by rintro en W' ⟨v, G', H', rfl, hl, hΦ, hp⟩; exact ⟨v, rfl, fun a hf => h v G' H' hl hΦ W' hp _ (hf.put hn v)⟩)
def argE : Nat → List Value → Env
  | _, [] => []
  | i, v :: vs => (i, v) :: argE (i + 1) vs
theorem lk_argE {t : Nat} {v : Value} : ∀ {vs : List Value} {i : Nat}, lk (argE i vs) t = some v → i ≤ t ∧ vs[t - i]? = some v
  | [], i, h => by simp [argE, lk] at h
  | u :: vs, i, h => by
    unfold argE at h
    rw [lk_cons] at h
    split at h
    · rename_i e1; subst e1; cases h; simp
    · rename_i e1
      obtain ⟨h1, h2⟩ := lk_argE h
      have : t - i = (t - (i + 1)) + 1 := by omega
      exact ⟨by omega, by rw [this]; simpa using h2⟩
theorem enter {f : Nat} {fn : Func} {c : Code} {vs : List Value} {R : Ending → World → Prop} {W : World} (hf : P.funcs[f]? = some fn) (hb : fn.body = some c) (hn : fn.ntmps = n) (hle : vs.length ≤ n)
    (hp : Hp G H W) (h : Nx (c.wp P (bodyPost P fn R)) (argE 0 vs) n G H) : Calls P f ⟨vs⟩ W R := by
  refine calls_of_wp hf hb (h W hp _ ⟨?_, ?_, rfl⟩)
  · simp; omega
  · intro t v ht
    obtain ⟨_, h2⟩ := lk_argE ht
    simp only [Nat.sub_zero] at h2
    have hlt := (List.getElem?_eq_some_iff.1 h2).1
    simp [Array.getElem?_append, hlt]
    simpa [List.getElem?_eq_getElem hlt] using h2
inductive Res (P : Program) (e : Env) (G : Gh) (H : List (Nat × Obj)) : ResultVar → Value → Prop where
  | tmp {t : Nat} {v : Value} (h : lk e t = some v) : Res P e G H (.tmp t) v
  | cell {t T m b off : Nat} {r : List Value} (h : lk e t = some (.pointer (some ⟨b, off, none⟩))) (hT : AggT P T m) (hr : Rd G H b off r) (hl : r.length = m) : Res P e G H (.cell t T) (.agg ⟨r⟩)
  | cell1 {t T b off : Nat} {v : Value} (h : lk e t = some (.pointer (some ⟨b, off, none⟩))) (hT : OneT P T) (hr : Rd G H b off [v]) : Res P e G H (.cell t T) v
def resOf (a : Act) : ResultVar → Sem Value
  | .tmp t => pure (a.tmps.getD t undef)
  | .cell x T => do loadVar T (← asAddr (a.tmps.getD x undef))
theorem res_run {a : Act} {W : World} (hf : Fits e n a) (hp : Hp G H W) {r : ResultVar} {v : Value} (h : Res P e G H r v) :
    (resOf a r).run P W = .ok v W := by
  unfold resOf
  cases h with
  | tmp h => simp [Array.getD_eq_getD_getElem?, hf.get _ _ h, go_sem]
  | cell h hT hr hl =>
    rename_i t T m b off r
    have := run_loadCells_list (P := P) W ⟨b, off, none⟩ r (fun j v hj => by rw [add_plain]; exact hr.cells hp.toMem j v hj)
    simp only [loadCells] at this
    subst hl
    simp [Array.getD_eq_getD_getElem?, hf.get _ _ h, go_sem, asAddr, loadVar, loadCells, hT.agg, hT.size, this]
  | cell1 h hT hr =>
    rename_i t T b off
    have := hr.cells hp.toMem 0 v rfl
    rw [Nat.add_zero] at this
    simp [Array.getD_eq_getD_getElem?, hf.get _ _ h, go_sem, asAddr, loadVar, hT.agg, this, load, Sem.run]
theorem nx_end0 {fn : Func} {R : Ending → World → Prop} (hr : fn.results = #[]) (hR : ∀ W, Hp G H W → R (.returned (.tuple #[])) W) : Nx (bodyPost P fn R .normal) e n G H := by
  intro W hp a hf
  exact ⟨hf.defers, .tuple #[], by simp [results, hr, go_sem], hR W hp⟩
theorem run_mapM {f : ResultVar → Sem Value} {W : World} : ∀ {xs : List ResultVar} {vs : List Value}, xs.length = vs.length → (∀ (i : Nat) (x : ResultVar) (v : Value), xs[i]? = some x → vs[i]? = some v → (f x).run P W = .ok v W) → (xs.mapM f).run P W = .ok vs W
  | [], [], _, _ => by simp [List.mapM_nil, go_sem]
  | [], _ :: _, h, _ => by simp at h
  | _ :: _, [], h, _ => by simp at h
  | x :: xs, v :: vs, h, k => by
    have h0 := k 0 x v rfl rfl
    have ih := run_mapM (W := W) (xs := xs) (vs := vs) (by simpa using h) (fun i y u hy hu => k (i + 1) y u (by simpa using hy) (by simpa using hu))
    simp [List.mapM_cons, go_sem, h0, ih]
theorem run_results {fn : Func} {a : Act} {W : World} {xs : List ResultVar} {vs : List Value} {u : Value} (hr : fn.results = ⟨xs⟩) (hl : xs.length = vs.length)
    (h : ∀ (i : Nat) (x : ResultVar) (v : Value), xs[i]? = some x → vs[i]? = some v → (resOf a x).run P W = .ok v W) (hu : (if h : (⟨vs⟩ : Array Value).size = 1 then (⟨vs⟩ : Array Value)[0] else .tuple ⟨vs⟩) = u) :
    (results fn a.tmps).run P W = .ok u W := by
  have hm := run_mapM (P := P) hl h
  have hres : results fn a.tmps = (do
      let vs ← fn.results.mapM (resOf a)
      pure (if h : vs.size = 1 then vs[0] else .tuple vs)) := by
    unfold results
    congr 1
  rw [hres, hr]
  have ha : ((⟨xs⟩ : Array ResultVar).mapM (resOf a)).run P W = .ok ⟨vs⟩ W := by
    rw [show (⟨xs⟩ : Array ResultVar) = xs.toArray from rfl, List.mapM_toArray]
    simp [go_sem, hm]
  rw [Sem.run_bind, ha]
  simp only [Result.andThen_ok, Sem.run_pure]
  rw [hu]
theorem nx_ret1 {fn : Func} {R : Ending → World → Prop} {x : ResultVar} {v : Value} (hr : fn.results = #[x]) (hx : Res P e G H x v) (hR : ∀ W, Hp G H W → R (.returned v) W) : Nx (bodyPost P fn R .ret) e n G H := by
  intro W hp a hf
  refine ⟨hf.defers, v, ?_, hR W hp⟩
  exact run_results (xs := [x]) (vs := [v]) hr rfl (fun i y u hy hu => by
    cases i with
    | zero => simp at hy hu; subst hy; subst hu; exact res_run hf hp hx
    | succ i => simp at hy) rfl
theorem nx_ret2 {fn : Func} {R : Ending → World → Prop} {x y : ResultVar} {u v : Value} (hr : fn.results = #[x, y]) (hx : Res P e G H x u) (hy : Res P e G H y v) (hR : ∀ W, Hp G H W → R (.returned (.tuple #[u, v])) W) : Nx (bodyPost P fn R .ret) e n G H := by
  intro W hp a hf
  refine ⟨hf.defers, .tuple #[u, v], ?_, hR W hp⟩
  exact run_results (xs := [x, y]) (vs := [u, v]) hr rfl (fun i z w hz hw => by
    match i with
    | 0 => simp at hz hw; subst hz; subst hw; exact res_run hf hp hx
    | 1 => simp at hz hw; subst hz; subst hw; exact res_run hf hp hy
    | i + 2 => simp at hz) rfl
theorem nx_ret3 {fn : Func} {R : Ending → World → Prop} {x y z : ResultVar} {u v t : Value} (hr : fn.results = #[x, y, z]) (hx : Res P e G H x u) (hy : Res P e G H y v) (hz : Res P e G H z t) (hR : ∀ W, Hp G H W → R (.returned (.tuple #[u, v, t])) W) : Nx (bodyPost P fn R .ret) e n G H := by
  intro W hp a hf
  refine ⟨hf.defers, .tuple #[u, v, t], ?_, hR W hp⟩
  exact run_results (xs := [x, y, z]) (vs := [u, v, t]) hr rfl (fun i q w hq hw => by
    match i with
    | 0 => simp at hq hw; subst hq; subst hw; exact res_run hf hp hx
    | 1 => simp at hq hw; subst hq; subst hw; exact res_run hf hp hy
    | 2 => simp at hq hw; subst hq; subst hw; exact res_run hf hp hz
    | i + 3 => simp at hq) rfl
end
end Go.Proofs.YtjckojnlapchoaaGreat
open Go Go.RowKit
namespace Go.Proofs.YtjckojnlapchoaaGreat
section
variable {P : Program} {ops : Array Oper} {Q : Exit → Act → World → Prop} {S : World → Prop} {n : Nat} {L : Array Bool → Act → World → Prop}
def hdAny (P : Program) (ops : Array Oper) (Q : Exit → Act → World → Prop) (S : World → Prop) (n : Nat) (L : Array Bool → Act → World → Prop) : Nat → Array Bool → Act → World → Prop
  | 0, listed, a, w => L listed a w
  | f + 1, listed, a, w => Region.ready .any ops listed ≠ [] ∧ ∀ i ∈ Region.ready .any ops listed, i < n ∧ wpOp P ops Q i (fun a' w' => S w' ∧ hdAny P ops Q S n L f (listed.setIfInBounds i true) a' w') a w
theorem hdAny.sound {g : Nat} (hL : ∀ listed a w, L listed a w → wpAny P .any ops Q g listed a w) : ∀ (f : Nat) (listed : Array Bool) (a : Act) (w : World), hdAny P ops Q S n L f listed a w → wpAny P .any ops Q (f + g) listed a w
  | 0, listed, a, w, h => by rw [Nat.zero_add]; exact hL _ _ _ h
  | f + 1, listed, a, w, h => by
    rw [show f + 1 + g = (f + g) + 1 by omega]
    exact ⟨fun h0 => absurd h0 h.1, fun i hi => wpOp_mono (fun a' w' h' => hdAny.sound hL f _ a' w' h'.2) (h.2 i hi).2⟩
def HeadFirst (ops : Array Oper) (n : Nat) : Prop := ∀ listed, HeadInv .any ops n listed → ∀ i, i < n → listed.getD i true = false → ∀ j ∈ Region.ready .any ops listed, j < n
theorem HeadFirst.tail (hs : Region.sinkB .any ops n = true) (hc : Region.chainB .any ops n = true) (hn : n < ops.size) : HeadFirst ops n := by
  intro listed inv i hi hun j hj
  rcases Nat.lt_or_ge j n with h | h
  · exact h
  · exact absurd hj (tail_waits hs hc hn inv _ i rfl hi hun j h)
theorem HeadFirst.all (hn : n = ops.size) : HeadFirst ops n := by
  intro listed inv i hi hun j hj
  obtain ⟨_, o, ho, _⟩ := mem_ready.1 hj
  rw [hn]
  exact (Array.getElem?_eq_some_iff.1 ho).1
theorem hdAny.first (hF : HeadFirst ops n) {i : Nat} {oi : Oper} {v : Value} (hi : ops[i]? = some oi) (hsel : ∀ (j : Nat) (o : Oper) cs b, ops[j]? = some o → o.op ≠ .select cs b) (hin : i < n)
    (hQ : ∀ c a w, ¬ Q (.panic c) a w) (hdone : ∀ listed a w, L listed a w → ∀ j ∈ Region.ready .any ops listed, n ≤ j) :
    ∀ (f : Nat) (listed : Array Bool) (a : Act) (w : World), HeadInv .any ops n listed →
      (∀ j oj, ops[j]? = some oj → j ≠ i → listed.getD j true = false → (∀ e ∈ oj.after, Region.binds .any e = true → e.on ≠ i) → oi.apart ops oj = true) →
      i ∈ Region.ready .any ops listed → YieldsIf P ops S oi v a → S w →
      hdAny P ops Q S n L f (listed.setIfInBounds i true) (a.put oi.dst v) w → hdAny P ops Q S n L (f + 1) listed a w := by
  intro f
  induction f with
  | zero =>
    intro listed a w inv _ hr hy hS K
    have hun := (mem_ready.1 hr).1
    refine ⟨List.ne_nil_of_mem hr, fun j hj => ⟨hF listed inv i hin hun j hj, ?_⟩⟩
    by_cases hji : j = i
    · subst hji; exact hy.wpOp hi hS ⟨hS, K⟩
    · have h1 := hF listed inv i hin hun j hj
      have h2 := hdone _ _ _ K j (ready_mono hj hji)
      omega
  | succ f ih =>
    intro listed a w inv hfree hr hy hS K
    have hun := (mem_ready.1 hr).1
    refine ⟨List.ne_nil_of_mem hr, fun j hj => ⟨hF listed inv i hin hun j hj, ?_⟩⟩
    by_cases hji : j = i
    · subst hji; exact hy.wpOp hi hS ⟨hS, K⟩
    · have hjn := hF listed inv i hin hun j hj
      have h1 := (K.2 j (ready_mono hj hji)).2
      obtain ⟨hjun, oj, hoj, hall⟩ := mem_ready.1 hj
      have hnot : ∀ e ∈ oj.after, Region.binds .any e = true → e.on ≠ i := by
        intro e he hb heq
        have hl := hall e he hb
        rw [heq, getD_both hun] at hl
        cases hl
      have h2 := wpOp_putIf (Q := Q) hoj (hfree j oj hoj hji hjun hnot) (fun cs b => hsel i oi cs b hi) (fun cs b => hsel j oj cs b hoj) (fun c a w h => absurd h (hQ c _ w)) hy h1
      refine wpOp_mono (fun a' w' h3 => ⟨h3.2.1, ?_⟩) h2
      refine ih (listed.setIfInBounds j true) a' w' (inv.set hj hjn) ?_ (ready_mono hr (Ne.symm hji)) h3.1 h3.2.1 ?_
      · intro k ok hk hki hku hno
        refine hfree k ok hk hki ?_ hno
        by_cases hjk : j = k
        · subst hjk; exact hjun
        · rw [getD_set_ne true hjk] at hku; exact hku
      · rw [Array.setIfInBounds_comm _ _ hji]
        exact h3.2.2
end
inductive Ord where
  | done
  | q (i : Nat) (r : Ord)
  | l (i : Nat) (r : Ord)
  | b (i j : Nat) (r s : Ord)
def Ord.size : Ord → Nat
  | .done => 0
  | .q _ r => r.size + 1
  | .l _ r => r.size + 1
  | .b _ _ r _ => r.size + 1
def chk (ops : Array Oper) (n : Nat) : Ord → Array Bool → Bool
  | .done, listed => Region.seqB .any ops (ops.size - n) n listed
  | .q i r, listed => decide (i < n) && (Region.ready .any ops listed).contains i && Region.free .any ops listed i && chk ops n r (listed.setIfInBounds i true)
  | .l i r, listed => decide (i < n) && decide (Region.ready .any ops listed = [i]) && chk ops n r (listed.setIfInBounds i true)
  | .b i j r s, listed => decide (i < n) && decide (j < n) && decide (Region.ready .any ops listed = [i, j]) && decide (r.size = s.size) && chk ops n r (listed.setIfInBounds i true) && chk ops n s (listed.setIfInBounds j true)
def okTail (ops : Array Oper) (n : Nat) : Bool :=
  Region.noSelect ops && (decide (n = ops.size) || (decide (n < ops.size) && Region.sinkB .any ops n && Region.chainB .any ops n))
def okDraw (ops : Array Oper) (n : Nat) (r : Ord) : Bool := okTail ops n && decide (r.size = n) && chk ops n r (Array.replicate ops.size false)
section
variable {P : Program} {ops : Array Oper} {Q : Exit → Act → World → Prop} {F : Act → World → Prop} {e : Env} {n m : Nat} {G G0 : Gh} {H H0 : List (Nat × Obj)} {listed : Array Bool} {r s : Ord}
def tailL (P : Program) (ops : Array Oper) (Q : Exit → Act → World → Prop) (m : Nat) (listed : Array Bool) (a : Act) (w : World) : Prop :=
  Region.seqB .any ops (ops.size - m) m listed = true ∧ wpList P ops Q (ops.toList.drop m) a w
def Dr (P : Program) (ops : Array Oper) (Q : Exit → Act → World → Prop) (G0 : Gh) (H0 : List (Nat × Obj)) (m : Nat) (r : Ord) (listed : Array Bool) (a : Act) (w : World) : Prop :=
  HeadFirst ops m → Region.noSelect ops = true → HeadInv .any ops m listed → chk ops m r listed = true → hdAny P ops (NoPanic Q) (Mem G0 H0) m (tailL P ops (NoPanic Q) m) r.size listed a w
def Inc (G0 : Gh) (H0 : List (Nat × Obj)) (G : Gh) (H : List (Nat × Obj)) : Prop := G0.le G ∧ ∀ x, x ∈ H0 → x ∈ H
theorem Inc.refl (G : Gh) (H : List (Nat × Obj)) : Inc G H G H := ⟨Gh.le.refl G, fun _ h => h⟩
theorem Inc.le {G' : Gh} (h : Inc G0 H0 G H) (k : G.le G') : Inc G0 H0 G' H := ⟨h.1.trans k, h.2⟩
theorem Inc.cons (h : Inc G0 H0 G H) (x : Nat × Obj) : Inc G0 H0 G (x :: H) := ⟨h.1, fun y hy => List.mem_cons_of_mem _ (h.2 y hy)⟩
theorem Inc.app (h : Inc G0 H0 G H) (N : List (Nat × Obj)) : Inc G0 H0 G (N ++ H) := ⟨h.1, fun x hx => List.mem_append_right _ (h.2 x hx)⟩
theorem Inc.mem (h : Inc G0 H0 G H) {W : World} (hp : Hp G H W) : Mem G0 H0 W := hp.toMem.sub h.1 h.2
theorem dr_begin_at (G0 : Gh) (H0 : List (Nat × Obj)) {id : Nat} {l : List Oper} (m : Nat) (r : Ord) (hm : P.follows .mixedOrders = true) (hc : okDraw l.toArray m r = true)
    (h : Nx (Dr P l.toArray Q G0 H0 m r (Array.replicate l.length false)) e n G H) : Nx ((Code.region id l.toArray true).wp P Q) e n G H := by
  intro W hp a hf
  simp only [okDraw, okTail, Bool.and_eq_true, decide_eq_true_eq, Bool.or_eq_true] at hc
  obtain ⟨⟨⟨hsel, ht⟩, hr⟩, hk⟩ := hc
  have hF : HeadFirst l.toArray m := by
    rcases ht with ht | ht
    · exact HeadFirst.all ht
    · exact HeadFirst.tail ht.1.2 ht.2 ht.1.1
  have hle : m ≤ l.length := by
    rcases ht with ht | ht
    · simp at ht; omega
    · have := ht.1.1; simp at this; omega
  have inv0 : HeadInv .any l.toArray m (Array.replicate l.toArray.size false) :=
    ⟨by simp, fun j oj _ hl => (by rw [getD_replicate_false] at hl; cases hl), fun t _ ht => getD_in (by simpa using ht) (getD_replicate_false _ _)⟩
  have h1 := h _ hp.drew a hf hF hsel (by simpa using inv0) (by simpa using hk)
  refine wp_region_noPanic (wp_region_any hm ?_)
  have h2 := hdAny.sound (g := l.length - m) (fun listed a w hL => by
    obtain ⟨h3, h4⟩ := hL
    have hdl : (l.drop m).length = l.toArray.size - m := by simp
    have := wpAny_of_seq (md := .any) (P := P) (ops := l.toArray) (Q' := NoPanic Q) (l.drop m) m listed a w (fun j => by simp [List.getElem?_drop]) (by rw [hdl]; exact h3) h4
    simpa using this) _ _ _ _ h1
  rw [hr, show m + (l.length - m) = l.length by omega] at h2
  simpa using h2
theorem dr_begin {id : Nat} {l : List Oper} (m : Nat) (r : Ord) (hm : P.follows .mixedOrders = true) (hc : okDraw l.toArray m r = true)
    (h : Nx (Dr P l.toArray Q G H m r (Array.replicate l.length false)) e n G H) : Nx ((Code.region id l.toArray true).wp P Q) e n G H := dr_begin_at G H m r hm hc h
theorem dr_begin_cons {x : Nat × Obj} {id : Nat} {l : List Oper} (m : Nat) (r : Ord) (hm : P.follows .mixedOrders = true) (hc : okDraw l.toArray m r = true)
    (h : Nx (Dr P l.toArray Q G H m r (Array.replicate l.length false)) e n G (x :: H)) : Nx ((Code.region id l.toArray true).wp P Q) e n G (x :: H) := dr_begin_at G H m r hm hc h
theorem dr_begin_cons2 {x y : Nat × Obj} {id : Nat} {l : List Oper} (m : Nat) (r : Ord) (hm : P.follows .mixedOrders = true) (hc : okDraw l.toArray m r = true)
    (h : Nx (Dr P l.toArray Q G H m r (Array.replicate l.length false)) e n G (x :: y :: H)) : Nx ((Code.region id l.toArray true).wp P Q) e n G (x :: y :: H) := dr_begin_at G H m r hm hc h
theorem dr_begin_app {N : List (Nat × Obj)} {id : Nat} {l : List Oper} (m : Nat) (r : Ord) (hm : P.follows .mixedOrders = true) (hc : okDraw l.toArray m r = true)
    (h : Nx (Dr P l.toArray Q G H m r (Array.replicate l.length false)) e n G (N ++ H)) : Nx ((Code.region id l.toArray true).wp P Q) e n G (N ++ H) := dr_begin_at G H m r hm hc h
theorem dr_yield {i : Nat} {o : Oper} {v : Value} (hi : ops[i]? = some o) (hy : ∀ a, Fits e n a → YieldsIf P ops (Mem G0 H0) o v a) (hinc : Inc G0 H0 G H)
    (k : ∀ W, Hp G H W → ∀ a, Fits e n a → Dr P ops Q G0 H0 m r (listed.setIfInBounds i true) (a.put o.dst v) W) : Nx (Dr P ops Q G0 H0 m (.q i r) listed) e n G H := by
  intro W hp a hf hF hsel inv hc
  simp only [chk, Bool.and_eq_true, decide_eq_true_eq] at hc
  obtain ⟨⟨⟨him, hr⟩, hfree⟩, hc⟩ := hc
  have hr' : i ∈ Region.ready .any ops listed := by simpa using hr
  have hK := k W hp a hf hF hsel (inv.set hr' him) hc
  exact hdAny.first hF hi (Region.noSelect_spec hsel) him (fun c a w h => h) (fun listed a w hL => seqB_ready hL.1) r.size listed a W inv (Region.free_spec hi hfree) hr' (hy a hf) (hinc.mem hp) hK
theorem dr_q {i d : Nat} {o : Oper} {v : Value} (hi : ops[i]? = some o) (hg : o.guard = none) (h : OpV P o e n G0 H0 d v) (hinc : Inc G0 H0 G H) (k : Nx (Dr P ops Q G0 H0 m r (listed.setIfInBounds i true)) ((d, v) :: e) n G H) : Nx (Dr P ops Q G0 H0 m (.q i r) listed) e n G H :=
  dr_yield hi (fun a hf => .inl ⟨by simp [Region.wanted, hg], fun w hS => h.run w hS a hf⟩) hinc (fun W hp a hf => by rw [h.dst]; exact k W hp _ (hf.put h.lt v))
theorem dr_q_run {i j t d : Nat} {b : Bool} {o : Oper} {v : Value} (hi : ops[i]? = some o) (hg : o.guard = some (j, b)) (ht : (ops[j]?).bind (·.dst) = some t) (hv : lk e t = some (.bool b)) (h : OpV P o e n G0 H0 d v) (hinc : Inc G0 H0 G H) (k : Nx (Dr P ops Q G0 H0 m r (listed.setIfInBounds i true)) ((d, v) :: e) n G H) : Nx (Dr P ops Q G0 H0 m (.q i r) listed) e n G H :=
  dr_yield hi (fun a hf => .inl ⟨by simp [Region.wanted, hg, yielded_of ht hf hv], fun w hS => h.run w hS a hf⟩) hinc (fun W hp a hf => by rw [h.dst]; exact k W hp _ (hf.put h.lt v))
theorem dr_q_skip {i j t d : Nat} {b : Bool} {o : Oper} (hi : ops[i]? = some o) (hg : o.guard = some (j, b)) (ht : (ops[j]?).bind (·.dst) = some t) (hv : lk e t = some (.bool (!b))) (hd : o.dst = some d) (hn : Nat.blt d n = true) (hinc : Inc G0 H0 G H) (k : Nx (Dr P ops Q G0 H0 m r (listed.setIfInBounds i true)) ((d, undef) :: e) n G H) : Nx (Dr P ops Q G0 H0 m (.q i r) listed) e n G H :=
  dr_yield hi (fun a hf => .inr ⟨by simp [Region.wanted, hg, yielded_of ht hf hv], rfl⟩) hinc (fun W hp a hf => by rw [hd]; exact k W hp _ (hf.put hn undef))
theorem dr_q_skip_u {i j t d : Nat} {b : Bool} {o : Oper} (hi : ops[i]? = some o) (hg : o.guard = some (j, b)) (ht : (ops[j]?).bind (·.dst) = some t) (hv : lk e t = some undef) (hd : o.dst = some d) (hn : Nat.blt d n = true) (hinc : Inc G0 H0 G H) (k : Nx (Dr P ops Q G0 H0 m r (listed.setIfInBounds i true)) ((d, undef) :: e) n G H) : Nx (Dr P ops Q G0 H0 m (.q i r) listed) e n G H :=
  dr_yield hi (fun a hf => .inr ⟨by simp [Region.wanted, hg, yielded_undef ht hf hv], rfl⟩) hinc (fun W hp a hf => by rw [hd]; exact k W hp _ (hf.put hn undef))
def DrK (P : Program) (ops : Array Oper) (Q : Exit → Act → World → Prop) (G0 : Gh) (H0 : List (Nat × Obj)) (m : Nat) (r : Ord) (listed : Array Bool) (a : Act) (w : World) : Prop := Mem G0 H0 w ∧ Dr P ops Q G0 H0 m r listed a w
theorem dr_k (hinc : Inc G0 H0 G H) (k : Nx (Dr P ops Q G0 H0 m r listed) e n G H) : Nx (DrK P ops Q G0 H0 m r listed) e n G H := fun W hp a hf => ⟨hinc.mem hp, k W hp a hf⟩
theorem op_wpOp {i : Nat} {o : Oper} {a : Act} {W : World} {K : Act → World → Prop} (hi : ops[i]? = some o) (hg : o.guard = none) (h : o.wp P a W K Q) : wpOp P ops Q i K a W := by
  unfold wpOp
  rw [hi]
  simp only [Region.wanted, hg, if_true]
  exact .inl h
theorem dr_l {i : Nat} {o : Oper} (hi : ops[i]? = some o) (hg : o.guard = none) (h : OpNx P o (NoPanic Q) (DrK P ops Q G0 H0 m r (listed.setIfInBounds i true)) e n G H) : Nx (Dr P ops Q G0 H0 m (.l i r) listed) e n G H := by
  intro W hp a hf hF hsel inv hc
  simp only [chk, Bool.and_eq_true, decide_eq_true_eq] at hc
  obtain ⟨⟨him, hr⟩, hc⟩ := hc
  refine ⟨by rw [hr]; simp, fun j hj => ?_⟩
  have hji : j = i := by rw [hr] at hj; simpa using hj
  subst hji
  refine ⟨him, op_wpOp hi hg (Oper.wp_mono (fun a' w' hk => ⟨hk.1, hk.2 hF hsel (inv.set hj him) hc⟩) (h W hp a hf))⟩
theorem dr_b {i j : Nat} {o o' : Oper} (hi : ops[i]? = some o) (hg : o.guard = none) (hj : ops[j]? = some o') (hg' : o'.guard = none)
    (h : OpNx P o (NoPanic Q) (DrK P ops Q G0 H0 m r (listed.setIfInBounds i true)) e n G H) (h' : OpNx P o' (NoPanic Q) (DrK P ops Q G0 H0 m s (listed.setIfInBounds j true)) e n G H) : Nx (Dr P ops Q G0 H0 m (.b i j r s) listed) e n G H := by
  intro W hp a hf hF hsel inv hc
  simp only [chk, Bool.and_eq_true, decide_eq_true_eq] at hc
  obtain ⟨⟨⟨⟨⟨him, hjm⟩, hr⟩, hsz⟩, hc⟩, hc'⟩ := hc
  refine ⟨by rw [hr]; simp, fun x hx => ?_⟩
  have hx' := hx
  rw [hr] at hx'
  simp at hx'
  rcases hx' with rfl | rfl
  · exact ⟨him, op_wpOp hi hg (Oper.wp_mono (fun a' w' hk => ⟨hk.1, hk.2 hF hsel (inv.set hx him) hc⟩) (h W hp a hf))⟩
  · exact ⟨hjm, op_wpOp hj hg' (Oper.wp_mono (fun a' w' hk => ⟨hk.1, by have := hk.2 hF hsel (inv.set hx hjm) hc'; rw [← hsz] at this; exact this⟩) (h' W hp a hf))⟩
theorem op_wpOp_if {i : Nat} {o : Oper} {a : Act} {W : World} {K : Act → World → Prop} (hi : ops[i]? = some o) (hw : Region.wanted o (yielded ops a.tmps) = true) (h : o.wp P a W K Q) : wpOp P ops Q i K a W := by
  unfold wpOp
  rw [hi]
  simp only [hw, if_true]
  exact .inl h
theorem dr_l_run {i j t : Nat} {b : Bool} {o : Oper} (hi : ops[i]? = some o) (hg : o.guard = some (j, b)) (ht : (ops[j]?).bind (·.dst) = some t) (hv : lk e t = some (.bool b)) (h : OpNx P o (NoPanic Q) (DrK P ops Q G0 H0 m r (listed.setIfInBounds i true)) e n G H) : Nx (Dr P ops Q G0 H0 m (.l i r) listed) e n G H := by
  intro W hp a hf hF hsel inv hc
  simp only [chk, Bool.and_eq_true, decide_eq_true_eq] at hc
  obtain ⟨⟨him, hr⟩, hc⟩ := hc
  refine ⟨by rw [hr]; simp, fun j' hj => ?_⟩
  have hji : j' = i := by rw [hr] at hj; simpa using hj
  subst hji
  refine ⟨him, op_wpOp_if hi (by simp [Region.wanted, hg, yielded_of ht hf hv]) (Oper.wp_mono (fun a' w' hk => ⟨hk.1, hk.2 hF hsel (inv.set hj him) hc⟩) (h W hp a hf))⟩
theorem dr_l_skip {i j t d : Nat} {b : Bool} {o : Oper} (hi : ops[i]? = some o) (hg : o.guard = some (j, b)) (ht : (ops[j]?).bind (·.dst) = some t) (hv : lk e t = some (.bool (!b))) (hd : o.dst = some d) (hn : Nat.blt d n = true) (hinc : Inc G0 H0 G H) (k : Nx (Dr P ops Q G0 H0 m r (listed.setIfInBounds i true)) ((d, undef) :: e) n G H) : Nx (Dr P ops Q G0 H0 m (.l i r) listed) e n G H := by
  intro W hp a hf hF hsel inv hc
  simp only [chk, Bool.and_eq_true, decide_eq_true_eq] at hc
  obtain ⟨⟨him, hr⟩, hc⟩ := hc
  refine ⟨by rw [hr]; simp, fun j' hj => ?_⟩
  have hji : j' = i := by rw [hr] at hj; simpa using hj
  subst hji
  refine ⟨him, ?_⟩
  unfold wpOp
  rw [hi]
  have hw : Region.wanted o (yielded ops a.tmps) = false := by simp [Region.wanted, hg, yielded_of ht hf hv]
  simp only [hw, hd]
  exact ⟨hinc.mem hp, k W hp _ (hf.put hn undef) hF hsel (inv.set hj him) hc⟩
theorem dr_l_skip_u {i j t d : Nat} {b : Bool} {o : Oper} (hi : ops[i]? = some o) (hg : o.guard = some (j, b)) (ht : (ops[j]?).bind (·.dst) = some t) (hv : lk e t = some undef) (hd : o.dst = some d) (hn : Nat.blt d n = true) (hinc : Inc G0 H0 G H) (k : Nx (Dr P ops Q G0 H0 m r (listed.setIfInBounds i true)) ((d, undef) :: e) n G H) : Nx (Dr P ops Q G0 H0 m (.l i r) listed) e n G H := by
  intro W hp a hf hF hsel inv hc
  simp only [chk, Bool.and_eq_true, decide_eq_true_eq] at hc
  obtain ⟨⟨him, hr⟩, hc⟩ := hc
  refine ⟨by rw [hr]; simp, fun j' hj => ?_⟩
  have hji : j' = i := by rw [hr] at hj; simpa using hj
  subst hji
  refine ⟨him, ?_⟩
  unfold wpOp
  rw [hi]
  have hw : Region.wanted o (yielded ops a.tmps) = false := by simp [Region.wanted, hg, yielded_undef ht hf hv]
  simp only [hw, hd]
  exact ⟨hinc.mem hp, k W hp _ (hf.put hn undef) hF hsel (inv.set hj him) hc⟩
theorem dr_end {rest : List Oper} (hl : ops.toList.drop m = rest) (k : Nx (wpList P ops (NoPanic Q) rest) e n G H) : Nx (Dr P ops Q G0 H0 m .done listed) e n G H := by
  intro W hp a hf hF hsel inv hc
  subst hl
  exact ⟨hc, k W hp a hf⟩
theorem nx_np (h : Nx (Q .normal) e n G H) : Nx (NoPanic Q .normal) e n G H := h
end
end Go.Proofs.YtjckojnlapchoaaGreat
open Go Go.RowKit
namespace Go.Proofs.YtjckojnlapchoaaGreat
section
variable {P : Program} {Q : Exit → Act → World → Prop} {F : Act → World → Prop} {e e' : Env} {n : Nat} {G G' : Gh} {H H' R : List (Nat × Obj)} {ops : Array Oper}
inductive Suf : List (Nat × Obj) → List (Nat × Obj) → Prop where
  | refl {H : List (Nat × Obj)} : Suf H H
  | keep {x : Nat × Obj} {R H : List (Nat × Obj)} (h : Suf R H) : Suf (x :: R) (x :: H)
  | cons {x : Nat × Obj} {R H : List (Nat × Obj)} (h : Suf R H) : Suf R (x :: H)
  | keepN {N R H : List (Nat × Obj)} (h : Suf R H) : Suf (N ++ R) (N ++ H)
  | app {N R H : List (Nat × Obj)} (h : Suf R H) : Suf R (N ++ H)
  | trans {A B C : List (Nat × Obj)} (h : Suf A B) (k : Suf B C) : Suf A C
theorem Suf.sublist {R H : List (Nat × Obj)} (h : Suf R H) : R.Sublist H := by
  induction h with
  | refl => exact List.Sublist.refl _
  | keep _ ih => exact ih.cons_cons _
  | cons _ ih => exact ih.cons _
  | keepN _ ih => exact List.Sublist.append (List.Sublist.refl _) ih
  | app _ ih => exact ih.trans (List.sublist_append_right _ _)
  | trans _ _ h k => exact h.trans k
theorem Suf.hp {G : Gh} {R H : List (Nat × Obj)} {W : World} (h : Suf R H) (hp : Hp G H W) : Hp G R W :=
  ⟨hp.os, hp.tape, hp.output, hp.imm, fun b o hm => hp.mem b o (h.sublist.subset hm), fun b o hm => hp.apart b o (h.sublist.subset hm), (h.sublist.map _).nodup hp.nodup⟩
theorem nx_back (h : Suf R H) (k : Nx F e n G R) : Nx F e n G H := fun W hp a hf => k W (h.hp hp) a hf
inductive Pull (N : List (Nat × Obj)) : List (Nat × Obj) → List (Nat × Obj) → Prop where
  | here {R : List (Nat × Obj)} : Pull N (N ++ R) R
  | cons {x : Nat × Obj} {H R : List (Nat × Obj)} (h : Pull N H R) : Pull N (x :: H) (x :: R)
  | app {M H R : List (Nat × Obj)} (h : Pull N H R) : Pull N (M ++ H) (M ++ R)
theorem Pull.perm {N H R : List (Nat × Obj)} (h : Pull N H R) : H.Perm (N ++ R) := by
  induction h with
  | here => exact .refl _
  | cons _ ih => exact (ih.cons _).trans List.perm_middle.symm
  | app _ ih =>
    rename_i M H R h
    refine (ih.append_left M).trans ?_
    rw [← List.append_assoc, ← List.append_assoc]
    exact List.perm_append_comm.append_right _
inductive Take (b : Nat) (o : Obj) : List (Nat × Obj) → List (Nat × Obj) → Prop where
  | here {R : List (Nat × Obj)} : Take b o ((b, o) :: R) R
  | cons {x : Nat × Obj} {H R : List (Nat × Obj)} (h : Take b o H R) : Take b o (x :: H) (x :: R)
  | app {M H R : List (Nat × Obj)} (h : Take b o H R) : Take b o (M ++ H) (M ++ R)
theorem Take.perm {b : Nat} {o : Obj} {H R : List (Nat × Obj)} (h : Take b o H R) : H.Perm ((b, o) :: R) := by
  induction h with
  | here => exact .refl _
  | cons _ ih => exact (ih.cons _).trans (.swap ..)
  | app _ ih => exact (ih.append_left _).trans List.perm_middle
theorem Take.mem {b : Nat} {o : Obj} {H R : List (Nat × Obj)} (h : Take b o H R) : (b, o) ∈ H := h.perm.mem_iff.2 List.mem_cons_self
theorem nx_front {b : Nat} {o : Obj} (h : Take b o H R) (k : Nx F e n G ((b, o) :: R)) : Nx F e n G H := nx_perm h.perm k
theorem nx_pull {N : List (Nat × Obj)} (h : Pull N H R) (k : Nx F e n G (N ++ R)) : Nx F e n G H := nx_perm h.perm k
theorem nx_keep {b : Nat} {o : Obj} (ht : Take b o H R) (h : ∀ G', G.le G' → G'.get b = some o → Nx F e n G' R) : Nx F e n G H := nx_perm ht.perm (nx_freeze h)
inductive OwnAt (b off m : Nat) (r : List Value) : List (Nat × Obj) → Prop where
  | here {l : List Value} {T : TypeId} {H : List (Nat × Obj)} (hr : readN l off m = some r) : OwnAt b off m r ((b, row l T) :: H)
  | cons {x : Nat × Obj} {H : List (Nat × Obj)} (h : OwnAt b off m r H) : OwnAt b off m r (x :: H)
  | app {N H : List (Nat × Obj)} (h : OwnAt b off m r H) : OwnAt b off m r (N ++ H)
theorem OwnAt.rd {b off m : Nat} {r : List Value} {G : Gh} {H : List (Nat × Obj)} (h : OwnAt b off m r H) : Rd G H b off r ∧ r.length = m := by
  induction h with
  | here hr =>
    have := readN_lt hr
    subst this
    exact ⟨.own List.mem_cons_self hr, rfl⟩
  | cons _ ih =>
    refine ⟨?_, ih.2⟩
    cases ih.1 with
    | own hm hr => exact .own (List.mem_cons_of_mem _ hm) hr
    | still hr => exact .still hr
  | app _ ih =>
    refine ⟨?_, ih.2⟩
    cases ih.1 with
    | own hm hr => exact .own (List.mem_append_right _ hm) hr
    | still hr => exact .still hr
inductive UpdS (b off : Nat) (vs : List Value) : List (Nat × Obj) → List (Nat × Obj) → Prop where
  | here {l l' : List Value} {T : TypeId} {H : List (Nat × Obj)} (hr : setEs l off vs = some l') : UpdS b off vs ((b, row l T) :: H) ((b, row l' T) :: H)
  | cons {x : Nat × Obj} {H H' : List (Nat × Obj)} (h : UpdS b off vs H H') : UpdS b off vs (x :: H) (x :: H')
  | app {N H H' : List (Nat × Obj)} (h : UpdS b off vs H H') : UpdS b off vs (N ++ H) (N ++ H')
theorem UpdS.perm {b off : Nat} {vs : List Value} {H H' : List (Nat × Obj)} (h : UpdS b off vs H H') : ∃ l l' T R, setEs l off vs = some l' ∧ H.Perm ((b, row l T) :: R) ∧ H'.Perm ((b, row l' T) :: R) := by
  induction h with
  | here hr => exact ⟨_, _, _, _, hr, .refl _, .refl _⟩
  | cons _ ih =>
    obtain ⟨l, l', T, R, hr, h1, h2⟩ := ih
    exact ⟨l, l', T, _ :: R, hr, (h1.cons _).trans (.swap ..), (h2.cons _).trans (.swap ..)⟩
  | app _ ih =>
    rename_i N H H' h
    obtain ⟨l, l', T, R, hr, h1, h2⟩ := ih
    exact ⟨l, l', T, N ++ R, hr, (h1.append_left N).trans List.perm_middle, (h2.append_left N).trans List.perm_middle⟩
variable {d : Nat} {ty : TypeId} {pos : String} {af : Array Edge} {g : Option (Nat × Bool)}
theorem v_load_o {x : Operand} {T m : Nat} {b off : Nat} {r : List Value} [hT : AggT P T m] (hn : Nat.blt d n = true := by exact rfl) (hx : evE e x = some (.pointer (some ⟨b, off, none⟩)) := by exact rfl) (hr : OwnAt b off m r H := by repeat (first | exact OwnAt.here rfl | apply OwnAt.cons | apply OwnAt.app)) : OpV P ⟨some d, .load T x, ty, pos, af, g⟩ e n G H d (.agg ⟨r⟩) :=
  v_load hn hx (hr.rd (G := G)).1 (hr.rd (G := G)).2
theorem v_load1_o {x : Operand} {T : TypeId} {b off : Nat} {v : Value} [hT : OneT P T] (hn : Nat.blt d n = true := by exact rfl) (hx : evE e x = some (.pointer (some ⟨b, off, none⟩)) := by exact rfl) (hr : OwnAt b off 1 [v] H := by repeat (first | exact OwnAt.here rfl | apply OwnAt.cons | apply OwnAt.app)) : OpV P ⟨some d, .load T x, ty, pos, af, g⟩ e n G H d v :=
  v_load1 hn hx hr.rd.1
def Still (G : Gh) (b off : Nat) (r : List Value) : Prop := ∀ j v, r[j]? = some v → G.cell b (off + j) = some v
theorem Still.nil {b off : Nat} : Still G b off [] := fun j v hj => by simp at hj
theorem Still.cons {b off : Nat} {v : Value} {r : List Value} (h : G.cell b off = some v) (hr : Still G b (off + 1) r) : Still G b off (v :: r) := Rd.cons h hr
inductive StillN (G : Gh) (b : Nat) : Nat → Nat → List Value → Prop where
  | nil {off : Nat} : StillN G b off 0 []
  | cons {off m : Nat} {v : Value} {r : List Value} (h : G.cell b off = some v) (hr : StillN G b (off + 1) m r) : StillN G b off (m + 1) (v :: r)
theorem StillN.to {b off m : Nat} {r : List Value} (h : StillN G b off m r) : Still G b off r ∧ r.length = m := by
  induction h with
  | nil => exact ⟨Still.nil, rfl⟩
  | cons h _ ih => exact ⟨Still.cons h ih.1, by simp [ih.2]⟩
theorem v_load_s {x : Operand} {T m : Nat} {b off : Nat} {r : List Value} [hT : AggT P T m] (hn : Nat.blt d n = true := by exact rfl) (hx : evE e x = some (.pointer (some ⟨b, off, none⟩)) := by exact rfl) (hr : StillN G b off m r := by repeat (first | exact StillN.nil | (apply StillN.cons; assumption))) : OpV P ⟨some d, .load T x, ty, pos, af, g⟩ e n G H d (.agg ⟨r⟩) :=
  v_load hn hx (.still hr.to.1) hr.to.2
theorem v_load1_s {x : Operand} {T : TypeId} {b off : Nat} {v : Value} [hT : OneT P T] (hn : Nat.blt d n = true := by exact rfl) (hx : evE e x = some (.pointer (some ⟨b, off, none⟩)) := by exact rfl) (hr : G.cell b off = some v := by assumption) : OpV P ⟨some d, .load T x, ty, pos, af, g⟩ e n G H d v :=
  v_load1 hn hx (.still (Still.cons hr Still.nil))
class StoT (P : Program) (T : Nat) (m : outParam Nat) : Prop where
  size : ∀ W, (sizeOf T).run P W = .ok m W
instance {T : Nat} [h : OneT P T] : StoT P T 1 := ⟨h.size⟩
instance {T m : Nat} [h : AggT P T m] : StoT P T m := ⟨h.size⟩
theorem op_sto {T : Nat} {x y : Operand} {m b off : Nat} {u : Value} {vs : List Value} [hT : StoT P T m] (hx : evE e x = some (.pointer (some ⟨b, off, none⟩))) (hy : evE e y = some u) (hc : u.cells = ⟨vs⟩)
    (hm : Nat.beq vs.length m = true) (h1 : vs.all Value.oneCell' = true) (hu : UpdS b off vs H H') (h : Nx F e n G H') : OpNx P ⟨none, .store T x y, ty, pos, af, g⟩ Q F e n G H := by
  intro W hp a hf
  obtain ⟨l, l', T', R, hs, p1, p2⟩ := hu.perm
  obtain ⟨i1, i2⟩ := setEs_spec hs
  have hp1 := hp.perm p1
  have hb := hp1.mem b _ List.mem_cons_self
  have hm' : vs.length = m := Nat.eq_of_beq_eq_true hm
  have hrun := run_storeCells_at P b off T' vs 0 ⟨l⟩ W hb (by simpa using i1) (by simpa using h1)
  simp only [Nat.add_zero] at hrun
  unfold Oper.wp
  have he : (execOp a.eval ⟨none, .store T x y, ty, pos, af, g⟩).run P W = .ok .skip (W.setRow b ⟨l'⟩) := by
    simp only [execOp, hf.ev hx, hf.ev hy, Instr.storeAt, Instr.sureAddr, storeVar, hc, Sem.run_bind, Sem.run_pure, Result.andThen_ok, hT.size]
    simp only [i2]
    simp [hm', hrun, go_sem]
  rw [he]
  simp only [Oper.upon]
  have hp' : Hp G H' (W.setRow b ⟨l'⟩) := by
    refine (hp1.write (W' := W.setRow b ⟨l'⟩) (o' := row l' T') rfl rfl rfl (setRow_heap W b ⟨l⟩ ⟨l'⟩ T' (0, 0) hb) ?_).perm p2.symm
    intro k hk
    simp [World.setRow, Array.getElem?_modify, Ne.symm hk]
  exact h _ hp' _ hf
theorem nx_guard_dec {t : Nat} {p : Prop} [Decidable p] (hv : lk e t = some (.bool (decide p))) (h1 : p → Nx F ((t, .bool true) :: e) n G H) (h2 : ¬ p → Nx F ((t, .bool false) :: e) n G H) : Nx F e n G H :=
  nx_guard hv (fun h => h1 (of_decide_eq_true h)) (fun h => h2 (of_decide_eq_false h))
inductive Pick (e : Env) : List Nat → Env → Prop where
  | nil : Pick e [] []
  | cons {t : Nat} {v : Value} {ks : List Nat} {ev : Env} (h : lk e t = some v) (hr : Pick e ks ev) : Pick e (t :: ks) ((t, v) :: ev)
  | skip {t : Nat} {ks : List Nat} {ev : Env} (hr : Pick e ks ev) : Pick e (t :: ks) ev
theorem Pick.sub {ks : List Nat} {ev : Env} (h : Pick e ks ev) : SubE e ev := by
  induction h with
  | nil => trivial
  | cons h _ ih => exact ⟨h, ih⟩
  | skip _ ih => exact ih
theorem SubE.app : ∀ {a b : Env}, SubE e a → SubE e b → SubE e (a ++ b)
  | [], _, _, h => h
  | _ :: _, _, ⟨h1, h2⟩, h => ⟨h1, SubE.app h2 h⟩
theorem nx_loop_v {σ : Type} {c : Code} (ks : List Nat) {ev : Env} (V : σ → Env) (Γ : σ → Gh) (Θ : σ → List (Nat × Obj)) (I : σ → Prop) (μ : σ → Nat) (s₀ : σ) (hk : Pick e ks ev) (hs : SubE e (V s₀)) (h₀ : I s₀) (hG : Γ s₀ = G) (hH : Θ s₀ = H)
    (round : ∀ s, I s → ∀ K : Act → World → Prop, (∀ s', I s' → μ s' < μ s → Nx K (V s' ++ ev) n (Γ s') (Θ s')) → Nx (c.wp P (Exit.then K Q)) (V s ++ ev) n (Γ s) (Θ s)) : Nx ((Code.loop c).wp P Q) e n G H :=
  nx_loop (fun s => V s ++ ev) Γ Θ I μ s₀ h₀ (SubE.app hs hk.sub) hG hH round
theorem nx_join {σ : Type} {x y : Code} (ks : List Nat) {ev : Env} (V : σ → Env) (Γ : σ → Gh) (Θ : σ → List (Nat × Obj)) (I : σ → Prop) (hk : Pick e ks ev)
    (up : ∀ K : Act → World → Prop, (∀ s, I s → Nx K (V s ++ ev) n (Γ s) (Θ s)) → Nx (x.wp P (Exit.then K Q)) e n G H)
    (down : ∀ s, I s → Nx (y.wp P Q) (V s ++ ev) n (Γ s) (Θ s)) : Nx (x.wp P (Exit.then (y.wp P Q) Q)) e n G H := up _ down
theorem nx_join0 {σ : Type} {x y : Code} (ks : List Nat) {ev : Env} (V : σ → Env) (I : σ → Prop) (hk : Pick e ks ev)
    (up : ∀ K : Act → World → Prop, (∀ s, I s → Nx K (V s ++ ev) n G H) → Nx (x.wp P (Exit.then K Q)) e n G H)
    (down : ∀ s, I s → Nx (y.wp P Q) (V s ++ ev) n G H) : Nx (x.wp P (Exit.then (y.wp P Q) Q)) e n G H := up _ down
theorem cell_row {b o : Nat} {l : List Value} {T : TypeId} {v : Value} (h : G.get b = some (row l T)) (hv : l[o]? = some v) : G.cell b o = some v := by
  simp [Gh.cell, h, row, hv]
theorem nx_next (h : Nx F e' n G R) (hs : SubE e e') (hb : Suf R H) : Nx F e n G H := nx_back hb (nx_sub hs h)
theorem RetS.of {v : Value} (h : Suf R H) : ∀ W, Hp G H W → RetS G R v (.returned v) W := fun _ hp => ⟨rfl, h.hp hp⟩
theorem RetS.eq {v v' : Value} (hv : v = v') (h : Suf R H) : ∀ W, Hp G H W → RetS G R v' (.returned v) W := fun _ hp => ⟨by rw [hv], h.hp hp⟩
theorem Res.own {t T m b off : Nat} {r : List Value} [hT : AggT P T m] (h : lk e t = some (.pointer (some ⟨b, off, none⟩))) (hr : OwnAt b off m r H) : Res P e G H (.cell t T) (.agg ⟨r⟩) := .cell h hT (hr.rd (G := G)).1 (hr.rd (G := G)).2
theorem RetD.of {G0 : Gh} {v : Value} {Φ : Gh → Value → Prop} (hl : G0.le G) (h : Suf R H) (hv : Φ G v) : ∀ W, Hp G H W → RetD G0 R Φ (.returned v) W := fun _ hp => ⟨v, G, rfl, hl, hv, h.hp hp⟩
def fillL (pl : List (Nat × Nat)) : List Value → List (Nat × Value) → Option (List Value)
  | cells, [] => some cells
  | cells, (i, v) :: rest => match pl[i]? with
    | none => none
    | some (off, sz) => match Nat.beq v.cells.size sz with
      | false => none
      | true => match setEs cells off v.cells.toList with
        | none => none
        | some r => fillL pl r rest
theorem fold_setEs {off : Nat} : ∀ {vs : List Value} {k : Nat} {l r : List Value}, setEs l (off + k) vs = some r → (vs.zipIdx k).foldl (fun (cs : Array Value) x => cs.setIfInBounds (off + x.2) x.1) ⟨l⟩ = ⟨r⟩
  | [], k, l, r, h => by
    unfold setEs at h
    cases hb : Nat.ble (off + k) l.length with
    | false => simp [hb] at h
    | true => simp [hb] at h; subst h; rfl
  | v :: vs, k, l, r, h => by
    unfold setEs at h
    cases h1 : setE l (off + k) v with
    | none => simp [h1] at h
    | some l' =>
      simp [h1] at h
      obtain ⟨i1, i2⟩ := setE_spec h1
      subst i2
      have := fold_setEs (off := off) (vs := vs) (k := k + 1) (by rw [← Nat.add_assoc]; exact h)
      rw [List.zipIdx_cons, List.foldl_cons]
      rw [← this]
      congr 1
      simp [Array.setIfInBounds, i1]
theorem fill_of {pl : List (Nat × Nat)} {place : Nat → Option (Nat × Nat)} (hpl : ∀ i p, pl[i]? = some p → place i = some p) : ∀ {parts : List (Nat × Value)} {l r : List Value}, fillL pl l parts = some r → Instr.fill place ⟨l⟩ parts = some ⟨r⟩
  | [], l, r, h => by simp [fillL] at h; subst h; rfl
  | (i, v) :: rest, l, r, h => by
    unfold fillL at h
    cases h1 : pl[i]? with
    | none => simp [h1] at h
    | some p =>
      obtain ⟨off, sz⟩ := p
      simp only [h1] at h
      cases h2 : Nat.beq v.cells.size sz with
      | false => simp [h2] at h
      | true =>
        simp only [h2] at h
        cases h3 : setEs l off v.cells.toList with
        | none => simp [h3] at h
        | some r' =>
          simp only [h3] at h
          have hsz : v.cells.size = sz := Nat.eq_of_beq_eq_true h2
          obtain ⟨i1, _⟩ := setEs_spec h3
          have i1' : off + v.cells.size ≤ l.length := by simpa using i1
          have hfold : v.cells.zipIdx.foldl (fun cs (c, j) => cs.setIfInBounds (off + j) c) (⟨l⟩ : Array Value) = ⟨r'⟩ := by
            have := fold_setEs (k := 0) (by simpa using h3)
            rw [← this]
            rw [← Array.foldl_toList, Array.toList_zipIdx]
          unfold Instr.fill
          rw [hpl i _ h1]
          simp only [hsz, List.size_toArray]
          rw [if_neg (by simp only [ne_eq, not_true_eq_false, decide_false, Bool.false_or, decide_eq_true_eq]; omega)]
          rw [hfold]
          exact fill_of hpl h
class StructT (P : Program) (T : Nat) (pl : outParam (List (Nat × Nat))) : Prop where
  run : ∃ fields, P.underlying T = some (.struct fields) ∧ ∀ W, (fields.mapM (m := Sem) fun f => do pure (f.offset, ← sizeOf f.type)).run P W = .ok ⟨pl⟩ W
class FieldT (P : Program) (T k : Nat) (off m : outParam Nat) (agg : outParam Bool) : Prop where
  run : ∀ c W, (Instr.field T (.agg c) k).run P W = (do (if agg then pure (.agg (c.extract off (off + m))) else match c[off]? with | some v => pure v | none => stuck "part: no such cell") : Sem Value).run P W
def evP (e : Env) : List (Nat × Operand) → Option (List (Nat × Value))
  | [] => some []
  | (i, x) :: xs => match evE e x with
    | some v => match evP e xs with
      | some r => some ((i, v) :: r)
      | none => none
    | none => none
theorem Fits.evP {a : Act} (hf : Fits e n a) : ∀ {xs : List (Nat × Operand)} {vs : List (Nat × Value)}, Go.Proofs.YtjckojnlapchoaaGreat.evP e xs = some vs → xs.map (fun x => (x.1, a.eval x.2)) = vs
  | [], vs, h => by simp [Go.Proofs.YtjckojnlapchoaaGreat.evP] at h; subst h; rfl
  | (i, x) :: xs, vs, h => by
    unfold Go.Proofs.YtjckojnlapchoaaGreat.evP at h
    cases h1 : evE e x with
    | none => simp [h1] at h
    | some v =>
      cases h2 : Go.Proofs.YtjckojnlapchoaaGreat.evP e xs with
      | none => simp [h1, h2] at h
      | some r =>
        simp [h1, h2] at h
        subst h
        rw [List.map_cons, hf.ev h1, hf.evP h2]
theorem v_build {T : Nat} {xs : List (Nat × Operand)} {ps : List (Nat × Value)} {z r : List Value} {pl : List (Nat × Nat)} [hT : StructT P T pl] [hz : VarT P T z] (hn : Nat.blt d n = true) (hx : evP e xs = some ps) (hr : fillL pl z ps = some r) :
    OpV P ⟨some d, .build T xs.toArray, ty, pos, af, g⟩ e n G H d (.agg ⟨r⟩) :=
  ⟨rfl, hn, fun W _ a hf => by
    obtain ⟨fields, hu, hm⟩ := hT.run
    obtain ⟨v, hv, hvz⟩ := hz.zero W
    have hp : (xs.toArray.map fun (x : Nat × Operand) => (x.1, a.eval x.2)) = ps.toArray := by simp [hf.evP hx]
    have hfl := fill_of (place := fun i => (⟨pl⟩ : Array (Nat × Nat))[i]?) (fun i p h => by simpa using h) hr
    have hvz' : v.cells = ⟨z⟩ := by rw [← hvz]
    simp only [execOp, Instr.build, Sem.run_bind, hv, Result.andThen_ok, run_underlying hu, hm, hvz', hp]
    rw [hfl]
    simp [go_sem]⟩
class ArrT (P : Program) (T : Nat) (len sz : outParam Nat) : Prop where
  run : ∃ E, P.underlying T = some (.array len E) ∧ ∀ W, (sizeOf E).run P W = .ok sz W
def arrPl (sz : Nat) : Nat → Nat → List (Nat × Nat)
  | _, 0 => []
  | i, k + 1 => (i * sz, sz) :: arrPl sz (i + 1) k
theorem arrPl_get {sz : Nat} : ∀ {k i j : Nat} {p : Nat × Nat}, (arrPl sz i k)[j]? = some p → p = ((i + j) * sz, sz)
  | 0, i, j, p, h => by simp [arrPl] at h
  | k + 1, i, 0, p, h => by simp [arrPl] at h; subst h; simp
  | k + 1, i, j + 1, p, h => by
    simp only [arrPl, List.getElem?_cons_succ] at h
    rw [arrPl_get h]; congr 2; omega
theorem v_buildA {T len sz : Nat} {xs : List (Nat × Operand)} {ps : List (Nat × Value)} {z r : List Value} [hT : ArrT P T len sz] [hz : VarT P T z] (hn : Nat.blt d n = true) (hx : evP e xs = some ps) (hr : fillL (arrPl sz 0 len) z ps = some r) :
    OpV P ⟨some d, .build T xs.toArray, ty, pos, af, g⟩ e n G H d (.agg ⟨r⟩) :=
  ⟨rfl, hn, fun W _ a hf => by
    obtain ⟨E, hu, hs⟩ := hT.run
    obtain ⟨v, hv, hvz⟩ := hz.zero W
    have hp : (xs.toArray.map fun (x : Nat × Operand) => (x.1, a.eval x.2)) = ps.toArray := by simp [hf.evP hx]
    have hfl := fill_of (place := fun i => some (i * sz, sz)) (fun i p h => by have := arrPl_get h; simp at this; rw [this]) hr
    have hvz' : v.cells = ⟨z⟩ := by rw [← hvz]
    simp only [execOp, Instr.build, Sem.run_bind, hv, Result.andThen_ok, run_underlying hu, hs, hvz', hp]
    rw [hfl]
    simp [go_sem]⟩
theorem SliceT.size {t E sz bytes : Nat} {z : Value} (hT : SliceT P t E sz bytes z) (W : World) : (sizeOf E).run P W = .ok sz W := by
  obtain ⟨i, hi, hz, hs, _, hzs⟩ := hT.info
  simp [sizeOf, typeInfo, go_sem, hi, hs]
theorem SliceT.zero {t E sz bytes : Nat} {z : Value} (hT : SliceT P t E sz bytes z) (W : World) : (zeroValue E).run P W = .ok z W := by
  obtain ⟨i, hi, hz, hs, _, hzs⟩ := hT.info
  simp [zeroValue, typeInfo, go_sem, hi, hz]
theorem op_buildSlice {t E sz bytes len : Nat} {z : Value} {xs : List (Nat × Operand)} {ps : List (Nat × Value)} {r : List Value} [hT : SliceT P t E sz bytes z] (hn : Nat.blt d n = true) (hx : evP e xs = some ps)
    (hl : Nat.ble (len * sz) 16777216 = true) (hl0 : Nat.blt 0 len = true) (hr : fillL (arrPl sz 0 len) ((List.range (len * sz)).map fun i => z.cells.toList.getD (i % sz) undef) ps = some r)
    (h : ∀ b, Nx F ((d, .slice (some ⟨b, 0, none⟩) len len) :: e) n G ((b, row r E) :: H)) : OpNx P ⟨some d, .buildSlice t len xs.toArray, ty, pos, af, g⟩ Q F e n G H :=
  op_new rfl hn (fun b => .slice (some ⟨b, 0, none⟩) len len) (fun W _ a hf => by
    obtain ⟨i, _, _, _, _, hzs⟩ := hT.info
    have hp : (xs.toArray.map fun (x : Nat × Operand) => (x.1, a.eval x.2)) = ps.toArray := by simp [hf.evP hx]
    have hfl := fill_of (place := fun i => some (i * sz, sz)) (fun i p h => by have := arrPl_get h; simp at this; rw [this]) hr
    have hl' : ¬ len * sz > 2 ^ 24 := by have := Nat.le_of_ble_eq_true hl; simp; omega
    have hl0' : 0 < len := by simpa using hl0
    have hne : ¬ len * sz = 0 := by have := hT.pos; intro h0; rcases Nat.mul_eq_zero.1 h0 with h | h <;> omega
    have hcells : (Array.map (fun x => z.cells[x % z.cells.size]!) (Array.range (len * sz))) = ⟨(List.range (len * sz)).map fun i => z.cells.toList.getD (i % sz) undef⟩ := by
      apply Array.ext'
      simp only [Array.toList_map, Array.toList_range]
      apply List.map_congr_left
      intro i _
      have hlt : i % sz < z.cells.size := by rw [hzs]; exact Nat.mod_lt _ hT.pos
      rw [hzs]
      simp [hlt]
    simp only [execOp, Instr.buildSlice, Sem.run_bind, run_underlying hT.under, Result.andThen_ok, hT.size, hl', hne, hT.zero, Sem.run_pure, hp, if_false, hcells, hfl, newRow, newObj]
    rfl) h
end
end Go.Proofs.YtjckojnlapchoaaGreat
open Go Go.RowKit
namespace Go.Proofs.YtjckojnlapchoaaGreat
inductive Rows {α : Type} (T : Tell α) (G : Gh) : List Value → List α → Prop where
  | nil : Rows T G [] []
  | cons {cs xs : List Value} {a : α} {l : List α} (h : T.R G cs a) (hr : Rows T G xs l) : Rows T G (cs ++ xs) (a :: l)
theorem Rows.le {α : Type} {T : Tell α} {G G' : Gh} {xs : List Value} {l : List α} (h : Rows T G xs l) (e : G.le G') : Rows T G' xs l := by
  induction h with
  | nil => exact .nil
  | cons h _ ih => exact .cons (T.le e h) ih
theorem Rows.length {α : Type} {T : Tell α} {G : Gh} {xs : List Value} {l : List α} (h : Rows T G xs l) : xs.length = l.length * T.sz := by
  induction h with
  | nil => simp
  | cons h _ ih => simp [ih, T.len h, Nat.add_mul]; omega
theorem Rows.app {α : Type} {T : Tell α} {G : Gh} {xs ys : List Value} {l m : List α} (h : Rows T G xs l) (k : Rows T G ys m) : Rows T G (xs ++ ys) (l ++ m) := by
  induction h with
  | nil => exact k
  | cons h _ ih => rw [List.append_assoc]; exact .cons h ih
theorem Rows.one {α : Type} {T : Tell α} {G : Gh} {cs : List Value} {a : α} (h : T.R G cs a) : Rows T G cs [a] := by simpa using Rows.cons h .nil
theorem Rows.oneCell {α : Type} {T : Tell α} {G : Gh} {xs : List Value} {l : List α} (h : Rows T G xs l) : ∀ u ∈ xs, u.oneCell' = true := by
  induction h with
  | nil => simp
  | cons h _ ih =>
    intro u hu
    rcases List.mem_append.1 hu with hu | hu
    · exact T.one h u hu
    · exact ih u hu
theorem Rows.get {α : Type} {T : Tell α} {G : Gh} {xs : List Value} {l : List α} (h : Rows T G xs l) : ∀ {k : Nat} {a : α}, l[k]? = some a → ∃ cs, (∀ j v, cs[j]? = some v → xs[k * T.sz + j]? = some v) ∧ T.R G cs a := by
  induction h with
  | nil => intro k a hk; simp at hk
  | cons h _ ih =>
    rename_i cs xs a' l hr
    intro k a hk
    cases k with
    | zero =>
      simp at hk
      subst hk
      refine ⟨cs, fun j v hj => ?_, h⟩
      have := (List.getElem?_eq_some_iff.1 hj).1
      rw [Nat.zero_mul, Nat.zero_add, List.getElem?_append_left this]
      exact hj
    | succ k =>
      simp at hk
      obtain ⟨cs', h1, h2⟩ := ih hk
      refine ⟨cs', fun j v hj => ?_, h2⟩
      have hlen := T.len h
      rw [List.getElem?_append_right (by rw [hlen, Nat.add_mul]; omega), hlen, show (k + 1) * T.sz + j - T.sz = k * T.sz + j by rw [Nat.add_mul]; omega]
      exact h1 j v hj
theorem Rows.flat {α : Type} {n : Nat} {f : α → List Value} {h : ∀ a, (f a).length = n} {h1 : ∀ a, ∀ v ∈ f a, v.oneCell' = true} {G : Gh} : ∀ (l : List α), Rows (Tell.flat n f h h1) G (l.flatMap f) l
  | [] => .nil
  | a :: l => by rw [List.flatMap_cons]; exact .cons rfl (Rows.flat l)
inductive OwnS {α : Type} (T : Tell α) (E : Nat) (G : Gh) (l : List α) : Value → List (Nat × Obj) → Prop where
  | nil (h : l = []) : OwnS T E G l (.slice none 0 0) []
  | at_ {b c : Nat} {cur : Array Value} {xs : List Value} (hc : l.length ≤ c) (hm : c ≤ maxLen) (hs : cur.size = c * T.sz) (ht : cur.toList.take (l.length * T.sz) = xs) (hr : Rows T G xs l) :
      OwnS T E G l (.slice (some ⟨b, 0, none⟩) l.length c) [(b, .cells cur E (0, 0))]
theorem OwnS.le {α : Type} {T : Tell α} {E : Nat} {G G' : Gh} {l : List α} {v : Value} {N : List (Nat × Obj)} (h : OwnS T E G l v N) (e : G.le G') : OwnS T E G' l v N := by
  cases h with
  | nil h => exact .nil h
  | at_ hc hm hs ht hr => exact .at_ hc hm hs ht (hr.le e)
theorem OwnS.val {α : Type} {T : Tell α} {E : Nat} {G : Gh} {l : List α} {v : Value} {N : List (Nat × Obj)} (h : OwnS T E G l v N) : ∃ A c, v = .slice A l.length c ∧ l.length ≤ c := by
  cases h with
  | nil h => subst h; exact ⟨none, 0, rfl, Nat.le_refl _⟩
  | at_ hc hm hs ht hr => exact ⟨_, _, rfl, hc⟩
theorem OwnS.row {α : Type} {T : Tell α} {E : Nat} {G : Gh} {l : List α} {b n : Nat} {r : List Value} (hr : Rows T G r l) (hn : n = l.length) (hm : n ≤ maxLen) : OwnS T E G l (.slice (some ⟨b, 0, none⟩) n n) [(b, Go.Proofs.YtjckojnlapchoaaGreat.row r E)] := by
  subst hn
  have := hr.length
  exact .at_ (cur := ⟨r⟩) (Nat.le_refl _) hm (by simpa using this) (by simp [← this]) hr
section
variable {P : Program} {Q : Exit → Act → World → Prop} {F : Act → World → Prop} {e e' : Env} {n : Nat} {G G' : Gh} {H H' R : List (Nat × Obj)} {ops : Array Oper}
variable {d : Nat} {ty : TypeId} {pos : String} {af : Array Edge} {g : Option (Nat × Bool)}
theorem nx_still {α : Type} {T : Tell α} {E : Nat} {l : List α} {v : Value} {N : List (Nat × Obj)} (ho : OwnS T E G l v N) (hp : Pull N H R)
    (h : ∀ G' A c, G.le G' → v = .slice A l.length c → Sl T G' A l.length c l → Nx F e n G' R) : Nx F e n G H := by
  refine nx_pull hp ?_
  cases ho with
  | nil hl => subst hl; exact h G none 0 (Gh.le.refl G) rfl (Sl.nil T G)
  | at_ hc hm hs ht hr =>
    rename_i b c cur xs
    refine nx_freeze fun G' hl hg => ?_
    refine h G' (some ⟨b, 0, none⟩) c hl rfl ⟨rfl, hc, by simpa [maxLen] using hm, fun _ => ⟨b, 0, rfl, fun k x hk => ?_⟩⟩
    obtain ⟨cs, h1, h2⟩ := hr.get hk
    refine ⟨cs, fun j u hj => ?_, T.le hl h2⟩
    have h3 := h1 j u hj
    rw [← ht] at h3
    have h4 : k * T.sz + j < l.length * T.sz := by
      have := (List.getElem?_eq_some_iff.1 h3).1
      rw [List.length_take] at this
      omega
    rw [List.getElem?_take_of_lt h4] at h3
    simp [Gh.cell, hg]
    simpa using h3
structure Src {α : Type} (T : Tell α) (G : Gh) (H : List (Nat × Obj)) (v : Value) (l : List α) : Prop where
  ex : ∃ A c, v = .slice A l.length c ∧ (l ≠ [] → ∃ b o xs, A = some ⟨b, o, none⟩ ∧ Rows T G xs l ∧ Rd G H b o xs)
theorem Src.row {α : Type} {T : Tell α} {b m : Nat} {r : List Value} {E : Nat} {l : List α} (hm : (b, Go.Proofs.YtjckojnlapchoaaGreat.row r E) ∈ H) (hr : Rows T G r l) (hn : m = l.length) : Src T G H (.slice (some ⟨b, 0, none⟩) m m) l :=
  ⟨⟨_, _, by rw [hn], fun _ => ⟨b, 0, r, rfl, hr, .own hm (by
    have : ∀ (l : List Value) (p : List Value), readN (p ++ l) p.length l.length = some l := by
      intro l
      induction l with
      | nil => intro p; rfl
      | cons x l ih =>
        intro p
        have h1 := ih (p ++ [x])
        simp only [List.append_assoc, List.singleton_append, List.length_append, List.length_singleton] at h1
        simp [readN, h1]
    exact this r [])⟩⟩⟩
theorem Sl.rows {α : Type} {T : Tell α} {A : Option Addr} {n c : Nat} {l : List α} (h : Sl T G A n c l) (hl : l ≠ []) : ∃ b o xs, A = some ⟨b, o, none⟩ ∧ Rows T G xs l ∧ Still G b o xs := by
  have h0 : 0 < n := by rw [← h.length]; exact List.length_pos_iff.2 hl
  have hcap := h.cap
  obtain ⟨b, o, hA, hx⟩ := h.at_ (by omega)
  refine ⟨b, o, ?_⟩
  have : ∀ (l : List α) (o : Nat), (∀ k x, l[k]? = some x → ∃ cs, (∀ j v, cs[j]? = some v → G.cell b (o + k * T.sz + j) = some v) ∧ T.R G cs x) → ∃ xs, Rows T G xs l ∧ Still G b o xs := by
    intro l
    induction l with
    | nil => intro o _; exact ⟨[], .nil, Still.nil⟩
    | cons a l ih =>
      intro o hx
      obtain ⟨cs, h1, h2⟩ := hx 0 a rfl
      obtain ⟨xs, h3, h4⟩ := ih (o + T.sz) (fun k x hk => by
        obtain ⟨cs, i1, i2⟩ := hx (k + 1) x (by simpa using hk)
        exact ⟨cs, fun j v hj => by have := i1 j v hj; rw [Nat.add_mul] at this; rw [← this]; congr 1; omega, i2⟩)
      refine ⟨cs ++ xs, .cons h2 h3, fun j v hj => ?_⟩
      by_cases hlt : j < cs.length
      · rw [List.getElem?_append_left hlt] at hj
        have := h1 j v hj
        simpa using this
      · have hlen := T.len h2
        rw [List.getElem?_append_right (by omega)] at hj
        have := h4 _ v hj
        rw [← this]; congr 1; omega
  obtain ⟨xs, h1, h2⟩ := this l o hx
  exact ⟨xs, hA, h1, h2⟩
theorem Src.still {α : Type} {T : Tell α} {A : Option Addr} {n c : Nat} {l : List α} (h : Sl T G A n c l) : Src T G H (.slice A n c) l :=
  ⟨⟨A, c, by rw [h.length], fun hl => by
    obtain ⟨b, o, xs, hA, h1, h2⟩ := h.rows hl
    exact ⟨b, o, xs, hA, h1, .still h2⟩⟩⟩
theorem Hp.grown {N N' : List (Nat × Obj)} {W W' : World} {row : Option Nat} (h : Hp G (N ++ H) W) (hg : W.grownBy W' row) (hrow : ∀ k, row = some k → ∃ o, (k, o) ∈ N)
    (hnd : (N'.map (·.1)).Nodup) (hm : ∀ b o, (b, o) ∈ N' → W'.heap[b]? = some o ∧ ((∃ o', (b, o') ∈ N) ∨ W.heap.size ≤ b)) : Hp G (N' ++ H) W' := by
  have hlt : ∀ b o, (b, o) ∈ N ++ H → b < W.heap.size := fun b o hm => h.lt hm
  have hGlt : ∀ k o, G.get k = some o → k < W.heap.size := fun k o hk => (Array.getElem?_eq_some_iff.1 (h.imm k o hk)).1
  have hapN : ∀ b o o', (b, o) ∈ N → (b, o') ∈ H → False := by
    intro b o o' h1 h2
    have hn := h.nodup
    rw [List.map_append, List.nodup_append] at hn
    exact hn.2.2 b (List.mem_map.2 ⟨_, h1, rfl⟩) b (List.mem_map.2 ⟨_, h2, rfl⟩) rfl
  refine ⟨hg.os.trans h.os, hg.tape.trans h.tape, hg.output.trans h.output, ?_, ?_, ?_, ?_⟩
  · intro k o hk
    rw [hg.block k (hGlt k o hk) ?_]
    · exact h.imm k o hk
    · intro he
      obtain ⟨o', ho'⟩ := hrow k he.symm
      rw [h.apart k o' (List.mem_append_left _ ho')] at hk; cases hk
  · intro b o hbo
    rcases List.mem_append.1 hbo with hbo | hbo
    · exact (hm b o hbo).1
    · rw [hg.block b (hlt b o (List.mem_append_right _ hbo)) ?_]
      · exact h.mem b o (List.mem_append_right _ hbo)
      · intro he
        obtain ⟨o', ho'⟩ := hrow b he.symm
        exact hapN b o' o ho' hbo
  · intro b o hbo
    rcases List.mem_append.1 hbo with hbo | hbo
    · rcases (hm b o hbo).2 with ⟨o', ho'⟩ | hge
      · exact h.apart b o' (List.mem_append_left _ ho')
      · cases hx : G.get b with
        | none => rfl
        | some y => have := hGlt _ _ hx; omega
    · exact h.apart b o (List.mem_append_right _ hbo)
  · rw [List.map_append, List.nodup_append]
    have hn := h.nodup
    rw [List.map_append, List.nodup_append] at hn
    refine ⟨hnd, hn.2.1, ?_⟩
    intro b hb b' hb' he
    subst he
    obtain ⟨⟨b1, o1⟩, h1, rfl⟩ := List.mem_map.1 hb
    obtain ⟨⟨b2, o2⟩, h2, e2⟩ := List.mem_map.1 hb'
    simp only at e2
    subst e2
    rcases (hm b2 o1 h1).2 with ⟨o', ho'⟩ | hge
    · exact hapN b2 o' o2 ho' h2
    · have := hlt b2 o2 (List.mem_append_right _ h2); omega
theorem op_append {α : Type} {T : Tell α} {t E bytes : Nat} {z : Value} {x y : Operand} {u v : Value} {N : List (Nat × Obj)} {l m : List α} [hT : SliceT P t E T.sz bytes z] (hn : Nat.blt d n = true) (hx : evE e x = some u) (hy : evE e y = some v)
    (ho : OwnS T E G l u N) (hp : Pull N H R) (hs : Src T G H v m) (hb : (l.length + m.length) * bytes ≤ 140737488355328) (hml : l.length + m.length ≤ maxLen)
    (h : ∀ v' N', OwnS T E G (l ++ m) v' N' → Nx F ((d, v') :: e) n G (N' ++ R)) :
    OpNx P ⟨some d, .call { callee := .builtin .append, args := #[x, y], argTypes := #[t, t] }, ty, pos, af, g⟩ Q F e n G H := by
  intro W hpW a hf
  have hpp := hpW.perm hp.perm
  obtain ⟨A, c, rfl, hsrc⟩ := hs.ex
  have hres : ∃ v' W' N', (Builtin.append_ #[t, t] ty #[u, .slice A m.length c]).run P W = .ok v' W' ∧ OwnS T E G (l ++ m) v' N' ∧ Hp G (N' ++ R) W' := by
    by_cases hm0 : m = []
    · subst hm0
      rw [List.append_nil]
      refine ⟨u, W, N, ?_, ho, hpp⟩
      obtain ⟨A', c', rfl, hcl⟩ := ho.val
      unfold Builtin.append_
      simp [go_sem, run_underlying hT.under, hT.size, Builtin.lenOf, hcl]
      cases A <;> cases A' <;> simp [storeCells, go_sem, Builtin.firstCells, loadCells]
    · obtain ⟨b, o, xs, rfl, hrows, hrd⟩ := hsrc hm0
      obtain ⟨i, hi, hz, hsz, hby, hzs⟩ := hT.info
      have hown : ∃ ys, W.ownsRow 0 E T.sz u l.length ys ∧ Rows T G ys l ∧ (∀ k, u.ownBlock = some k → ∃ ob, N = [(k, ob)]) ∧ (u.ownBlock = none → N = []) := by
        cases ho with
        | nil hl => subst hl; exact ⟨[], World.ownsRow_nil .., .nil, (by intro k hk; cases hk), fun _ => rfl⟩
        | at_ hc hm hs ht hr =>
          rename_i b' c' cur ys
          refine ⟨ys, ⟨hr.length, .inr ⟨b', c', cur, rfl, Nat.zero_le _, hpp.mem _ _ (List.mem_append_left _ List.mem_cons_self), hc, hm, hs, ht⟩⟩, hr, ?_, ?_⟩
          · intro k hk; simp only [Value.ownBlock, Option.some.injEq] at hk; subst hk; exact ⟨_, rfl⟩
          · intro hk; simp [Value.ownBlock] at hk
      obtain ⟨ys, hown, hry, hbl, hbn⟩ := hown
      obtain ⟨v', W', hrun, hown', hg, hnil, hblk⟩ := run_append_own_at W 0 t ty E i z T.sz bytes hT.under hi hz hsz hby hzs hT.pos u l.length ys hown ⟨b, o, none⟩ m.length c xs hrows.length
        (fun j w hj => by rw [add_plain]; exact hrd.cells hpW.toMem j w hj) hrows.oneCell hml hb (Nat.zero_le _)
      have hmlen : 0 < m.length := List.length_pos_iff.2 hm0
      obtain ⟨hlen', hk⟩ := hown'
      rcases hk with ⟨_, h0⟩ | ⟨gb, cap, cur, rfl, _, hgb, hcap, hcm, hcs, hct⟩
      · omega
      · refine ⟨_, W', [(gb, .cells cur E (0, 0))], hrun, ?_, ?_⟩
        · rw [← List.length_append] at hcap hct ⊢
          exact .at_ hcap hcm hcs hct (hry.app hrows)
        · refine hpp.grown hg (fun k hk => ?_) (by simp) (fun b' o' hm' => ?_)
          · obtain ⟨ob, rfl⟩ := hbl k hk; exact ⟨ob, List.mem_cons_self⟩
          · obtain ⟨rfl, rfl⟩ := Prod.mk.inj (List.mem_singleton.1 hm')
            refine ⟨hgb, ?_⟩
            simp only [Value.ownBlock] at hblk
            rcases hblk with hblk | hblk
            · obtain ⟨ob, rfl⟩ := hbl _ hblk.symm; exact .inl ⟨ob, List.mem_cons_self⟩
            · right; simp at hblk; omega
  obtain ⟨v', W', N', hrun, ho', hp'⟩ := hres
  unfold Oper.wp
  have he : (execOp a.eval ⟨some d, .call { callee := .builtin .append, args := #[x, y], argTypes := #[t, t] }, ty, pos, af, g⟩).run P W = .ok (.value v') W' := by
    simp only [execOp, resolve, Sem.run_bind, Sem.run_pure, Result.andThen_ok, invoke, List.map_toArray, List.map_cons, List.map_nil, hf.ev hx, hf.ev hy, builtin]
    rw [hrun]
    rfl
  rw [he]
  simp only [Oper.upon]
  exact h v' N' ho' W' hp' _ (hf.put hn v')
end
end Go.Proofs.YtjckojnlapchoaaGreat
open Go Go.RowKit
namespace Go.Proofs.YtjckojnlapchoaaGreat
section
variable {P : Program} {Q : Exit → Act → World → Prop} {F : Act → World → Prop} {e e' : Env} {n : Nat} {G G' : Gh} {H H' R : List (Nat × Obj)} {ops : Array Oper}
variable {d : Nat} {ty : TypeId} {pos : String} {af : Array Edge} {g : Option (Nat × Bool)}
theorem v_makeFunc {fn : Fn} {fs cs : List Operand} {us vs : List Value} (hn : Nat.blt d n = true := by exact rfl) (hf : evL e fs = some us := by exact rfl) (hc : evL e cs = some vs := by exact rfl) : OpV P ⟨some d, .makeFunc fn fs.toArray cs.toArray, ty, pos, af, g⟩ e n G H d (.func fn ⟨us⟩ ⟨vs⟩) :=
  ⟨rfl, hn, fun W _ a h => by
    have h1 : fs.toArray.map a.eval = ⟨us⟩ := by simp [h.evL hf]
    have h2 : cs.toArray.map a.eval = ⟨vs⟩ := by simp [h.evL hc]
    simp only [execOp, Instr.makeFunc, h1, h2]
    simp [go_sem]⟩
theorem op_makeMap {t : Nat} (hn : Nat.blt d n = true) (h : ∀ b, Nx F ((d, .map (some b)) :: e) n G ((b, .map #[] 0) :: H)) : OpNx P ⟨some d, .makeMap t none, ty, pos, af, g⟩ Q F e n G H :=
  op_new rfl hn (fun b => .map (some b)) (fun W _ a _ => by
    simp only [execOp, Instr.makeMap, Option.map_none, newObj, Sem.run_bind, Sem.run_pure, Result.andThen_ok]
    rfl) h
section
variable {κ ν : Type} [DecidableEq κ] {kenc : κ → Value} {venc : ν → Value} {l : List (κ × ν)} {t K E : Nat} {z : Value} {m : Nat} {x y w : Operand}
theorem orZero_getD (dflt : ν) (hz : z = venc dflt) (o : Option ν) : orZero venc z o = venc (o.getD dflt) := by cases o <;> simp [orZero, hz]
theorem orZeroOk_getD (dflt : ν) (hz : z = venc dflt) (o : Option ν) : orZeroOk venc z o = .tuple #[venc (o.getD dflt), .bool o.isSome] := by cases o <;> simp [orZeroOk, hz]
def MapMem (kenc : κ → Value) (venc : ν → Value) (G : Gh) (H : List (Nat × Obj)) (m : Nat) (l : List (κ × ν)) : Prop := GMap kenc venc G m l ∨ ∃ o, (m, o) ∈ H ∧ MapObj kenc venc o l
omit [DecidableEq κ] in
theorem MapMem.is {W : World} (h : MapMem kenc venc G H m l) (hp : Mem G H W) : MapIs kenc venc W m l := by
  rcases h with ⟨o, h1, h2⟩ | ⟨o, h1, h2⟩
  · exact ⟨o, hp.imm _ _ h1, h2⟩
  · exact ⟨o, hp.mem _ _ h1, h2⟩
omit [DecidableEq κ] in
theorem MapMem.own {o : Obj} (ht : Take m o H R) (h : MapObj kenc venc o l) : MapMem kenc venc G H m l := .inr ⟨o, ht.mem, h⟩
theorem v_lookup_ok [hT : MapT P t K E z] (hk : KeyOk P K kenc) (k : κ) (dflt : ν) (hm : MapMem kenc venc G H m l) (hn : Nat.blt d n = true) (hx : evE e x = some (.map (some m))) (hy : evE e y = some (kenc k)) (hz : z = venc dflt) :
    OpV P ⟨some d, .lookup t x y true, ty, pos, af, g⟩ e n G H d (.tuple #[venc ((getK l k).getD dflt), .bool (getK l k).isSome]) :=
  ⟨rfl, hn, fun W hp a hf => by
    have := run_lookup_ok hk hT.under (hm.is hp) z (hT.zero W) k
    rw [orZeroOk_getD dflt hz] at this
    simp only [execOp, hf.ev hx, hf.ev hy]
    simp [go_sem, this]⟩
theorem v_lookup [hT : MapT P t K E z] (hk : KeyOk P K kenc) (k : κ) (dflt : ν) (hm : MapMem kenc venc G H m l) (hn : Nat.blt d n = true) (hx : evE e x = some (.map (some m))) (hy : evE e y = some (kenc k)) (hz : z = venc dflt) :
    OpV P ⟨some d, .lookup t x y false, ty, pos, af, g⟩ e n G H d (venc ((getK l k).getD dflt)) :=
  ⟨rfl, hn, fun W hp a hf => by
    have := run_lookup_plain hk hT.under (hm.is hp) z (hT.zero W) k
    rw [orZero_getD dflt hz] at this
    simp only [execOp, hf.ev hx, hf.ev hy]
    simp [go_sem, this]⟩
theorem op_mapUpdate [hT : MapT P t K E z] (hk : KeyOk P K kenc) (k : κ) (v : ν) {o : Obj} (ht : Take m o H R) (hm : MapObj kenc venc o l) (hx : evE e x = some (.map (some m))) (hy : evE e y = some (kenc k)) (hw : evE e w = some (venc v))
    (h : ∀ o', MapObj kenc venc o' (putK l k v) → Nx F e n G ((m, o') :: R)) : OpNx P ⟨none, .mapUpdate t x y w, ty, pos, af, g⟩ Q F e n G H := by
  intro W hp a hf
  have hp1 := hp.perm ht.perm
  obtain ⟨W', hrun, honly, o', ho', hm'⟩ := run_mapUpdate hk hT.under ⟨o, hp.mem _ _ ht.mem, hm⟩ k v
  unfold Oper.wp
  have he : (execOp a.eval ⟨none, .mapUpdate t x y w, ty, pos, af, g⟩).run P W = .ok .skip W' := by
    simp only [execOp, hf.ev hx, hf.ev hy, hf.ev hw]
    simp [go_sem, hrun]
  rw [he]
  simp only [Oper.upon]
  exact h o' hm' W' (hp1.write honly.os honly.tape honly.output ho' honly.block) _ hf
end
theorem v_field1 {x : Operand} {T k off m : Nat} {c : List Value} {v : Value} [hT : FieldT P T k off m false] (hn : Nat.blt d n = true) (hx : evE e x = some (.agg ⟨c⟩)) (hr : readN c off 1 = some [v]) : OpV P ⟨some d, .field T x k, ty, pos, af, g⟩ e n G H d v :=
  v_run1 (s := fun u => Instr.field T u k) rfl hn hx (fun _ => rfl) (fun W _ => by
    have := (readN_spec hr).2 0 v rfl
    rw [hT.run, if_neg (by simp)]
    simp at this
    simp [go_sem, this])
class IdxT (P : Program) (T : Nat) (len : outParam Nat) : Prop where
  run : ∃ E, P.underlying T = some (.array len E) ∧ (∀ W, (sizeOf E).run P W = .ok 1 W) ∧ ∀ W, (isAgg E).run P W = .ok false W
theorem v_index {x y : Operand} {T len i : Nat} {k : IntKind} {c : List Value} {v : Value} [hT : IdxT P T len] (hn : Nat.blt d n = true) (hx : evE e x = some (.agg ⟨c⟩)) (hy : evE e y = some (.int k (i : Int))) (hi : i < len) (hv : c[i]? = some v) : OpV P ⟨some d, .index T x y, ty, pos, af, g⟩ e n G H d v :=
  ⟨rfl, hn, fun W _ a hf => by
    obtain ⟨E, hu, hs, ha⟩ := hT.run
    simp only [execOp, hf.ev hx, hf.ev hy]
    simp [go_sem, Instr.index, asIntOf, run_underlying hu, hi, hs, part, ha, hv]⟩
theorem v_index_str {x y : Operand} {T i : Nat} {k : IntKind} {s : ByteArray} {b : UInt8} [hT : StrT P T] (hn : Nat.blt d n = true) (hx : evE e x = some (.string s)) (hy : evE e y = some (.int k (i : Int))) (hv : s[i]? = some b) : OpV P ⟨some d, .index T x y, ty, pos, af, g⟩ e n G H d (.int .u8 (b.toNat : Int)) :=
  ⟨rfl, hn, fun W _ a hf => by
    simp only [execOp, hf.ev hx, hf.ev hy]
    simp [go_sem, Instr.index, asIntOf, run_underlying hT.under, hv]⟩
class ArrA (P : Program) (T : Nat) (len sz : outParam Nat) : Prop where
  run : ∃ E, P.underlying T = some (.array len E) ∧ (∀ W, (sizeOf E).run P W = .ok sz W)
theorem v_indexAddrA {x y : Operand} {t len sz b o i : Nat} [hT : ArrA P t len sz] (hn : Nat.blt d n = true) (hx : evE e x = some (.pointer (some ⟨b, o, none⟩))) (hy : evE e y = some (.int .i64 (i : Int))) (h1 : i < len) :
    OpV P ⟨some d, .indexAddr t x y, ty, pos, af, g⟩ e n G H d (.pointer (some ⟨b, o + i * sz, none⟩)) :=
  ⟨rfl, hn, fun W _ a hf => by
    obtain ⟨E, hu, hs⟩ := hT.run
    simp only [execOp, hf.ev hx, hf.ev hy]
    simp [go_sem, Instr.indexAt, run_underlying hu, asIntOf, h1, hs, add_plain, Instr.sureAddr]⟩
section
variable {x y : Operand} {t E sz bytes len cap : Nat} {z : Value} {A : Option Addr}
def cutA (A : Option Addr) (k m : Nat) : Option Addr := A.map (·.add (k * m))
theorem v_slice_hi {h : Nat} [hT : SliceT P t E sz bytes z] (hn : Nat.blt d n = true) (hx : evE e x = some (.slice A len cap)) (hy : evE e y = some (.int .i64 (h : Int))) (hh : h ≤ cap) : OpV P ⟨some d, .slice t x none (some y) none, ty, pos, af, g⟩ e n G H d (.slice A h cap) :=
  ⟨rfl, hn, fun W _ a hf => by
    simp only [execOp, Option.map_some, Option.map_none, hf.ev hx, hf.ev hy]
    have hs : ∀ W, (sizeOf E).run P W = .ok sz W := fun W => hT.size W
    have hA' : A.map (fun p => p.add 0) = A := by cases A <;> simp [Addr.add]
    simp [go_sem, Instr.sliceAt, Instr.slice, run_underlying hT.under, Instr.sliceBounds, Instr.sliceBound, asIntOf, hh, hs, hA']⟩
theorem v_slice_lo {k : Nat} [hT : SliceT P t E sz bytes z] (hn : Nat.blt d n = true) (hx : evE e x = some (.slice A len cap)) (hy : evE e y = some (.int .i64 (k : Int))) (hk : k ≤ len) : OpV P ⟨some d, .slice t x (some y) none none, ty, pos, af, g⟩ e n G H d (.slice (if cap = k then A else cutA A k sz) (len - k) (cap - k)) :=
  ⟨rfl, hn, fun W _ a hf => by
    simp only [execOp, Option.map_some, Option.map_none, hf.ev hx, hf.ev hy]
    have hs : ∀ W, (sizeOf E).run P W = .ok sz W := fun W => hT.size W
    simp [go_sem, Instr.sliceAt, Instr.slice, run_underlying hT.under, Instr.sliceBounds, Instr.sliceBound, asIntOf, hk, hs, cutA]⟩
end
theorem Sl.take {α : Type} {T : Tell α} {A : Option Addr} {n c : Nat} {l : List α} (h : Sl T G A n c l) {k : Nat} (hk : k ≤ n) : Sl T G A k c (l.take k) := by
  refine ⟨by rw [List.length_take, h.length]; omega, by have := h.cap; omega, h.room, fun hc => ?_⟩
  obtain ⟨b, o, hA, hx⟩ := h.at_ hc
  refine ⟨b, o, hA, fun j x hj => hx j x ?_⟩
  rw [List.getElem?_take] at hj
  split at hj
  · exact hj
  · cases hj
theorem Sl.drop {α : Type} {T : Tell α} {A : Option Addr} {n c : Nat} {l : List α} (h : Sl T G A n c l) {k : Nat} (hk : k ≤ n) : Sl T G (if c = k then A else cutA A k T.sz) (n - k) (c - k) (l.drop k) := by
  have hcap := h.cap
  refine ⟨by rw [List.length_drop, h.length], by omega, by have := h.room; omega, fun hc => ?_⟩
  obtain ⟨b, o, hA, hx⟩ := h.at_ (by omega)
  refine ⟨b, o + k * T.sz, ?_, fun j x hj => ?_⟩
  · rw [if_neg (by omega), hA]; simp [cutA, add_plain]
  · rw [List.getElem?_drop] at hj
    obtain ⟨cs, h1, h2⟩ := hx _ x hj
    refine ⟨cs, fun i v hi => ?_, h2⟩
    have := h1 i v hi
    rw [← this]; congr 1; rw [Nat.add_mul]; omega
section
variable {x y : Operand} {T U : TypeId}
theorem v_eql_nil {A : Option Addr} {l c E sz bytes : Nat} {z : Value} [hT : SliceT P T E sz bytes z] (hn : Nat.blt d n = true := by exact rfl) (hx : evE e x = some (.slice A l c) := by exact rfl) (hy : evE e y = some (.slice none 0 0) := by exact rfl) : OpV P ⟨some d, .binOp .eql T x y U, ty, pos, af, g⟩ e n G H d (.bool A.isNone) :=
  ⟨rfl, hn, fun W _ a hf => by simp only [execOp, hf.ev hx, hf.ev hy]; have h1 := run_equal_slice_nil (P := P) W T E A l c hT.under; simp [go_sem, eqGuard, binOp, h1]⟩
class PtrT (P : Program) (T : Nat) : Prop where
  under : P.underlying T = some (.pointer (P.pointee T))
theorem v_eql_bool {u v : Bool} [hT : BoolT P T] (hn : Nat.blt d n = true := by exact rfl) (hx : evE e x = some (.bool u) := by exact rfl) (hy : evE e y = some (.bool v) := by exact rfl) : OpV P ⟨some d, .binOp .eql T x y U, ty, pos, af, g⟩ e n G H d (.bool (u == v)) :=
  ⟨rfl, hn, fun W _ a hf => by simp only [execOp, hf.ev hx, hf.ev hy]; have h1 : (Op.equal T (.bool u) (.bool v)).run P W = .ok (u == v) W := run_equalIn_bool' W 9999 T u v hT.under; simp [go_sem, eqGuard, binOp, h1]⟩
class EqT (P : Program) (T : Nat) {α : Type} [DecidableEq α] (f : α → List Value) : Prop where
  eq : ∀ a b W, (Op.equal T (.agg ⟨f a⟩) (.agg ⟨f b⟩)).run P W = .ok (decide (a = b)) W
  guard : P.eqGuardType P.depth T = false
theorem v_eql_T {α : Type} [DecidableEq α] (f : α → List Value) [hT : EqT P T f] (u v : α) (hn : Nat.blt d n = true) (hx : evE e x = some (.agg ⟨f u⟩)) (hy : evE e y = some (.agg ⟨f v⟩)) : OpV P ⟨some d, .binOp .eql T x y U, ty, pos, af, g⟩ e n G H d (.bool (decide (u = v))) :=
  ⟨rfl, hn, fun W _ a hf => by simp only [execOp, hf.ev hx, hf.ev hy]; simp [go_sem, eqGuard, binOp, hT.eq, hT.guard]⟩
theorem v_neq_T {α : Type} [DecidableEq α] (f : α → List Value) [hT : EqT P T f] (u v : α) (hn : Nat.blt d n = true) (hx : evE e x = some (.agg ⟨f u⟩)) (hy : evE e y = some (.agg ⟨f v⟩)) : OpV P ⟨some d, .binOp .neq T x y U, ty, pos, af, g⟩ e n G H d (.bool (decide (¬ u = v))) :=
  ⟨rfl, hn, fun W _ a hf => by simp only [execOp, hf.ev hx, hf.ev hy]; simp [go_sem, eqGuard, binOp, hT.eq, hT.guard]⟩
end
theorem v_max {x y : Operand} {k : IntKind} {i j : Int} {ats : Array TypeId} (hn : Nat.blt d n = true := by exact rfl) (hx : evE e x = some (.int k i) := by exact rfl) (hy : evE e y = some (.int k j) := by exact rfl) : OpV P ⟨some d, .call { callee := .builtin .max, args := #[x, y], argTypes := ats }, ty, pos, af, g⟩ e n G H d (.int k (max i j)) :=
  v_builtin (vs := [.int k i, .int k j]) hn (by simp [evL, hx, hy]) (fun W _ cs => by
    simp [builtin, Builtin.max_, Builtin.max2, go_sem]
    split <;> omega)
theorem v_min {x y : Operand} {k : IntKind} {i j : Int} {ats : Array TypeId} (hn : Nat.blt d n = true := by exact rfl) (hx : evE e x = some (.int k i) := by exact rfl) (hy : evE e y = some (.int k j) := by exact rfl) : OpV P ⟨some d, .call { callee := .builtin .min, args := #[x, y], argTypes := ats }, ty, pos, af, g⟩ e n G H d (.int k (min i j)) :=
  v_builtin (vs := [.int k i, .int k j]) hn (by simp [evL, hx, hy]) (fun W _ cs => by
    simp [builtin, Builtin.min_, Builtin.min2, go_sem]
    split <;> omega)
theorem op_buildSlice0 {t E sz bytes : Nat} {z : Value} [hT : SliceT P t E sz bytes z] (hn : Nat.blt d n = true)
    (h : ∀ b, Nx F ((d, .slice (some ⟨b, 0, none⟩) 0 0) :: e) n G ((b, row [] E) :: H)) : OpNx P ⟨some d, .buildSlice t 0 #[], ty, pos, af, g⟩ Q F e n G H :=
  op_new rfl hn (fun b => .slice (some ⟨b, 0, none⟩) 0 0) (fun W _ a hf => by
    simp only [execOp, Instr.buildSlice, Sem.run_bind, run_underlying hT.under, Result.andThen_ok, hT.size, newRow, newObj]
    simp [go_sem, Instr.fill, hT.size, newRow, newObj]
    rfl) h
theorem OwnS.row0 {α : Type} {T : Tell α} {E b : Nat} : OwnS T E G [] (.slice (some ⟨b, 0, none⟩) 0 0) [(b, Go.Proofs.YtjckojnlapchoaaGreat.row [] E)] := OwnS.row .nil rfl (Nat.zero_le _)
theorem RetS.toD {f : Nat} {args : Array Value} {W : World} {v : Value} (h : Calls P f args W (RetS G H v)) : Calls P f args W (RetD G H (fun _ u => u = v)) :=
  h.mono fun en W' hr => ⟨v, G, hr.1, Gh.le.refl _, rfl, hr.2⟩
theorem RetD.mono {f : Nat} {args : Array Value} {W : World} {Φ Ψ : Gh → Value → Prop} (h : Calls P f args W (RetD G H Φ)) (k : ∀ G' v, G.le G' → Φ G' v → Ψ G' v) : Calls P f args W (RetD G H Ψ) :=
  h.mono fun en W' ⟨v, G', h1, h2, h3, h4⟩ => ⟨v, G', h1, h2, k G' v h2 h3, h4⟩
def Does (P : Program) (fn : Nat) (args : List Value) (G : Gh) (H : List (Nat × Obj)) (v : Value) : Prop := ∀ G' H' W, G.le G' → Suf H H' → Hp G' H' W → Calls P fn ⟨args⟩ W (RetD G' H' (fun _ u => u = v))
def IsSl {α : Type} (T : Tell α) (l : List α) (G : Gh) (v : Value) : Prop := ∃ A c, v = .slice A l.length c ∧ Sl T G A l.length c l
theorem IsSl.of {α : Type} {T : Tell α} {l : List α} {A : Option Addr} {n c : Nat} (h : Sl T G A n c l) : IsSl T l G (.slice A n c) := by
  have := h.length; subst this; exact ⟨_, _, rfl, h⟩
theorem IsSl.nil {α : Type} (T : Tell α) : IsSl T [] G (.slice none 0 0) := ⟨_, _, rfl, Sl.nil T G⟩
theorem nx_row {α : Type} {T : Tell α} {l : List α} {b m E : Nat} {r : List Value} (ht : Take b (row r E) H R) (hr : Rows T G r l) (hn : m = l.length) (hm : m ≤ maxLen)
    (k : ∀ G', G.le G' → Sl T G' (some ⟨b, 0, none⟩) m m l → Nx F e n G' R) : Nx F e n G H := by
  subst hn
  refine nx_front ht ?_
  refine nx_still (N := [(b, row r E)]) (OwnS.row (b := b) (n := l.length) (E := E) hr rfl hm) Pull.here (fun G' A c hl hv hs => ?_)
  cases hv
  exact k G' hl hs
end
end Go.Proofs.YtjckojnlapchoaaGreat
open Go Go.RowKit
namespace Go.Proofs.YtjckojnlapchoaaGreat
open Go.Proofs
section
variable {P : Program} {Q : Exit → Act → World → Prop} {F : Act → World → Prop} {e e' : Env} {n m : Nat} {G G0 G' : Gh} {H H0 H' R : List (Nat × Obj)} {ops : Array Oper} {rest : List Oper} {o : Oper} {j t d i : Nat} {b : Bool} {v : Value} {listed : Array Bool} {r : Ord}
theorem nv (h : OpV P o e n G H d v) (k : Nx (wpList P ops Q rest) ((d, v) :: e) n G H) (hg : o.guard = none := by exact rfl) : Nx (wpList P ops Q (o :: rest)) e n G H := nx_v hg h k
theorem nr (h : OpV P o e n G H d v) (k : Nx (wpList P ops Q rest) ((d, v) :: e) n G H) (hg : o.guard = some (j, b) := by exact rfl) (ht : (ops[j]?).bind (·.dst) = some t := by exact rfl) (hv : lk e t = some (.bool b) := by exact rfl) : Nx (wpList P ops Q (o :: rest)) e n G H := nx_v_run hg ht hv h k
theorem nk (hg : o.guard = some (j, b) := by exact rfl) (ht : (ops[j]?).bind (·.dst) = some t := by exact rfl) (hv : lk e t = some (.bool (!b)) := by exact rfl) (hd : o.dst = some d := by exact rfl) (hn : Nat.blt d n = true := by exact rfl) (k : Nx (wpList P ops Q rest) ((d, undef) :: e) n G H) : Nx (wpList P ops Q (o :: rest)) e n G H := nx_op_skip hg ht hv hd hn k
theorem nu (hg : o.guard = some (j, b) := by exact rfl) (ht : (ops[j]?).bind (·.dst) = some t := by exact rfl) (hv : lk e t = some undef := by exact rfl) (hd : o.dst = some d := by exact rfl) (hn : Nat.blt d n = true := by exact rfl) (k : Nx (wpList P ops Q rest) ((d, undef) :: e) n G H) : Nx (wpList P ops Q (o :: rest)) e n G H := nx_op_skip_u hg ht hv hd hn k
theorem st {T : Nat} {x y : Operand} {m b off : Nat} {u : Value} {vs : List Value} {ty : TypeId} {pos : String} {af : Array Edge} [hT : StoT P T m] (hx : evE e x = some (.pointer (some ⟨b, off, none⟩)) := by exact rfl) (hy : evE e y = some u := by exact rfl) (hc : u.cells = ⟨vs⟩ := by exact rfl) (hm : Nat.beq vs.length m = true := by exact rfl) (h1 : vs.all Value.oneCell' = true := by exact rfl) (hu : UpdS b off vs H H' := by repeat (first | exact UpdS.here rfl | apply UpdS.cons | apply UpdS.app)) (k : Nx (wpList P ops Q rest) e n G H') : Nx (wpList P ops Q (⟨none, .store T x y, ty, pos, af, none⟩ :: rest)) e n G H := nx_op rfl (op_sto hx hy hc hm h1 hu k)
theorem nf {b : Nat} {o : Obj} (h : Take b o H R := by repeat (first | exact Take.here | apply Take.cons | apply Take.app)) (k : Nx F e n G ((b, o) :: R)) : Nx F e n G H := nx_front h k
theorem np {N : List (Nat × Obj)} (h : Pull N H R := by repeat (first | exact Pull.here | apply Pull.cons | apply Pull.app)) (k : Nx F e n G (N ++ R)) : Nx F e n G H := nx_pull h k
theorem rt {Φ : Gh → Value → Prop} (hl : G0.le G) (hv : Φ G v) (h : Suf R H := by repeat (first | exact Suf.refl | apply Suf.keep | apply Suf.cons | apply Suf.keepN | apply Suf.app)) : ∀ W, Hp G H W → RetD G0 R Φ (.returned v) W := RetD.of hl h hv
theorem rs {v' : Value} (hv : v = v') (h : Suf R H := by repeat (first | exact Suf.refl | apply Suf.keep | apply Suf.cons | apply Suf.keepN | apply Suf.app)) : ∀ W, Hp G H W → RetS G R v' (.returned v) W := RetS.eq hv h
theorem nn (h : Nx F e' n G R) (hs : SubE e e' := by repeat (first | exact trivial | refine ⟨rfl, ?_⟩)) (hb : Suf R H := by repeat (first | exact Suf.refl | apply Suf.keep | apply Suf.cons | apply Suf.keepN | apply Suf.app)) : Nx F e n G H := nx_next h hs hb
theorem ro {T b off : Nat} {r : List Value} [hT : AggT P T m] (h : lk e t = some (.pointer (some ⟨b, off, none⟩)) := by exact rfl) (hr : OwnAt b off m r H := by repeat (first | exact OwnAt.here rfl | apply OwnAt.cons | apply OwnAt.app)) : Res P e G H (.cell t T) (.agg ⟨r⟩) := Res.own h hr
theorem ic : Inc G H G H := Inc.refl _ _
theorem dk {ops : Array Oper} (hi : ops[i]? = some o := by exact rfl) (hg : o.guard = some (j, b) := by exact rfl) (ht : (ops[j]?).bind (·.dst) = some t := by exact rfl) (hv : lk e t = some (.bool (!b)) := by exact rfl) (hd : o.dst = some d := by exact rfl) (hn : Nat.blt d n = true := by exact rfl) (k : Nx (Dr P ops Q G H m r (listed.setIfInBounds i true)) ((d, undef) :: e) n G H) : Nx (Dr P ops Q G H m (.q i r) listed) e n G H := dr_q_skip hi hg ht hv hd hn ic k
end
end Go.Proofs.YtjckojnlapchoaaGreat
open Go Go.RowKit
namespace Go.Proofs.YtjckojnlapchoaaGreat
structure Born (es : Array MapEntry) (clk : Nat) : Prop where
  lt : ∀ (i : Nat) (e : MapEntry), es[i]? = some e → e.born < clk
  one : ∀ (i j : Nat) (e f : MapEntry), es[i]? = some e → es[j]? = some f → e.born = f.born → i = j
def MapB {κ ν : Type} (kenc : κ → Value) (venc : ν → Value) (o : Obj) (l : List (κ × ν)) : Prop :=
  ∃ es clk, o = .map es clk ∧ Born es clk ∧ es.toList.map (fun e => (e.key, e.val)) = l.map (fun kv => (kenc kv.1, venc kv.2))
theorem MapB.obj {κ ν : Type} {kenc : κ → Value} {venc : ν → Value} {o : Obj} {l : List (κ × ν)} (h : MapB kenc venc o l) : MapObj kenc venc o l := by
  obtain ⟨es, clk, h1, _, h2⟩ := h; exact ⟨es, clk, h1, h2⟩
theorem MapB.new {κ ν : Type} (kenc : κ → Value) (venc : ν → Value) (clk : Nat) : MapB kenc venc (.map #[] clk) ([] : List (κ × ν)) := ⟨#[], clk, rfl, ⟨fun i e h => by simp at h, fun i j e f h => by simp at h⟩, rfl⟩
def MapE {κ ν : Type} [DecidableEq κ] (kenc : κ → Value) (venc : ν → Value) (o : Obj) (l : List (κ × ν)) (k : κ) (st : Nat) : Prop :=
  ∃ es clk i e, o = .map es clk ∧ Born es clk ∧ es[i]? = some e ∧ e.born = st ∧ ∀ w, ((es.modify i fun e => { e with val := venc w }).toList.map (fun e => (e.key, e.val))) = (putK l k w).map (fun kv => (kenc kv.1, venc kv.2))
theorem Born.mod {es : Array MapEntry} {clk : Nat} (h : Born es clk) (i : Nat) (f : MapEntry → MapEntry) (hf : ∀ e, (f e).born = e.born) : Born (es.modify i f) clk := by
  have key : ∀ (j : Nat) (e : MapEntry), (es.modify i f)[j]? = some e → ∃ e', es[j]? = some e' ∧ e.born = e'.born := by
    intro j e he
    rw [Array.getElem?_modify] at he
    split at he
    · cases hj : es[j]? with
      | none => simp [hj] at he
      | some e' => simp [hj] at he; exact ⟨e', rfl, by rw [← he, hf]⟩
    · exact ⟨e, he, rfl⟩
  refine ⟨fun j e he => ?_, fun j j' e e' he he' hb => ?_⟩
  · obtain ⟨e', h1, h2⟩ := key j e he; rw [h2]; exact h.lt _ _ h1
  · obtain ⟨u, h1, h2⟩ := key j e he
    obtain ⟨v, h3, h4⟩ := key j' e' he'
    exact h.one _ _ _ _ h1 h3 (by rw [← h2, ← h4, hb])
theorem Born.push {es : Array MapEntry} {clk : Nat} (h : Born es clk) (k v : Value) : Born (es.push { key := k, val := v, born := clk }) (clk + 1) := by
  have key : ∀ (j : Nat) (e : MapEntry), (es.push { key := k, val := v, born := clk })[j]? = some e → (es[j]? = some e) ∨ (j = es.size ∧ e.born = clk) := by
    intro j e he
    rw [Array.getElem?_push] at he
    split at he
    · rename_i hj; cases he; exact .inr ⟨hj, rfl⟩
    · exact .inl he
  refine ⟨fun j e he => ?_, fun j j' e e' he he' hb => ?_⟩
  · rcases key j e he with h1 | ⟨_, h1⟩
    · have := h.lt _ _ h1; omega
    · omega
  · rcases key j e he with h1 | ⟨h1, h2⟩ <;> rcases key j' e' he' with h3 | ⟨h3, h4⟩
    · exact h.one _ _ _ _ h1 h3 hb
    · have := h.lt _ _ h1; omega
    · have := h.lt _ _ h3; omega
    · omega
theorem Born.find {es : Array MapEntry} {clk i st : Nat} {e : MapEntry} (h : Born es clk) (hi : es[i]? = some e) (hs : e.born = st) : es.findIdx? (fun e => (e.born : Int) == (st : Int)) = some i := by
  rw [Array.findIdx?_eq_some_iff_getElem]
  obtain ⟨hlt, he⟩ := Array.getElem?_eq_some_iff.1 hi
  refine ⟨hlt, by simp [he, hs], fun j hj => ?_⟩
  have hj' : j < es.size := by omega
  simp only [beq_iff_eq, Int.natCast_inj]
  intro hb
  have := h.one j i es[j] e (Array.getElem?_eq_getElem hj') hi (by rw [hb, hs])
  omega
section
variable {P : Program} {Q : Exit → Act → World → Prop} {F : Act → World → Prop} {e e' : Env} {n : Nat} {G G' : Gh} {H H' R : List (Nat × Obj)} {ops : Array Oper}
variable {d : Nat} {ty : TypeId} {pos : String} {af : Array Edge} {g : Option (Nat × Bool)}
variable {κ ν : Type} [DecidableEq κ] {kenc : κ → Value} {venc : ν → Value} {l : List (κ × ν)} {t K E : Nat} {z : Value} {m : Nat} {x y w : Operand}
theorem run_mapEntry (hk : KeyOk P K kenc) (hT : P.underlying t = some (.map K E)) {W : World} {o : Obj} (h1 : W.heap[m]? = some o) (h : MapB kenc venc o l) (k : κ) (dflt : ν) (hz : (zeroValue E).run P W = .ok (venc dflt) W) :
    ∃ W' u, ∃ st : Nat, ∃ o', (Instr.mapEntry t (.map (some m)) (kenc k)).run P W = .ok (.tuple #[u, .int .i64 (st : Int)]) W' ∧ Only m W W' ∧ W'.heap[m]? = some o' ∧ MapE kenc venc o' l k st := by
  obtain ⟨es, clk, rfl, hb, h2⟩ := h
  have hf := hk.find W k es.toList l h2
  have hc := hk.check false W k
  have hm : m < W.heap.size := (Array.getElem?_eq_some_iff.1 h1).1
  cases hfk : findK l k 0 with
  | none =>
    refine ⟨setBlk W m (.map (es.push { key := kenc k, val := venc dflt, born := clk }) (clk + 1)), venc dflt, clk, _, ?_, Only.set _ _ _, (by unfold setBlk; simp only [Array.getElem?_setIfInBounds_self_of_lt hm]; rfl), ?_⟩
    · unfold Instr.mapEntry setBlk
      simp [go_sem, run_underlying hT, run_getObj_map h1, run_setObj_map h1, hc, hf, hfk, hz, goInt]
    · refine ⟨_, _, es.size, { key := kenc k, val := venc dflt, born := clk }, rfl, hb.push _ _, by simp, rfl, fun w => ?_⟩
      rw [findK_put_none l k w 0 hfk, Array.toList_modify]
      have : (es.push { key := kenc k, val := venc dflt, born := clk }).toList = es.toList ++ [{ key := kenc k, val := venc dflt, born := clk }] := by simp
      rw [this]
      have h4 : (es.toList ++ [({ key := kenc k, val := venc dflt, born := clk } : MapEntry)]).modify es.size (fun e => { e with val := venc w }) = es.toList ++ [({ key := kenc k, val := venc w, born := clk } : MapEntry)] := by
        apply List.ext_getElem?
        intro j
        rw [List.getElem?_modify]
        by_cases hj : es.size = j
        · subst hj
          simp
        · simp only [hj, if_false]
          by_cases hlt : j < es.toList.length
          · rw [List.getElem?_append_left hlt, List.getElem?_append_left hlt]; simp
          · have hne : es.size ≠ j := hj
            have hlen : es.toList.length = es.size := by simp
            rw [List.getElem?_append_right (by omega), List.getElem?_append_right (by omega)]
            have : 0 < j - es.toList.length := by omega
            rw [List.getElem?_eq_none (by simp; omega), List.getElem?_eq_none (by simp; omega)]; rfl
      rw [h4, List.map_append, List.map_append, h2]
      rfl
  | some q =>
    obtain ⟨j, u⟩ := q
    obtain ⟨_, _, h4, h5⟩ := findK_put_some l k u 0 j u hfk
    simp only [Nat.sub_zero] at h4 h5
    have hlen : es.size = l.length := by have := congrArg List.length h2; simpa using this
    have hj : j < es.size := by omega
    have hkey : (es[j]).key = kenc k := by
      have : (es.toList.map (fun e => (e.key, e.val)))[j]? = (l.map (fun kv => (kenc kv.1, venc kv.2)))[j]? := by rw [h2]
      simp [List.getElem?_eq_getElem h4, h5, hj] at this
      exact this.1
    refine ⟨setBlk W m (.map (es.modify j fun e => { e with key := kenc k }) clk), venc u, (es[j]).born, _, ?_, Only.set _ _ _, (by unfold setBlk; simp only [Array.getElem?_setIfInBounds_self_of_lt hm]; rfl), ?_⟩
    · unfold Instr.mapEntry setBlk
      simp [go_sem, run_underlying hT, run_getObj_map h1, run_setObj_map h1, hc, hf, hfk, Instr.keyThatStays, hkey, hj, hk.bits, goInt]
    · refine ⟨_, _, j, { es[j] with key := kenc k }, rfl, hb.mod _ _ (fun _ => rfl), by rw [Array.getElem?_modify, if_pos rfl, Array.getElem?_eq_getElem hj]; rfl, rfl, fun w => ?_⟩
      obtain ⟨_, h3, _, _⟩ := findK_put_some l k w 0 j u hfk
      simp only [Nat.sub_zero] at h3
      rw [h3, Array.toList_modify, Array.toList_modify]
      apply List.ext_getElem?
      intro i
      have := congrArg (fun z => z[i]?) h2
      simp only [List.getElem?_map] at this
      simp only [List.getElem?_map, List.getElem?_modify]
      by_cases hij : j = i
      · subst hij
        simp [h4, hj]
      · simp only [hij, if_false, Option.map_map]
        simpa using this
theorem op_mapEntry [hT : MapT P t K E z] (hk : KeyOk P K kenc) (k : κ) (dflt : ν) {o : Obj} (ht : Take m o H R) (hm : MapB kenc venc o l) (hn : Nat.blt d n = true) (hx : evE e x = some (.map (some m))) (hy : evE e y = some (kenc k)) (hz : z = venc dflt)
    (h : ∀ u, ∀ st : Nat, ∀ o', MapE kenc venc o' l k st → Nx F ((d, .tuple #[u, .int .i64 (st : Int)]) :: e) n G ((m, o') :: R)) : OpNx P ⟨some d, .mapEntry t x y, ty, pos, af, g⟩ Q F e n G H := by
  intro W hp a hf
  have hp1 := hp.perm ht.perm
  obtain ⟨W', u, st, o', hrun, honly, ho', hm'⟩ := run_mapEntry hk hT.under (hp.mem _ _ ht.mem) hm k dflt (by rw [← hz]; exact hT.zero W)
  unfold Oper.wp
  have he : (execOp a.eval ⟨some d, .mapEntry t x y, ty, pos, af, g⟩).run P W = .ok (.value (.tuple #[u, .int .i64 (st : Int)])) W' := by
    simp only [execOp, hf.ev hx, hf.ev hy]
    simp [go_sem, hrun]
  rw [he]
  simp only [Oper.upon]
  exact h u st o' hm' W' (hp1.write honly.os honly.tape honly.output ho' honly.block) _ (hf.put hn _)
theorem op_entryStore (k : κ) (v : ν) {o : Obj} {st : Nat} (ht : Take m o H R) (hm : MapE kenc venc o l k st) (hx : evE e x = some (.map (some m))) (hy : evE e y = some (.int .i64 (st : Int))) (hw : evE e w = some (venc v))
    (h : ∀ o', MapB kenc venc o' (putK l k v) → Nx F e n G ((m, o') :: R)) : OpNx P ⟨none, .entryStore t x y w, ty, pos, af, g⟩ Q F e n G H := by
  intro W hp a hf
  have hp1 := hp.perm ht.perm
  obtain ⟨es, clk, i, en, rfl, hb, hi, hs, hv⟩ := hm
  have h1 := hp.mem _ _ ht.mem
  have hlt : m < W.heap.size := (Array.getElem?_eq_some_iff.1 h1).1
  unfold Oper.wp
  have he : (execOp a.eval ⟨none, .entryStore t x y w, ty, pos, af, g⟩).run P W = .ok .skip (setBlk W m (.map (es.modify i fun e => { e with val := venc v }) clk)) := by
    simp only [execOp, hf.ev hx, hf.ev hy, hf.ev hw]
    unfold Instr.entryStore setBlk
    simp [go_sem, run_getObj_map h1, run_setObj_map h1, asInt, hb.find hi hs]
  rw [he]
  simp only [Oper.upon]
  have honly := Only.set W m (.map (es.modify i fun e => { e with val := venc v }) clk)
  exact h (.map (es.modify i fun e => { e with val := venc v }) clk) ⟨_, _, rfl, hb.mod _ _ (fun _ => rfl), hv v⟩ _ (hp1.write honly.os honly.tape honly.output (by unfold setBlk; simp only [Array.getElem?_setIfInBounds_self_of_lt hlt]) honly.block) _ hf
end
end Go.Proofs.YtjckojnlapchoaaGreat
open Go Go.RowKit
namespace Go.Proofs.YtjckojnlapchoaaGreat
theorem OwnS.get {α : Type} {T : Tell α} {E : Nat} {G : Gh} {l : List α} {v : Value} {N : List (Nat × Obj)} (h : OwnS T E G l v N) {k : Nat} {x : α} (hk : l[k]? = some x) :
    ∃ b c cs r, v = .slice (some ⟨b, 0, none⟩) l.length c ∧ N = [(b, Go.Proofs.YtjckojnlapchoaaGreat.row r E)] ∧ T.R G cs x ∧ cs.length = T.sz ∧ (k + 1) * T.sz ≤ r.length ∧ ∀ j u, cs[j]? = some u → r[k * T.sz + j]? = some u := by
  cases h with
  | nil h => subst h; simp at hk
  | at_ hc hm hs ht hr =>
    rename_i b c cur xs
    obtain ⟨cs, h1, h2⟩ := hr.get hk
    have hlt := (List.getElem?_eq_some_iff.1 hk).1
    refine ⟨b, c, cs, cur.toList, rfl, rfl, h2, T.len h2, ?_, fun j u hj => ?_⟩
    · have : (k + 1) * T.sz ≤ c * T.sz := Nat.mul_le_mul_right _ (by omega)
      simp [hs]; exact this
    · have h3 := h1 j u hj
      rw [← ht] at h3
      have h4 : k * T.sz + j < l.length * T.sz := by
        have := (List.getElem?_eq_some_iff.1 h3).1
        rw [List.length_take] at this
        omega
      rw [List.getElem?_take_of_lt h4] at h3
      exact h3
theorem readN_of {l r : List Value} : ∀ {off : Nat}, (∀ j u, r[j]? = some u → l[off + j]? = some u) → readN l off r.length = some r := by
  induction r with
  | nil => intro off _; rfl
  | cons v r ih =>
    intro off h
    have h0 := h 0 v rfl
    have hr := ih (off := off + 1) (fun j u hj => by have := h (j + 1) u (by simpa using hj); rw [← this]; congr 1; omega)
    simp only [Nat.add_zero] at h0
    simp [readN, h0, hr]
theorem OwnAt.of {b off : Nat} {l r : List Value} {E : Nat} {H : List (Nat × Obj)} {o : Nat} (h : ∀ j u, r[j]? = some u → l[off + j]? = some u) (ho : o = off) : OwnAt b o r.length r ((b, row l E) :: H) := by
  subst ho; exact .here (readN_of h)
theorem Rows.set {α : Type} {T : Tell α} {G : Gh} {xs : List Value} {l : List α} (h : Rows T G xs l) : ∀ {k : Nat} {x : α} {cs : List Value}, k < l.length → T.R G cs x → Rows T G (xs.take (k * T.sz) ++ cs ++ xs.drop ((k + 1) * T.sz)) (l.set k x) := by
  induction h with
  | nil => intro k x cs hk; simp at hk
  | cons h hr ih =>
    rename_i c0 xs a l
    intro k x cs hk hx
    have h0 := T.len h
    cases k with
    | zero =>
      simp only [Nat.zero_mul, List.take_zero, List.nil_append, List.set_cons_zero, Nat.zero_add, Nat.one_mul]
      rw [← h0, List.drop_left]
      exact .cons hx hr
    | succ k =>
      simp only [List.set_cons_succ]
      have e1 : (k + 1) * T.sz = c0.length + k * T.sz := by rw [h0, Nat.add_mul]; omega
      have e2 : (k + 1 + 1) * T.sz = c0.length + (k + 1) * T.sz := by rw [h0, Nat.add_mul (k + 1)]; omega
      have f1 : (c0 ++ xs).take ((k + 1) * T.sz) = c0 ++ xs.take (k * T.sz) := by rw [e1, List.take_length_add_append]
      have f2 : (c0 ++ xs).drop ((k + 1 + 1) * T.sz) = xs.drop ((k + 1) * T.sz) := by rw [e2, List.drop_length_add_append]
      rw [f1, f2, List.append_assoc, List.append_assoc]
      have := ih (k := k) (x := x) (cs := cs) (by simpa using hk) hx
      rw [List.append_assoc] at this
      exact .cons h this
theorem OwnS.set {α : Type} {T : Tell α} {E : Nat} {G : Gh} {l : List α} {b n c : Nat} {r r' : List Value} (h : OwnS T E G l (.slice (some ⟨b, 0, none⟩) n c) [(b, Go.Proofs.YtjckojnlapchoaaGreat.row r E)]) {k : Nat} {x : α} {cs : List Value} (hk : k < l.length) (hx : T.R G cs x)
    (hr : r' = r.take (k * T.sz) ++ cs ++ r.drop ((k + 1) * T.sz)) : OwnS T E G (l.set k x) (.slice (some ⟨b, 0, none⟩) n c) [(b, Go.Proofs.YtjckojnlapchoaaGreat.row r' E)] := by
  have hcs := T.len hx
  generalize hv : (Value.slice (some ⟨b, 0, none⟩) n c) = v at h
  generalize hN : [(b, Go.Proofs.YtjckojnlapchoaaGreat.row r E)] = N at h
  cases h with
  | nil h => cases hv
  | at_ hc hm hs ht hrows =>
    rename_i b' c' cur xs
    cases hv
    simp only [Go.Proofs.YtjckojnlapchoaaGreat.row, List.cons.injEq, Prod.mk.injEq, Obj.cells.injEq, and_true, true_and] at hN
    subst hN
    have hkc : (k + 1) * T.sz ≤ l.length * T.sz := Nat.mul_le_mul_right _ (by omega)
    have hlc : l.length * T.sz ≤ c * T.sz := Nat.mul_le_mul_right _ hc
    have hk1 : (k + 1) * T.sz = k * T.sz + T.sz := by rw [Nat.add_mul]; omega
    simp only [List.size_toArray] at hs
    have hlen : r'.length = r.length := by
      rw [hr]
      simp only [List.length_append, List.length_take, List.length_drop, hcs]
      rw [hk1] at hkc ⊢
      omega
    have := OwnS.at_ (T := T) (E := E) (G := G) (l := l.set k x) (b := b) (c := c) (cur := ⟨r'⟩) (xs := (xs.take (k * T.sz) ++ cs ++ xs.drop ((k + 1) * T.sz))) (by simpa using hc) hm (by simp [hlen, hs]) ?_ (hrows.set hk hx)
    · simpa [Go.Proofs.YtjckojnlapchoaaGreat.row] using this
    · simp only [List.length_set] at ht ⊢
      rw [← ht, hr]
      apply List.ext_getElem?
      intro j
      simp only [List.getElem?_take, List.getElem?_append, List.getElem?_drop, List.length_append, List.length_take, hcs]
      have hm1 : min (k * T.sz) r.length = k * T.sz := by omega
      have hm2 : min (k * T.sz) (min (l.length * T.sz) r.length) = k * T.sz := by omega
      simp only [hm1, hm2]
      by_cases h1 : j < k * T.sz
      · have a1 : j < l.length * T.sz := by omega
        have a2 : j < k * T.sz + T.sz := by omega
        simp [h1, a1, a2]
      · by_cases h2 : j < k * T.sz + T.sz
        · have a1 : j < l.length * T.sz := by omega
          simp [h1, h2, a1]
        · by_cases h3 : j < l.length * T.sz
          · have a1 : (k + 1) * T.sz + (j - (k * T.sz + T.sz)) < l.length * T.sz := by omega
            simp [h2, h3, a1]
          · have a1 : ¬ (k + 1) * T.sz + (j - (k * T.sz + T.sz)) < l.length * T.sz := by omega
            simp [h2, h3, a1]
theorem OwnAt.one {b off : Nat} {l : List Value} {v : Value} {E : Nat} {H : List (Nat × Obj)} (h : l[off]? = some v) : OwnAt b off 1 [v] ((b, row l E) :: H) := by
  refine .here ?_
  simp [readN, h]
theorem setE_of {v : Value} : ∀ {l : List Value} {o : Nat}, o < l.length → setE l o v = some (l.set o v)
  | [], o, h => by simp at h
  | x :: l, 0, _ => rfl
  | x :: l, o + 1, h => by
    have := setE_of (v := v) (l := l) (o := o) (by simpa using h)
    simp [setE, this]
theorem setEs_one {l : List Value} {o : Nat} {v : Value} (h : o < l.length) : setEs l o [v] = some (l.set o v) := by
  have : Nat.ble (o + 1) (l.set o v).length = true := by simp; omega
  unfold setEs
  rw [setE_of h]
  simp only
  unfold setEs
  rw [this]
theorem OwnS.set1 {α : Type} {T : Tell α} {E : Nat} {G : Gh} {l : List α} {b n c : Nat} {r cs : List Value} {v : Value} (h : OwnS T E G l (.slice (some ⟨b, 0, none⟩) n c) [(b, Go.Proofs.YtjckojnlapchoaaGreat.row r E)]) {k j : Nat} {x : α} (hk : k < l.length)
    (hcs : ∀ j u, cs[j]? = some u → r[k * T.sz + j]? = some u) (hlen : cs.length = T.sz) (hj : j < T.sz) (hr : (k + 1) * T.sz ≤ r.length) (hx : T.R G (cs.set j v) x) :
    OwnS T E G (l.set k x) (.slice (some ⟨b, 0, none⟩) n c) [(b, Go.Proofs.YtjckojnlapchoaaGreat.row (r.set (k * T.sz + j) v) E)] := by
  refine h.set hk hx ?_
  have hk1 : (k + 1) * T.sz = k * T.sz + T.sz := by rw [Nat.add_mul]; omega
  rw [hk1] at hr ⊢
  apply List.ext_getElem?
  intro i
  have hm1 : min (k * T.sz) r.length = k * T.sz := by omega
  simp only [List.getElem?_set, List.getElem?_append, List.getElem?_take, List.getElem?_drop, List.length_append, List.length_take, List.length_set, hlen, hm1]
  by_cases h1 : i < k * T.sz
  · have a1 : ¬ k * T.sz + j = i := by omega
    have a2 : i < k * T.sz + T.sz := by omega
    simp [h1, a1, a2]
  · by_cases h2 : i < k * T.sz + T.sz
    · by_cases h3 : k * T.sz + j = i
      · subst h3
        have a1 : k * T.sz + j < r.length := by omega
        simp [h1, h2, a1, hj]
      · have a1 : ¬ j = i - k * T.sz := by omega
        have a3 : i - k * T.sz < cs.length := by omega
        have := hcs (i - k * T.sz) cs[i - k * T.sz] (List.getElem?_eq_getElem a3)
        rw [show k * T.sz + (i - k * T.sz) = i by omega] at this
        simp [h1, h2, h3, a1, a3, this]
    · have a1 : ¬ k * T.sz + j = i := by omega
      have a2 : k * T.sz + T.sz + (i - (k * T.sz + T.sz)) = i := by omega
      simp [h2, a1, a2]
end Go.Proofs.YtjckojnlapchoaaGreat
open Go Go.RowKit
namespace Go.Proofs.YtjckojnlapchoaaGreat
def Gh.put (G : Gh) (b : Nat) (o : Obj) : Gh := { G with get := fun k => if k = b then some o else G.get k }
theorem Gh.put_le {G : Gh} {b : Nat} {o : Obj} (h : G.get b = none) : G.le (G.put b o) := by
  refine ⟨fun k x hk => ?_, rfl, rfl, rfl⟩
  by_cases e : k = b
  · subst e; rw [h] at hk; cases hk
  · simp [Gh.put, e, hk]
theorem Gh.put_get {G : Gh} {b : Nat} {o : Obj} : (G.put b o).get b = some o := by simp [Gh.put]
theorem Hp.lend {G : Gh} {H : List (Nat × Obj)} {b : Nat} {o : Obj} {W : World} (h : Hp G ((b, o) :: H) W) : Hp (G.put b o) H W ∧ G.get b = none := by
  have hb := h.apart b o List.mem_cons_self
  have hn : b ∉ H.map (·.1) ∧ (H.map (·.1)).Nodup := by simpa using h.nodup
  refine ⟨⟨h.os, h.tape, h.output, ?_, fun b' o' hm => h.mem b' o' (List.mem_cons_of_mem _ hm), ?_, hn.2⟩, hb⟩
  · intro k x hk
    by_cases e : k = b
    · subst e; simp [Gh.put] at hk; subst hk; exact h.mem k o List.mem_cons_self
    · simp [Gh.put, e] at hk; exact h.imm k x hk
  · intro b' o' hm
    have hne : b' ≠ b := by intro e; subst e; exact hn.1 (List.mem_map.2 ⟨_, hm, rfl⟩)
    simp [Gh.put, hne, h.apart b' o' (List.mem_cons_of_mem _ hm)]
theorem Hp.back {G : Gh} {H : List (Nat × Obj)} {b : Nat} {o : Obj} {W : World} (h : Hp (G.put b o) H W) (hb : G.get b = none) : Hp G ((b, o) :: H) W := by
  have hne : ∀ b' o', (b', o') ∈ H → b' ≠ b := by
    intro b' o' hm e; subst e
    have := h.apart b' o' hm
    rw [Gh.put_get] at this; cases this
  refine ⟨h.os, h.tape, h.output, ?_, ?_, ?_, ?_⟩
  · intro k x hk
    exact h.imm k x ((Gh.put_le hb).get k x hk)
  · intro b' o' hm
    rcases List.mem_cons.1 hm with e | hm
    · cases e; exact h.imm _ _ Gh.put_get
    · exact h.mem b' o' hm
  · intro b' o' hm
    rcases List.mem_cons.1 hm with e | hm
    · cases e; exact hb
    · have := h.apart b' o' hm
      simp [Gh.put, hne b' o' hm] at this; exact this
  · simp only [List.map_cons, List.nodup_cons]
    refine ⟨fun hm => ?_, h.nodup⟩
    obtain ⟨x, hx, he⟩ := List.mem_map.1 hm
    exact hne x.1 x.2 hx he
section
variable {P : Program} {Q : Exit → Act → World → Prop} {F : Act → World → Prop} {e : Env} {n : Nat} {G : Gh} {H R : List (Nat × Obj)}
variable {d : Nat} {ty : TypeId} {pos : String} {af : Array Edge} {g : Option (Nat × Bool)}
theorem op_callB {f : Nat} {fst cap : List Value} {fo : Operand} {xs : List Operand} {vs : List Value} {ats : Array TypeId} {v : Value} {b : Nat} {o : Obj} [hF : FnT P f] (ht : Take b o H R) (hn : Nat.blt d n = true) (hfo : evE e fo = some (.func (.func f) ⟨fst⟩ ⟨cap⟩)) (hx : evL e xs = some vs)
    (hcall : ∀ W, G.get b = none → Hp (G.put b o) R W → Calls P f ⟨fst ++ vs ++ cap⟩ W (RetS (G.put b o) R v)) (h : Nx F ((d, v) :: e) n G ((b, o) :: R)) : OpNx P ⟨some d, .call { callee := .value fo, args := xs.toArray, argTypes := ats }, ty, pos, af, g⟩ Q F e n G H := by
  intro W hp a hf
  have hp1 := hp.perm ht.perm
  obtain ⟨hp2, hb⟩ := hp1.lend
  have hc := op_enter (P := P) (Q := Q) (F := F) (e := e) (n := n) (G := G.put b o) (H := R) (ty := ty) (pos := pos) (af := af) (g := g) (dst := some d) (ats := ats) hfo hx (fun W hp => hcall W hb hp)
    (by rintro en W' ⟨rfl, hp'⟩; exact ⟨v, rfl, fun a hf => h W' (hp'.back hb) _ (hf.put hn v)⟩)
  exact hc W hp2 a hf
theorem Hp.backD {G1 : Gh} {o : Obj} {b : Nat} {W : World} (h : Hp G1 R W) (hb : G.get b = none) (hl : (G.put b o).le G1) : ∃ G2 : Gh, G.le G2 ∧ Hp G2 ((b, o) :: R) W := by
  have hg1 : G1.get b = some o := hl.get b o Gh.put_get
  have hne : ∀ b' o', (b', o') ∈ R → b' ≠ b := by
    intro b' o' hm e; subst e
    have := h.apart b' o' hm
    rw [hg1] at this; cases this
  refine ⟨{ G1 with get := fun k => if k = b then none else G1.get k }, ⟨?_, hl.os, hl.tape, hl.output⟩, ⟨h.os, h.tape, h.output, ?_, ?_, ?_, ?_⟩⟩
  · intro k x hk
    by_cases e : k = b
    · subst e; rw [hb] at hk; cases hk
    · simp [e]; exact hl.get k x (by simp [Gh.put, e, hk])
  · intro k x hk
    by_cases e : k = b
    · simp [e] at hk
    · simp [e] at hk; exact h.imm k x hk
  · intro b' o' hm
    rcases List.mem_cons.1 hm with e | hm
    · cases e; exact h.imm _ _ hg1
    · exact h.mem b' o' hm
  · intro b' o' hm
    rcases List.mem_cons.1 hm with e | hm
    · cases e; simp
    · simp [hne b' o' hm, h.apart b' o' hm]
  · simp only [List.map_cons, List.nodup_cons]
    refine ⟨fun hm => ?_, h.nodup⟩
    obtain ⟨x, hx, he⟩ := List.mem_map.1 hm
    exact hne x.1 x.2 hx he
theorem op_callBD {f : Nat} {fst cap : List Value} {fo : Operand} {xs : List Operand} {vs : List Value} {ats : Array TypeId} {Φ : Value → Prop} {b : Nat} {o : Obj} [hF : FnT P f] (ht : Take b o H R) (hn : Nat.blt d n = true) (hfo : evE e fo = some (.func (.func f) ⟨fst⟩ ⟨cap⟩)) (hx : evL e xs = some vs)
    (hcall : ∀ W, G.get b = none → Hp (G.put b o) R W → Calls P f ⟨fst ++ vs ++ cap⟩ W (RetD (G.put b o) R (fun _ v => Φ v))) (h : ∀ v G', G.le G' → Φ v → Nx F ((d, v) :: e) n G' ((b, o) :: R)) : OpNx P ⟨some d, .call { callee := .value fo, args := xs.toArray, argTypes := ats }, ty, pos, af, g⟩ Q F e n G H := by
  intro W hp a hf
  have hp1 := hp.perm ht.perm
  obtain ⟨hp2, hb⟩ := hp1.lend
  have hc := op_enter (P := P) (Q := Q) (F := F) (e := e) (n := n) (G := G.put b o) (H := R) (ty := ty) (pos := pos) (af := af) (g := g) (dst := some d) (ats := ats) hfo hx (fun W hp => hcall W hb hp)
    (by
      rintro en W' ⟨v, G1, rfl, hl, hv, hp'⟩
      obtain ⟨G2, h2, hp2⟩ := hp'.backD hb hl
      exact ⟨v, rfl, fun a hf => h v G2 h2 hv W' hp2 _ (hf.put hn v)⟩)
  exact hc W hp2 a hf
end
theorem cell_put {G : Gh} {b o : Nat} {r : List Value} {E : TypeId} {v : Value} (h : r[o]? = some v) : (G.put b (row r E)).cell b o = some v := cell_row Gh.put_get h
theorem OwnS.lent {α : Type} {T : Tell α} {E : Nat} {G : Gh} {l : List α} {b n c : Nat} {r : List Value} (h : OwnS T E G l (.slice (some ⟨b, 0, none⟩) n c) [(b, Go.Proofs.YtjckojnlapchoaaGreat.row r E)]) (hb : G.get b = none) : Sl T (G.put b (Go.Proofs.YtjckojnlapchoaaGreat.row r E)) (some ⟨b, 0, none⟩) n c l := by
  generalize hv : (Value.slice (some ⟨b, 0, none⟩) n c) = v at h
  generalize hN : [(b, Go.Proofs.YtjckojnlapchoaaGreat.row r E)] = N at h
  cases h with
  | nil h => cases hv
  | at_ hc hm hs ht hr =>
    rename_i b' c' cur xs
    cases hv
    simp only [Go.Proofs.YtjckojnlapchoaaGreat.row, List.cons.injEq, Prod.mk.injEq, Obj.cells.injEq, and_true, true_and] at hN
    subst hN
    refine ⟨rfl, hc, by simpa [maxLen] using hm, fun _ => ⟨b, 0, rfl, fun k x hk => ?_⟩⟩
    obtain ⟨cs, h1, h2⟩ := hr.get hk
    refine ⟨cs, fun j u hj => ?_, T.le (Gh.put_le hb) h2⟩
    have h3 := h1 j u hj
    rw [← ht] at h3
    have h4 : k * T.sz + j < l.length * T.sz := by
      have := (List.getElem?_eq_some_iff.1 h3).1
      rw [List.length_take] at this
      omega
    rw [List.getElem?_take_of_lt h4] at h3
    exact cell_put (by simpa using h3)
end Go.Proofs.YtjckojnlapchoaaGreat
open Go Go.RowKit
namespace Go.Proofs.YtjckojnlapchoaaGreat
theorem Inc.suf {G G0 : Gh} {H H0 : List (Nat × Obj)} (hl : G0.le G) (h : Suf H0 H) : Inc G0 H0 G H := ⟨hl, fun _ hx => h.sublist.subset hx⟩
theorem OwnS.mk {α : Type} {T : Tell α} {E : Nat} {G : Gh} {l : List α} {b c n : Nat} {r : List Value} (hc : l.length ≤ c) (hm : c ≤ maxLen) (hs : r.length = c * T.sz) (hr : Rows T G (r.take (l.length * T.sz)) l) (hn : n = l.length) : OwnS T E G l (.slice (some ⟨b, 0, none⟩) n c) [(b, Go.Proofs.YtjckojnlapchoaaGreat.row r E)] := by
  subst hn
  exact .at_ (cur := ⟨r⟩) hc hm (by simpa using hs) rfl hr
theorem OwnS.inv {α : Type} {T : Tell α} {E : Nat} {G : Gh} {l : List α} {v : Value} {N : List (Nat × Obj)} (h : OwnS T E G l v N) (hl : l ≠ []) : ∃ b c r, v = .slice (some ⟨b, 0, none⟩) l.length c ∧ N = [(b, Go.Proofs.YtjckojnlapchoaaGreat.row r E)] ∧ l.length ≤ c ∧ c ≤ maxLen ∧ r.length = c * T.sz ∧ Rows T G (r.take (l.length * T.sz)) l := by
  cases h with
  | nil h => exact absurd h hl
  | at_ hc hm hs ht hr =>
    rename_i b c cur xs
    exact ⟨b, c, cur.toList, rfl, rfl, hc, hm, by simpa using hs, by rw [ht]; exact hr⟩
theorem Rows.tail {α : Type} {T : Tell α} {G : Gh} {xs : List Value} {l : List α} (h : Rows T G xs l) : Rows T G (xs.drop T.sz) (l.drop 1) := by
  cases h with
  | nil => simpa using Rows.nil
  | cons h hr => rw [← T.len h, List.drop_left]; exact hr
theorem Rd.part {b o : Nat} {r xs : List Value} {E : Nat} {G : Gh} {H : List (Nat × Obj)} (hm : (b, Go.Proofs.YtjckojnlapchoaaGreat.row r E) ∈ H) (h : ∀ j u, xs[j]? = some u → r[o + j]? = some u) : Rd G H b o xs := .own hm (readN_of h)
section
variable {P : Program} {Q : Exit → Act → World → Prop} {F : Act → World → Prop} {e e' : Env} {n : Nat} {G G' : Gh} {H H' R : List (Nat × Obj)} {ops : Array Oper}
variable {d : Nat} {ty : TypeId} {pos : String} {af : Array Edge} {g : Option (Nat × Bool)}
theorem op_append_in {t E sz bytes : Nat} {z : Value} {x y : Operand} {b m k c c' b' o' q : Nat} {r xs : List Value} [hT : SliceT P t E sz bytes z] (hn : Nat.blt d n = true) (hx : evE e x = some (.slice (some ⟨b, 0, none⟩) m c)) (hy : evE e y = some (.slice (some ⟨b', o', none⟩) k c'))
    (ht : Take b (row r E) H R) (hs : Rd G H b' o' xs) (hk : xs.length = k * sz) (h1 : ∀ u ∈ xs, u.oneCell' = true) (hroom : m + k ≤ c) (hfit : m * sz + xs.length ≤ r.length) (hq : q = m + k)
    (h : Nx F ((d, .slice (some ⟨b, 0, none⟩) q c) :: e) n G ((b, row (r.take (m * sz) ++ xs ++ r.drop (m * sz + xs.length)) E) :: R)) :
    OpNx P ⟨some d, .call { callee := .builtin .append, args := #[x, y], argTypes := #[t, t] }, ty, pos, af, g⟩ Q F e n G H := by
  subst hq
  intro W hpW a hf
  have hp1 := hpW.perm ht.perm
  obtain ⟨i, hi, hz, hsz, hby, hzs⟩ := hT.info
  subst hsz
  have hb := hp1.mem b _ List.mem_cons_self
  have hr := run_append_room (P := P) W t ty E i hT.under hi b m c ⟨r⟩ hb ⟨b', o', none⟩ k c' xs hk (fun j u hj => by rw [add_plain]; exact hs.cells hpW.toMem j u hj) h1 hroom (by simpa using hfit)
  unfold Oper.wp
  have he : (execOp a.eval ⟨some d, .call { callee := .builtin .append, args := #[x, y], argTypes := #[t, t] }, ty, pos, af, g⟩).run P W = .ok (.value (.slice (some ⟨b, 0, none⟩) (m + k) c)) (W.setRow b ⟨r.take (m * i.size) ++ xs ++ r.drop (m * i.size + xs.length)⟩) := by
    simp only [execOp, resolve, Sem.run_bind, Sem.run_pure, Result.andThen_ok, invoke, List.map_toArray, List.map_cons, List.map_nil, hf.ev hx, hf.ev hy, builtin]
    rw [hr]
    rfl
  rw [he]
  simp only [Oper.upon]
  refine h _ (hp1.write (W' := W.setRow b _) rfl rfl rfl (setRow_heap W b ⟨r⟩ _ E (0, 0) hb) ?_) _ (hf.put hn _)
  intro j hj
  simp [World.setRow, Array.getElem?_modify, Ne.symm hj]
theorem op_clear {t E sz bytes : Nat} {z : Value} {x : Operand} {b o k c : Nat} {r : List Value} [hT : SliceT P t E sz bytes z] (hx : evE e x = some (.slice (some ⟨b, o, none⟩) k c)) (hz1 : z.cells.all Value.oneCell' = true)
    (ht : Take b (row r E) H R) (hk : 0 < k) (hfit : o + k * sz ≤ r.length)
    (h : ∀ r' : List Value, r'.length = r.length → r'.take o = r.take o → Nx F e n G ((b, row r' E) :: R)) :
    OpNx P ⟨none, .call { callee := .builtin .clear, args := #[x], argTypes := #[t] }, ty, pos, af, g⟩ Q F e n G H := by
  intro W hpW a hf
  have hp1 := hpW.perm ht.perm
  obtain ⟨i, hi, hz, hsz, hby, hzs⟩ := hT.info
  have hb := hp1.mem b _ List.mem_cons_self
  have hzl : (Builtin.zeroCells z.cells k).toList.length = k * sz := by simp [Builtin.zeroCells, hzs]
  have h1 : ∀ v ∈ (Builtin.zeroCells z.cells k).toList, v.oneCell' = true := by
    intro v hv
    simp only [Builtin.zeroCells, Array.toList_map, Array.toList_range, List.mem_map, List.mem_range] at hv
    obtain ⟨j, hj, rfl⟩ := hv
    have hpos := hT.pos
    have hlt : j % z.cells.size < z.cells.size := Nat.mod_lt _ (by omega)
    rw [Array.all_eq_true] at hz1
    rw [getElem!_pos z.cells _ hlt]
    exact hz1 _ hlt
  have hst := run_storeCells_at P b o E (Builtin.zeroCells z.cells k).toList 0 ⟨r⟩ W hb (by simp only [Nat.add_zero, hzl, List.size_toArray]; exact hfit) h1
  simp only [Nat.add_zero] at hst
  obtain ⟨k', rfl⟩ : ∃ j, k = j + 1 := ⟨k - 1, by omega⟩
  unfold Oper.wp
  have he : (execOp a.eval ⟨none, .call { callee := .builtin .clear, args := #[x], argTypes := #[t] }, ty, pos, af, g⟩).run P W = .ok (.value (.tuple #[])) (W.setRow b ⟨r.take o ++ (Builtin.zeroCells z.cells (k' + 1)).toList ++ r.drop (o + (Builtin.zeroCells z.cells (k' + 1)).toList.length)⟩) := by
    simp only [execOp, resolve, Sem.run_bind, Sem.run_pure, Result.andThen_ok, invoke, List.map_toArray, List.map_cons, List.map_nil, hf.ev hx, builtin]
    simp [Builtin.clear_, run_underlying hT.under, hT.zero W, go_sem]
    show (((Sem.run P (storeCells ⟨b, o, none⟩ (Builtin.zeroCells z.cells (k' + 1)).toList) W).andThen fun _ w' => Result.ok (Value.tuple #[]) w').andThen fun a w' => Result.ok (Next.value a) w') = _
    rw [hst]
    simp [Result.andThen]
    rfl
  rw [he]
  simp only [Oper.upon]
  have hlen : (r.take o ++ (Builtin.zeroCells z.cells (k' + 1)).toList ++ r.drop (o + (Builtin.zeroCells z.cells (k' + 1)).toList.length)).length = r.length := by
    simp only [List.length_append, List.length_take, List.length_drop, hzl]; omega
  have htake : (r.take o ++ (Builtin.zeroCells z.cells (k' + 1)).toList ++ r.drop (o + (Builtin.zeroCells z.cells (k' + 1)).toList.length)).take o = r.take o := by
    have : (r.take o).length = o := by simp; omega
    rw [List.append_assoc, List.take_append_of_le_length (by omega), List.take_of_length_le (by omega)]
  refine h _ hlen htake _ (hp1.write (W' := W.setRow b _) rfl rfl rfl (setRow_heap W b ⟨r⟩ _ E (0, 0) hb) ?_) _ ?_
  · intro j hj
    simp [World.setRow, Array.getElem?_modify, Ne.symm hj]
  · exact hf
section
variable {x y w u : Operand} {t E sz bytes len cap : Nat} {z : Value} {A : Option Addr}
theorem v_slice_lh {k h : Nat} [hT : SliceT P t E sz bytes z] (hn : Nat.blt d n = true) (hx : evE e x = some (.slice A len cap)) (hy : evE e y = some (.int .i64 (k : Int))) (hw : evE e w = some (.int .i64 (h : Int))) (hk : k ≤ h) (hh : h ≤ cap) : OpV P ⟨some d, .slice t x (some y) (some w) none, ty, pos, af, g⟩ e n G H d (.slice (if cap = k then A else cutA A k sz) (h - k) (cap - k)) :=
  ⟨rfl, hn, fun W _ a hf => by
    simp only [execOp, Option.map_some, Option.map_none, hf.ev hx, hf.ev hy, hf.ev hw]
    have hs : ∀ W, (sizeOf E).run P W = .ok sz W := fun W => hT.size W
    simp [go_sem, Instr.sliceAt, Instr.slice, run_underlying hT.under, Instr.sliceBounds, Instr.sliceBound, asIntOf, hk, hh, hs, cutA]⟩
theorem v_slice_3 {k h m : Nat} [hT : SliceT P t E sz bytes z] (hn : Nat.blt d n = true) (hx : evE e x = some (.slice A len cap)) (hy : evE e y = some (.int .i64 (k : Int))) (hw : evE e w = some (.int .i64 (h : Int))) (hu : evE e u = some (.int .i64 (m : Int))) (hk : k ≤ h) (hh : h ≤ m) (hm : m ≤ cap) : OpV P ⟨some d, .slice t x (some y) (some w) (some u), ty, pos, af, g⟩ e n G H d (.slice (if m = k then A else cutA A k sz) (h - k) (m - k)) :=
  ⟨rfl, hn, fun W _ a hf => by
    simp only [execOp, Option.map_some, hf.ev hx, hf.ev hy, hf.ev hw, hf.ev hu]
    have hs : ∀ W, (sizeOf E).run P W = .ok sz W := fun W => hT.size W
    simp [go_sem, Instr.sliceAt, Instr.slice, run_underlying hT.under, Instr.sliceBounds, Instr.sliceBound, asIntOf, hk, hh, hm, hs, cutA]⟩
end
theorem made_one {z : Value} (hz : z.cells = #[z]) (n : Nat) : (madeCells z.cells n).toList = List.replicate n z := by
  rw [hz]
  apply List.ext_getElem
  · simp [madeCells]
  · intro i h1 h2
    simp [madeCells, Nat.mod_one]
theorem op_makeSlice {t E bytes m : Nat} {z : Value} {x y : Operand} [hT : SliceT P t E 1 bytes z] (hn : Nat.blt d n = true) (hx : evE e x = some (.int .i64 (m : Int))) (hy : evE e y = some (.int .i64 (m : Int))) (hz : z.cells = #[z]) (hm : m ≤ 1000000) (hby : bytes ≤ 1000)
    (h : ∀ b, Nx F ((d, .slice (some ⟨b, 0, none⟩) m m) :: e) n G ((b, row (List.replicate m z) E) :: H)) : OpNx P ⟨some d, .makeSlice t x y, ty, pos, af, g⟩ Q F e n G H := by
  intro W hp a hf
  obtain ⟨i, hi, hz0, hsz, hb, hzs⟩ := hT.info
  have hmul : i.bytes * m ≤ 1000 * 1000000 := Nat.mul_le_mul (by omega) hm
  have h1 := Int.ofNat_le.2 hmul
  rw [Int.natCast_mul] at h1
  have h2 : ((1000 * 1000000 : Nat) : Int) ≤ 281474976710656 := by decide
  have hrun := run_makeSlice (P := P) W t E i z hT.under hi hz0 .i64 .i64 (m : Int) (m : Int) (by omega) (Int.le_refl _) (by simp only [Int.toNat_natCast, hsz]; omega) (Int.le_trans h1 h2) (by omega)
  simp only [Int.toNat_natCast, hsz, Nat.mul_one] at hrun
  have hc : madeCells z.cells m = ⟨List.replicate m z⟩ := by apply Array.ext'; exact made_one hz m
  rw [hc] at hrun
  unfold Oper.wp
  have he : (execOp a.eval ⟨some d, .makeSlice t x y, ty, pos, af, g⟩).run P W = .ok (.value (.slice (some ⟨W.heap.size, 0, none⟩) m m)) (W.alloc (row (List.replicate m z) E)) := by
    simp only [execOp, hf.ev hx, hf.ev hy]
    simp [go_sem, hrun]
    rfl
  rw [he]
  simp only [Oper.upon]
  exact h W.heap.size _ (hp.alloc _) _ (hf.put hn _)
theorem op_app {α : Type} {T : Tell α} {t E bytes : Nat} {z : Value} {x y : Operand} {u v : Value} {N : List (Nat × Obj)} {l m : List α} [hT : SliceT P t E T.sz bytes z] (hn : Nat.blt d n = true) (hx : evE e x = some u) (hy : evE e y = some v)
    (ho : OwnS T E G l u N) (hp : Pull N H R) (hs : Src T G H v m) (hb : (l.length + m.length) * bytes ≤ 140737488355328) (hml : l.length + m.length ≤ maxLen)
    (h : ∀ A c N', OwnS T E G (l ++ m) (.slice A (l ++ m).length c) N' → (l ++ m).length ≤ c → Nx F ((d, .slice A (l ++ m).length c) :: e) n G (N' ++ R)) :
    OpNx P ⟨some d, .call { callee := .builtin .append, args := #[x, y], argTypes := #[t, t] }, ty, pos, af, g⟩ Q F e n G H :=
  op_append hn hx hy ho hp hs hb hml (fun v' N' o' => by
    obtain ⟨A, c, rfl, hc⟩ := o'.val
    exact h A c N' o' hc)
end
end Go.Proofs.YtjckojnlapchoaaGreat
open Go Go.RowKit
namespace Go.Proofs.YtjckojnlapchoaaGreat
section
variable {P : Program} {ops : Array Oper} {Q : Exit → Act → World → Prop} {S : Array Bool → World → Prop} {n : Nat} {L : Array Bool → Act → World → Prop}
def hdz (P : Program) (ops : Array Oper) (Q : Exit → Act → World → Prop) (S : Array Bool → World → Prop) (n : Nat) (L : Array Bool → Act → World → Prop) : Nat → Array Bool → Act → World → Prop
  | 0, listed, a, w => L listed a w
  | f + 1, listed, a, w => Region.ready .any ops listed ≠ [] ∧ ∀ i ∈ Region.ready .any ops listed, i < n ∧ wpOp P ops Q i (fun a' w' => S (listed.setIfInBounds i true) w' ∧ hdz P ops Q S n L f (listed.setIfInBounds i true) a' w') a w
theorem hdz.sound {g : Nat} (hL : ∀ listed a w, L listed a w → wpAny P .any ops Q g listed a w) : ∀ (f : Nat) (listed : Array Bool) (a : Act) (w : World), hdz P ops Q S n L f listed a w → wpAny P .any ops Q (f + g) listed a w
  | 0, listed, a, w, h => by rw [Nat.zero_add]; exact hL _ _ _ h
  | f + 1, listed, a, w, h => by
    rw [show f + 1 + g = (f + g) + 1 by omega]
    exact ⟨fun h0 => absurd h0 h.1, fun i hi => wpOp_mono (fun a' w' h' => hdz.sound hL f _ a' w' h'.2) (h.2 i hi).2⟩
theorem hdz.first {S1 : World → Prop} (hF : HeadFirst ops n) {i : Nat} {oi : Oper} {v : Value} (hi : ops[i]? = some oi) (hsel : ∀ (j : Nat) (o : Oper) cs b, ops[j]? = some o → o.op ≠ .select cs b) (hin : i < n)
    (hQ : ∀ c a w, ¬ Q (.panic c) a w) (hdone : ∀ listed a w, L listed a w → ∀ j ∈ Region.ready .any ops listed, n ≤ j)
    (hS1 : ∀ listed w, HeadInv .any ops n listed → listed.getD i true = false → S listed w → S1 w) (hS2 : ∀ listed w, S (listed.setIfInBounds i true) w → S listed w) (hS3 : ∀ listed w, S listed w → S (listed.setIfInBounds i true) w) :
    ∀ (f : Nat) (listed : Array Bool) (a : Act) (w : World), HeadInv .any ops n listed →
      (∀ j oj, ops[j]? = some oj → j ≠ i → listed.getD j true = false → (∀ e ∈ oj.after, Region.binds .any e = true → e.on ≠ i) → oi.apart ops oj = true) →
      i ∈ Region.ready .any ops listed → YieldsIf P ops S1 oi v a → S listed w →
      hdz P ops Q S n L f (listed.setIfInBounds i true) (a.put oi.dst v) w → hdz P ops Q S n L (f + 1) listed a w := by
  intro f
  induction f with
  | zero =>
    intro listed a w inv _ hr hy hS K
    have hun := (mem_ready.1 hr).1
    refine ⟨List.ne_nil_of_mem hr, fun j hj => ⟨hF listed inv i hin hun j hj, ?_⟩⟩
    by_cases hji : j = i
    · subst hji; exact hy.wpOp hi (hS1 _ _ inv hun hS) ⟨hS3 _ _ hS, K⟩
    · have h1 := hF listed inv i hin hun j hj
      have h2 := hdone _ _ _ K j (ready_mono hj hji)
      omega
  | succ f ih =>
    intro listed a w inv hfree hr hy hS K
    have hun := (mem_ready.1 hr).1
    refine ⟨List.ne_nil_of_mem hr, fun j hj => ⟨hF listed inv i hin hun j hj, ?_⟩⟩
    by_cases hji : j = i
    · subst hji; exact hy.wpOp hi (hS1 _ _ inv hun hS) ⟨hS3 _ _ hS, K⟩
    · have hjn := hF listed inv i hin hun j hj
      have h1 := (K.2 j (ready_mono hj hji)).2
      obtain ⟨hjun, oj, hoj, hall⟩ := mem_ready.1 hj
      have hnot : ∀ e ∈ oj.after, Region.binds .any e = true → e.on ≠ i := by
        intro e he hb heq
        have hl := hall e he hb
        rw [heq, getD_both hun] at hl
        cases hl
      have h2 := wpOp_putIf (Q := Q) hoj (hfree j oj hoj hji hjun hnot) (fun cs b => hsel i oi cs b hi) (fun cs b => hsel j oj cs b hoj) (fun c a w h => absurd h (hQ c _ w)) hy h1
      refine wpOp_mono (fun a' w' h3 => ?_) h2
      have hS' : S (listed.setIfInBounds j true) w' := by
        have := h3.2.1
        rw [Array.setIfInBounds_comm _ _ (Ne.symm hji)] at this
        exact hS2 _ _ this
      refine ⟨hS', ih (listed.setIfInBounds j true) a' w' (inv.set hj hjn) ?_ (ready_mono hr (Ne.symm hji)) h3.1 hS' ?_⟩
      · intro k ok hk hki hku hno
        refine hfree k ok hk hki ?_ hno
        by_cases hjk : j = k
        · subst hjk; exact hjun
        · rw [getD_set_ne true hjk] at hku; exact hku
      · rw [Array.setIfInBounds_comm _ _ hji]
        exact h3.2.2
end
inductive Orz where
  | done
  | q (i : Nat) (r : Orz)
  | p (i : Nat) (r : Orz)
  | l (i : Nat) (r : Orz)
def Orz.size : Orz → Nat
  | .done => 0
  | .q _ r => r.size + 1
  | .p _ r => r.size + 1
  | .l _ r => r.size + 1
def noX (X : List Nat) (listed : Array Bool) : Bool := X.all fun x => !(listed.getD x false)
def waitsFor (ops : Array Oper) (i x : Nat) : Bool := match ops[x]? with
  | some o => o.after.any fun e => Region.binds .any e && e.on == i
  | none => false
def chkz (ops : Array Oper) (n : Nat) (X : List Nat) : Orz → Array Bool → Bool
  | .done, listed => Region.seqB .any ops (ops.size - n) n listed
  | .q i r, listed => decide (i < n) && (Region.ready .any ops listed).contains i && Region.free .any ops listed i && !X.contains i && X.all (waitsFor ops i) && chkz ops n X r (listed.setIfInBounds i true)
  | .p i r, listed => decide (i < n) && (Region.ready .any ops listed).contains i && Region.free .any ops listed i && !X.contains i && chkz ops n X r (listed.setIfInBounds i true)
  | .l i r, listed => decide (i < n) && decide (Region.ready .any ops listed = [i]) && chkz ops n X r (listed.setIfInBounds i true)
def okDrawz (ops : Array Oper) (n : Nat) (X : List Nat) (r : Orz) : Bool := okTail ops n && decide (r.size = n) && chkz ops n X r (Array.replicate ops.size false)
section
variable {P : Program} {ops : Array Oper} {Q : Exit → Act → World → Prop} {F : Act → World → Prop} {e : Env} {n m : Nat} {G G0 : Gh} {H H0 : List (Nat × Obj)} {listed : Array Bool} {r s : Orz} {X : List Nat}
def Mz (G0 : Gh) (H0 : List (Nat × Obj)) (X : List Nat) (listed : Array Bool) (w : World) : Prop := noX X listed = true → Mem G0 H0 w
def Dz (P : Program) (ops : Array Oper) (Q : Exit → Act → World → Prop) (G0 : Gh) (H0 : List (Nat × Obj)) (X : List Nat) (m : Nat) (r : Orz) (listed : Array Bool) (a : Act) (w : World) : Prop :=
  HeadFirst ops m → Region.noSelect ops = true → HeadInv .any ops m listed → chkz ops m X r listed = true → Mz G0 H0 X listed w → hdz P ops (NoPanic Q) (Mz G0 H0 X) m (tailL P ops (NoPanic Q) m) r.size listed a w
theorem dz_begin {id : Nat} {l : List Oper} (X : List Nat) (m : Nat) (r : Orz) (hm : P.follows .mixedOrders = true) (hc : okDrawz l.toArray m X r = true)
    (h : Nx (Dz P l.toArray Q G H X m r (Array.replicate l.length false)) e n G H) : Nx ((Code.region id l.toArray true).wp P Q) e n G H := by
  intro W hp a hf
  simp only [okDrawz, okTail, Bool.and_eq_true, decide_eq_true_eq, Bool.or_eq_true] at hc
  obtain ⟨⟨⟨hsel, ht⟩, hr⟩, hk⟩ := hc
  have hF : HeadFirst l.toArray m := by
    rcases ht with ht | ht
    · exact HeadFirst.all ht
    · exact HeadFirst.tail ht.1.2 ht.2 ht.1.1
  have hle : m ≤ l.length := by
    rcases ht with ht | ht
    · simp at ht; omega
    · have := ht.1.1; simp at this; omega
  have inv0 : HeadInv .any l.toArray m (Array.replicate l.toArray.size false) :=
    ⟨by simp, fun j oj _ hl => (by rw [getD_replicate_false] at hl; cases hl), fun t _ ht => getD_in (by simpa using ht) (getD_replicate_false _ _)⟩
  have h1 := h _ hp.drew a hf hF hsel (by simpa using inv0) (by simpa using hk) (fun _ => hp.drew.toMem)
  refine wp_region_noPanic (wp_region_any hm ?_)
  have h2 := hdz.sound (g := l.length - m) (fun listed a w hL => by
    obtain ⟨h3, h4⟩ := hL
    have hdl : (l.drop m).length = l.toArray.size - m := by simp
    have := wpAny_of_seq (md := .any) (P := P) (ops := l.toArray) (Q' := NoPanic Q) (l.drop m) m listed a w (fun j => by simp [List.getElem?_drop]) (by rw [hdl]; exact h3) h4
    simpa using this) _ _ _ _ h1
  rw [hr, show m + (l.length - m) = l.length by omega] at h2
  simpa using h2
theorem noX_set {i : Nat} (hi : X.contains i = false) : noX X (listed.setIfInBounds i true) = noX X listed := by
  have hne : ∀ x, x ∈ X → i ≠ x := by
    intro x hx e; subst e
    rw [List.contains_eq_mem] at hi
    simp [hx] at hi
  unfold noX
  rw [Bool.eq_iff_iff, List.all_eq_true, List.all_eq_true]
  constructor
  · intro h x hx; have := h x hx; rwa [getD_set_ne false (hne x hx)] at this
  · intro h x hx; rw [getD_set_ne false (hne x hx)]; exact h x hx
theorem noX_open {i : Nat} (inv : HeadInv .any ops m listed) (hun : listed.getD i true = false) (hw : X.all (waitsFor ops i) = true) : noX X listed = true := by
  unfold noX
  rw [List.all_eq_true] at hw ⊢
  intro x hx
  cases hl : listed.getD x false with
  | false => rfl
  | true =>
    have h1 := hw x hx
    unfold waitsFor at h1
    cases ho : ops[x]? with
    | none => rw [ho] at h1; cases h1
    | some o =>
      rw [ho] at h1
      simp only [Array.any_eq_true] at h1
      obtain ⟨k, hk, h2⟩ := h1
      simp only [Bool.and_eq_true, beq_iff_eq] at h2
      have := inv.closed x o ho hl o.after[k] (Array.getElem_mem hk) h2.1
      rw [h2.2, getD_both hun] at this
      cases this
theorem dz_q {i d : Nat} {o : Oper} {v : Value} (hi : ops[i]? = some o) (hg : o.guard = none) (h : OpV P o e n G0 H0 d v) (k : Nx (Dz P ops Q G0 H0 X m r (listed.setIfInBounds i true)) ((d, v) :: e) n G H) : Nx (Dz P ops Q G0 H0 X m (.q i r) listed) e n G H := by
  intro W hp a hf hF hsel inv hc hM
  simp only [chkz, Bool.and_eq_true, decide_eq_true_eq, Bool.not_eq_true'] at hc
  obtain ⟨⟨⟨⟨⟨him, hr⟩, hfree⟩, hX⟩, hw⟩, hc⟩ := hc
  have hr' : i ∈ Region.ready .any ops listed := by simpa using hr
  have hK := k W hp _ (hf.put h.lt v) hF hsel (inv.set hr' him) hc (by unfold Mz; rw [noX_set hX]; exact hM)
  exact hdz.first (S1 := Mem G0 H0) hF hi (Region.noSelect_spec hsel) him (fun c a w h => h) (fun listed a w hL => seqB_ready hL.1) (fun listed w inv hun hS => hS (noX_open inv hun hw)) (fun listed w hS => by unfold Mz at *; rwa [noX_set hX] at hS) (fun listed w hS => by unfold Mz at *; rwa [noX_set hX]) r.size listed a W inv (Region.free_spec hi hfree) hr' (.inl ⟨by simp [Region.wanted, hg], fun w hS => h.run w hS a hf⟩) hM (by rw [h.dst]; exact hK)
theorem dz_p {i d : Nat} {o : Oper} {v : Value} (hi : ops[i]? = some o) (hg : o.guard = none) (h : ∀ G1 H1, OpV P o e n G1 H1 d v) (k : Nx (Dz P ops Q G0 H0 X m r (listed.setIfInBounds i true)) ((d, v) :: e) n G H) : Nx (Dz P ops Q G0 H0 X m (.p i r) listed) e n G H := by
  intro W hp a hf hF hsel inv hc hM
  simp only [chkz, Bool.and_eq_true, decide_eq_true_eq, Bool.not_eq_true'] at hc
  obtain ⟨⟨⟨⟨him, hr⟩, hfree⟩, hX⟩, hc⟩ := hc
  have hr' : i ∈ Region.ready .any ops listed := by simpa using hr
  have hd := h G0 H0
  have hK := k W hp _ (hf.put hd.lt v) hF hsel (inv.set hr' him) hc (by unfold Mz; rw [noX_set hX]; exact hM)
  have hany : ∀ w : World, Mem (⟨fun _ => none, w.os, w.tape, w.output⟩ : Gh) [] w := fun w => ⟨fun k o hk => (by cases hk), fun b o hm => absurd hm List.not_mem_nil⟩
  exact hdz.first (S1 := fun _ => True) hF hi (Region.noSelect_spec hsel) him (fun c a w h => h) (fun listed a w hL => seqB_ready hL.1) (fun _ _ _ _ _ => trivial) (fun listed w hS => by unfold Mz at *; rwa [noX_set hX] at hS) (fun listed w hS => by unfold Mz at *; rwa [noX_set hX]) r.size listed a W inv (Region.free_spec hi hfree) hr' (.inl ⟨by simp [Region.wanted, hg], fun w _ => (h _ []).run w (hany w) a hf⟩) hM (by rw [hd.dst]; exact hK)
def DzK (P : Program) (ops : Array Oper) (Q : Exit → Act → World → Prop) (G0 : Gh) (H0 : List (Nat × Obj)) (X : List Nat) (m : Nat) (r : Orz) (listed : Array Bool) (a : Act) (w : World) : Prop := Mz G0 H0 X listed w ∧ Dz P ops Q G0 H0 X m r listed a w
theorem dz_x (hx : noX X listed = false) (k : Nx (Dz P ops Q G0 H0 X m r listed) e n G H) : Nx (DzK P ops Q G0 H0 X m r listed) e n G H := fun W hp a hf => ⟨fun h => (by rw [hx] at h; cases h), k W hp a hf⟩
theorem dz_l {i : Nat} {o : Oper} (hi : ops[i]? = some o) (hg : o.guard = none) (h : OpNx P o (NoPanic Q) (DzK P ops Q G0 H0 X m r (listed.setIfInBounds i true)) e n G H) : Nx (Dz P ops Q G0 H0 X m (.l i r) listed) e n G H := by
  intro W hp a hf hF hsel inv hc hM
  simp only [chkz, Bool.and_eq_true, decide_eq_true_eq] at hc
  obtain ⟨⟨him, hr⟩, hc⟩ := hc
  refine ⟨by rw [hr]; simp, fun j hj => ?_⟩
  have hji : j = i := by rw [hr] at hj; simpa using hj
  subst hji
  refine ⟨him, op_wpOp hi hg (Oper.wp_mono (fun a' w' hk => ⟨hk.1, hk.2 hF hsel (inv.set hj him) hc hk.1⟩) (h W hp a hf))⟩
theorem dz_end {rest : List Oper} (hl : ops.toList.drop m = rest) (k : Nx (wpList P ops (NoPanic Q) rest) e n G H) : Nx (Dz P ops Q G0 H0 X m .done listed) e n G H := by
  intro W hp a hf hF hsel inv hc hM
  subst hl
  exact ⟨hc, k W hp a hf⟩
end
end Go.Proofs.YtjckojnlapchoaaGreat
open Go Go.RowKit
namespace Go.Proofs.YtjckojnlapchoaaGreat
theorem Rows.take {α : Type} {T : Tell α} {G : Gh} {xs : List Value} {l : List α} (h : Rows T G xs l) : ∀ k : Nat, Rows T G (xs.take (k * T.sz)) (l.take k) := by
  induction h with
  | nil => intro k; simpa using Rows.nil
  | cons h hr ih =>
    intro k
    cases k with
    | zero => simpa using Rows.nil
    | succ k =>
      have := ih k
      rw [show (k + 1) * T.sz = T.sz + k * T.sz by rw [Nat.add_mul]; omega, ← T.len h, List.take_length_add_append, List.take_succ_cons]
      exact .cons h (by rw [T.len h]; exact this)
theorem OwnS.take {α : Type} {T : Tell α} {E : Nat} {G : Gh} {l : List α} {A : Option Addr} {n c : Nat} {N : List (Nat × Obj)} (h : OwnS T E G l (.slice A n c) N) {k : Nat} (hk : k ≤ l.length) : OwnS T E G (l.take k) (.slice A k c) N := by
  by_cases hl : l = []
  · subst hl
    obtain rfl : k = 0 := by simpa using hk
    obtain ⟨_, _, hv, _⟩ := h.val
    cases hv
    exact h
  · obtain ⟨b, c', r, hv, rfl, h1, h2, h3, h4⟩ := h.inv hl
    cases hv
    refine OwnS.mk (by rw [List.length_take]; omega) h2 h3 ?_ (by rw [List.length_take]; omega)
    have := h4.take k
    have hkk : k * T.sz ≤ l.length * T.sz := Nat.mul_le_mul_right _ hk
    rw [List.take_take, Nat.min_eq_left hkk] at this
    rw [List.length_take, Nat.min_eq_left hk]
    exact this
theorem OwnS.src {α : Type} {T : Tell α} {E : Nat} {G : Gh} {l : List α} {v : Value} {N H : List (Nat × Obj)} (h : OwnS T E G l v N) (hm : ∀ x, x ∈ N → x ∈ H) : Src T G H v l := by
  cases h with
  | nil h => subst h; exact ⟨⟨none, 0, rfl, fun h => absurd rfl h⟩⟩
  | at_ hc hmx hs ht hr =>
    rename_i b c cur xs
    refine ⟨⟨_, _, rfl, fun _ => ⟨b, 0, xs, rfl, hr, .own (l := cur.toList) (T := E) (hm _ List.mem_cons_self) (readN_of fun j u hj => ?_)⟩⟩⟩
    rw [← ht] at hj
    rw [Nat.zero_add]
    rw [List.getElem?_take] at hj
    split at hj
    · exact hj
    · cases hj
theorem Pull.mem {N H R : List (Nat × Obj)} (h : Pull N H R) : ∀ x, x ∈ N → x ∈ H := fun x hx => h.perm.mem_iff.2 (List.mem_append_left _ hx)
theorem Inc.pull {G G0 G' : Gh} {N H0 H R : List (Nat × Obj)} (h : Inc G0 H0 G H) (hp : Pull N H R) (hl : G.le G') : Inc G0 H0 G' (N ++ R) := ⟨h.1.trans hl, fun x hx => hp.perm.mem_iff.1 (h.2 x hx)⟩
theorem Inc.take {G G0 G' : Gh} {b : Nat} {o : Obj} {H0 H R : List (Nat × Obj)} (h : Inc G0 H0 G H) (hp : Take b o H R) (hl : G.le G') : Inc G0 H0 G' ((b, o) :: R) := ⟨h.1.trans hl, fun x hx => hp.perm.mem_iff.1 (h.2 x hx)⟩
section
variable {P : Program} {Q : Exit → Act → World → Prop} {F : Act → World → Prop} {e : Env} {n : Nat} {G : Gh} {H R : List (Nat × Obj)}
variable {d : Nat} {ty : TypeId} {pos : String} {af : Array Edge} {g : Option (Nat × Bool)}
theorem op_callOD {α : Type} {T : Tell α} {E : Nat} {l : List α} {A : Option Addr} {m c : Nat} {N : List (Nat × Obj)} {f : Nat} {fst cap : List Value} {fo : Operand} {xs : List Operand} {vs : List Value} {ats : Array TypeId} {Φ : Value → Prop} [hF : FnT P f]
    (ho : OwnS T E G l (.slice A m c) N) (hp : Pull N H R) (hn : Nat.blt d n = true) (hfo : evE e fo = some (.func (.func f) ⟨fst⟩ ⟨cap⟩)) (hx : evL e xs = some vs)
    (hcall : ∀ G1 W, G.le G1 → Sl T G1 A m c l → Hp G1 R W → Calls P f ⟨fst ++ vs ++ cap⟩ W (RetD G1 R (fun _ v => Φ v))) (h : ∀ v G', G.le G' → Φ v → Nx F ((d, v) :: e) n G' (N ++ R)) :
    OpNx P ⟨some d, .call { callee := .value fo, args := xs.toArray, argTypes := ats }, ty, pos, af, g⟩ Q F e n G H := by
  have key : OpNx P ⟨some d, .call { callee := .value fo, args := xs.toArray, argTypes := ats }, ty, pos, af, g⟩ Q F e n G (N ++ R) := by
    by_cases hl : l = [] ∧ N = []
    · obtain ⟨rfl, rfl⟩ := hl
      obtain ⟨A', c', hv, hc⟩ := ho.val
      cases hv
      have hs : Sl T G A 0 c [] := by
        refine ⟨rfl, hc, ?_, fun h0 => ?_⟩
        · cases ho with
          | nil _ => exact Nat.zero_le _
        · cases ho with
          | nil _ => omega
      exact op_callD (H := R) hn hfo hx (fun W hp => hcall G W (Gh.le.refl G) hs hp) h
    · obtain ⟨b, r, hN, hown⟩ : ∃ b r, N = [(b, row r E)] ∧ ∃ A', A = some ⟨b, 0, none⟩ ∧ A' = A := by
        cases ho with
        | nil h0 => exact absurd ⟨h0, rfl⟩ hl
        | at_ hc hm hs ht hr => rename_i b cur xs; exact ⟨b, cur.toList, rfl, _, rfl, rfl⟩
      obtain ⟨_, rfl, _⟩ := hown
      subst hN
      exact op_callBD (b := b) Take.here hn hfo hx (fun W hb hp => hcall _ W (Gh.put_le hb) (ho.lent hb) hp) h
  intro W hW a hf
  exact key W (hW.perm hp.perm) a hf
theorem op_callOS {α : Type} {T : Tell α} {E : Nat} {l : List α} {A : Option Addr} {m c : Nat} {N : List (Nat × Obj)} {f : Nat} {fst cap : List Value} {fo : Operand} {xs : List Operand} {vs : List Value} {ats : Array TypeId} {v : Value} [hF : FnT P f]
    (ho : OwnS T E G l (.slice A m c) N) (hp : Pull N H R) (hn : Nat.blt d n = true) (hfo : evE e fo = some (.func (.func f) ⟨fst⟩ ⟨cap⟩)) (hx : evL e xs = some vs)
    (hcall : ∀ G1 W, G.le G1 → Sl T G1 A m c l → Hp G1 R W → Calls P f ⟨fst ++ vs ++ cap⟩ W (RetS G1 R v)) (h : Nx F ((d, v) :: e) n G (N ++ R)) :
    OpNx P ⟨some d, .call { callee := .value fo, args := xs.toArray, argTypes := ats }, ty, pos, af, g⟩ Q F e n G H := by
  have key : OpNx P ⟨some d, .call { callee := .value fo, args := xs.toArray, argTypes := ats }, ty, pos, af, g⟩ Q F e n G (N ++ R) := by
    by_cases hl : l = [] ∧ N = []
    · obtain ⟨rfl, rfl⟩ := hl
      obtain ⟨A', c', hv, hc⟩ := ho.val
      cases hv
      have hs : Sl T G A 0 c [] := by
        refine ⟨rfl, hc, ?_, fun h0 => ?_⟩
        · cases ho with
          | nil _ => exact Nat.zero_le _
        · cases ho with
          | nil _ => omega
      exact op_callS (H := R) hn hfo hx (fun W hp => hcall G W (Gh.le.refl G) hs hp) h
    · obtain ⟨b, r, hN, hown⟩ : ∃ b r, N = [(b, row r E)] ∧ ∃ A', A = some ⟨b, 0, none⟩ ∧ A' = A := by
        cases ho with
        | nil h0 => exact absurd ⟨h0, rfl⟩ hl
        | at_ hc hm hs ht hr => rename_i b cur xs; exact ⟨b, cur.toList, rfl, _, rfl, rfl⟩
      obtain ⟨_, rfl, _⟩ := hown
      subst hN
      exact op_callB (b := b) Take.here hn hfo hx (fun W hb hp => hcall _ W (Gh.put_le hb) (ho.lent hb) hp) h
  intro W hW a hf
  exact key W (hW.perm hp.perm) a hf
theorem op_makeSliceU {t E sz bytes m : Nat} {z : Value} {x y : Operand} [hT : SliceT P t E sz bytes z] (hn : Nat.blt d n = true) (hx : evE e x = some (.int .i64 (m : Int))) (hy : evE e y = some (.int .i64 (m : Int))) (hm : m ≤ 1000) (hby : bytes ≤ 1000) (hszs : sz ≤ 1000)
    (h : ∀ b l, l.length = m * sz → Nx F ((d, .slice (some ⟨b, 0, none⟩) m m) :: e) n G ((b, row l E) :: H)) : OpNx P ⟨some d, .makeSlice t x y, ty, pos, af, g⟩ Q F e n G H := by
  intro W hp a hf
  obtain ⟨i, hi, hz0, hsz, hb, hzs⟩ := hT.info
  have hmul : i.bytes * m ≤ 1000 * 1000000 := Nat.mul_le_mul (by omega) (by omega)
  have hmul2 : m * i.size ≤ 1000 * 1000 := Nat.mul_le_mul (by omega) (by omega)
  have h1 := Int.ofNat_le.2 hmul
  rw [Int.natCast_mul] at h1
  have h2 : ((1000 * 1000000 : Nat) : Int) ≤ 281474976710656 := by decide
  have hrun := run_makeSlice (P := P) W t E i z hT.under hi hz0 .i64 .i64 (m : Int) (m : Int) (by omega) (Int.le_refl _) (by simp only [Int.toNat_natCast]; omega) (Int.le_trans h1 h2) (by omega)
  simp only [Int.toNat_natCast, hsz] at hrun
  unfold Oper.wp
  have he : (execOp a.eval ⟨some d, .makeSlice t x y, ty, pos, af, g⟩).run P W = .ok (.value (.slice (some ⟨W.heap.size, 0, none⟩) m m)) (W.alloc (row (madeCells z.cells (m * sz)).toList E)) := by
    simp only [execOp, hf.ev hx, hf.ev hy]
    simp [go_sem, hrun]
    rfl
  rw [he]
  simp only [Oper.upon]
  exact h W.heap.size _ (by rw [Array.length_toList, size_madeCells]) _ (hp.alloc _) _ (hf.put hn _)
end
end Go.Proofs.YtjckojnlapchoaaGreat
